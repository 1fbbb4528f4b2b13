/- Merged texts: WrapB Open0 OpenN OpenR Pk4 RawHD OpenH Pk5 Ln1 Ln2 Ln3 S31 Pk6. No statement of the program is proved here. -/
import Derived.Test.YtbkgnekfigknhaaGreatDoorQ33
import Derived.Test.YtbkgnekfigknhaaGreatDoorCards
import Derived.Test.YtbkgnekfigknhaaGreatDoorTie
import Derived.Lib.LaidIn
import Derived.Lib.LaidU8T
import Derived.Deep.DeepHandedRow
import Derived.Deep.DeepWitnessRowRef
import Derived.ProofKit
import Derived.SizedLaws
import Derived.OpenShut
import Derived.Stop.LaidTwo
import Derived.Deep.Slices
import Derived.Deep.Fields
import Derived.ChangeSame
import Derived.SevenTiedAt
import Derived.PinnedBridge
import Derived.Shelf.Vars
set_option linter.unusedSimpArgs false
set_option linter.unusedVariables false
set_option maxRecDepth 100000
set_option maxHeartbeats 8000000
section
namespace Go.Proofs.YtbkgnekfigknhaaGreatDoor
open Go.ChangeShapes Go.WideShapes Go.ChangeAt Go.RowKit Go.Lib Go.Mor Go.Deep
open Go.ChangeMaps (open_string shut_string)
theorem own:ownKnob Tryz.prog.godebug=none:=by kernel_rfl
theorem zoP:Rows.laid_unicode_utf8_acceptRanges=Lib.acceptData:=by kernel_rfl
theorem zqw{W:World}(h:W.ShapedOpen Tryz.prog):8≤W.heap.size:=by
 obtain⟨o,o0,h1,_⟩:=h.2 8 (of_decide_eq_true (by kernel_rfl)) (of_decide_eq_true (by kernel_rfl));exact Nat.le_of_lt (gA h1).1
theorem zlC{W:World}{L:List (String×DataW Unit)}(hL:laidMet Tryz.prog L W)(h1:("unicode/utf8.first",Rows.laid_unicode_utf8_first)∈L)(h2:("unicode/utf8.acceptRanges",Rows.laid_unicode_utf8_acceptRanges)∈L):GlobU W:=
 ⟨utf8Tabs_of_readsT (U8Types.of196 Tryz.laysValid) ⟨by kernel_rfl,by kernel_rfl,by kernel_rfl,by kernel_rfl,by kernel_rfl,by kernel_rfl,by kernel_rfl⟩ (by rw[←Pinned.utf8First_eq];exact Lib.laidMet.reads hL h1) (by rw[←zoP];exact Lib.laidMet.reads hL h2)⟩
def zeq:DataW Unit→List Value
 | .agg l=>l.map fun x=>match x with| .lit y=>y.value|_=>undef
 |_=>[]
def zkp:DataW Unit→zB
 | .iface _ (.ptr (.agg [.lit (.string l)]))=>l
 |_=>[]
noncomputable def z1W(os:Os):World:=
 let N:=(World.settled Tryz.prog os).heap.size
 let w0:=World.holding Tryz.prog os ⟨#[.cells #[.string ⟨(zkp Rows.laid_strconv_ErrRange).toArray⟩] 313,.cells #[.string ⟨(zkp Rows.laid_strconv_ErrSyntax).toArray⟩] 313],#[],[]⟩
 let put (h:Array Obj) (g:Nat) (cs:Array Value):Array Obj:=h.modify g fun
  | .cells _ t frozen=> .cells cs t frozen
  |o=>o
 let h:=w0.heap
 let h:=put h 6 (zeq Rows.laid_math_bits_deBruijn32tab).toArray
 let h:=put h 7 (zeq Rows.laid_math_bits_deBruijn64tab).toArray
 let h:=put h 3 (zeq Rows.laid_internal_strconv_uint64pow10).toArray
 let h:=put h 1 ((List.range 16).flatMap fun i=>[Value.int .u8 (Lib.accLo i),Value.int .u8 (Lib.accHi i)]).toArray
 let h:=put h 5 #[.iface 311 (.pointer (some ⟨N,0,none⟩))]
 let h:=put h 4 #[.iface 311 (.pointer (some ⟨N+1,0,none⟩))]
 let h:=put h 0 (Lib.firstTab.map fun z=>Value.int .u8 z).toArray
 { w0 with heap:=h }
noncomputable abbrev N0:Nat:=(World.settled Tryz.prog default).heap.size
theorem znW:laidOutB Tryz.prog=true:=by kernel_rfl
section
variable{H:Type}{enc:TypeId×Value→H}
theorem zdm{W W':World}(hb:Below W.heap.size W W'){sp:Nat→Bool}:∀{ts:List TypeId} {vs:List Value} {ds:List (DataW H)} {ps:List MemPlace},
  (ts.all fun t=>Tryz.prog.readableRec t&&decide (t<Tryz.prog.types.size))=true→DataW.TrodAll enc Tryz.prog W 0 (fun _=>true) true ts vs ds ps→(∀x∈ps,x.block<W.heap.size)→(∀x∈ps,sp x.block=true)→
  DataW.TrodAll enc Tryz.prog W' 0 sp true ts vs ds ps:=by
 intro ts
 induction ts with
 |nil=>
  intro vs ds ps _ h _ _;obtain⟨rfl,rfl,rfl⟩:=trodAll_nil h;exact trodAll_mk0
 |cons t ts ih=>
  intro vs ds ps hr h hlt hsp;obtain⟨v,vs',d,ds',p,q,rfl,rfl,rfl,h1,h2⟩:=trodAll_cons h;simp only[List.all_cons,Bool.and_eq_true,decide_eq_true_iff]at hr;refine trodAll_cons_mk (WideElems.Trod_stays znW hr.1.1 hr.1.2 h1 (fun x hx=>hb.same (hlt x (by simp[hx]))) (fun x hx=>hsp x (by simp[hx]))) (ih hr.2 h2 (fun x hx=>hlt x (by simp[hx])) (fun x hx=>hsp x (by simp[hx])))
theorem zdd{P:Program}{f:Func}{s:ChangeSpec}{z2n fresh handsOn again:Bool}{W W':World}{args:Array Value}{v:Value}{ds gs:List (DataW H)}{before pa pv:List MemPlace}
  (hW:DataW.Whole enc P f.params.toList s.vars z2n W args.toList ds gs before)
  (hres:∀(b:Nat) (sp:Nat→Bool) (hd:Bool),DataW.TrodAll enc P W' b sp hd f.resultTypes.toList (v.resultList f.resultTypes.size) (s.fn H (ds++gs)).results [])
  (hargs:∀sp:Nat→Bool,(∀p∈before,sp p.block=true)→DataW.TrodAll enc P W' 0 sp true f.params.toList args.toList (s.fn H (ds++gs)).args pa)
  (hvars:∀sp:Nat→Bool,(∀p∈before,sp p.block=true)→DataW.TrodVars enc P W' sp s.vars (s.fn H (ds++gs)).vars pv)
  (hps:before=pa++pv) (hb:Below W.heap.size W W')
  (hok:∀(j:Nat) (t:TypeId) (r:Value),f.resultTypes[j]?=some t→(v.resultList f.resultTypes.size)[j]?=some r→Value.okWide P W' .any 0 t r):
  s.post enc P f z2n fresh handsOn again W args v W':=by
 have hlt:∀p∈before,p.block<W.heap.size:=fun p hp=>hW.lt p hp;have hold:∀p∈before,(fun b=>decide (b<W.heap.size)) p.block=true:=fun p hp=>by simpa using hlt p hp
 refine⟨ds,gs,before,[],pa,pv,hW,hres _ _ _,hargs _ hold,hvars _ hold,World.keptBut_mono (fun p hp=>⟨hp,?_⟩) (hb.frame (·∈before)),fun _=> ?_⟩
 ·rw[hps,List.mem_append]at hp;exact Or.inr hp
 ·obtain⟨_,_,_,_,_,hz,hn⟩:=hW;refine⟨hok,_,_,([]++pa)++pv,⟨[]++pa,pv,trodAll_append (hargs _ (fun _ _=>rfl)) (hres _ _ _),hvars _ (fun _ _=>rfl),rfl,?_,?_⟩,?_⟩
  ·intro b off hp;have hin:MemPlace.cell b off∈before:=by rw[hps];simpa using hp
   rw[hb.frozen (hlt _ hin)];exact hz b off hin
  ·intro ha;have:=hn ha;rw[hps]at this;simpa using this
  ·intro p hp _;rw[hps];simpa using hp
theorem zhF(f:FuncId)(fn:Func)(sp:ChangeSpec){W W':World}{args:Array Value}{ds gs:List (DataW H)}{before:List MemPlace}{fresh handsOn again:Bool}
  (hv:sp.vars=[]) (hr:(fn.params.toList.all fun t=>Tryz.prog.readableRec t&&decide (t<Tryz.prog.types.size))=true) (hres:fn.resultTypes= #[4])
  (hfn:sp.fn H (ds++[])={ results:=[.lit (.bool true)],args:=ds })
  (hW:DataW.Whole enc Tryz.prog fn.params.toList sp.vars false W args.toList ds gs before) (hb:Below W.heap.size W W'):
  sp.post enc Tryz.prog fn false fresh handsOn again W args (.bool true) W':=by
 have hW':=hW;obtain⟨p,q,hA,hV,rfl,_,_⟩:=hW;rw[hv]at hV;obtain⟨rfl,rfl⟩:=trodVars_none hV;have hlt:∀x∈p,x.block<W.heap.size:=fun x hx=>hW'.lt x (by simp[hx]);refine zdd (pa:=p) (pv:=[]) hW' (fun b sp' hd=> ?_) (fun sp' hsp=> ?_) (fun sp' hsp=> ?_) rfl hb ?_
 ·rw[hfn,hres];exact trodAll_mk1 (shut_bool Tryz.underlying4 _)
 ·rw[hfn];exact zdm hb hr hA hlt (fun x hx=>hsp x (by simp[hx]))
 ·rw[hfn,hv];rfl
 ·exact ok_one hres rfl (okWide_bool_mk Tryz.underlying4 _)
end
end Go.Proofs.YtbkgnekfigknhaaGreatDoor
end

section
namespace Go.Proofs.YtbkgnekfigknhaaGreatDoor
open Go.ChangeShapes Go.WideShapes Go.ChangeAt Go.RowKit Go.Lib Go.Mor Go.Deep Go.Joins
open Go.Sh (RelT RelV TV PV SCalls Env MSim z0o zy z23 Low)
open Go.ChangeMaps (open_string shut_string)
def z0I(w:World):Env:=⟨fun k _=>k<w.heap.size,fun _=>0,fun _=>none,fun _=>0⟩
theorem z3g(d:Nat):z0o [] d=none:=by simp[z0o]
theorem z4J(d:Nat):zy [] d=none:=by simp[zy]
theorem z6r{P:Program}{f:Nat}{xs:List TV}{vs:List Value}{w:World}{g:Go.Sh.Glob}{b:Value}(h:SCalls P g f xs [] (.pv (.v b)) [])(hG:g.G w)(hl:xs.length=vs.length)
  (hr:∀(j:Nat) x v,xs[j]?=some x→vs[j]?=some v→RelT w (z0I w) (zy []) x v):Calls P f vs.toArray w fun e w'=>e=.returned b∧Below w.heap.size w w':=by
 have hX:∀d k,¬z23 (z0I w) [] d k:=by
  rintro d k (⟨cs,h1,_⟩|⟨q,cap,h1,_⟩)
  ·rw[z3g]at h1;cases h1
  ·rw[z4J]at h1;cases h1
 refine(h.2 w (z0I w) vs hG ?_ (fun d k hd=>absurd hd (hX d k)) hl hr).mono ?_
 ·refine⟨fun d cs hd=> ?_,fun d e W n hd=> ?_,fun d d' cs cs' hd=> ?_,fun d d' cs q k cap hd=> ?_,fun d d' q q' k cap cap' hd=> ?_,fun k o hk=>hk,⟨rfl,rfl,rfl,Nat.le_refl _,fun _ _ _=>rfl⟩,fun k o u hk hu=>⟨hk,hu⟩,fun k o hk=> .inl hk,?_⟩
  ·rw[z3g]at hd;cases hd
  ·rw[z4J]at hd;cases hd
  ·rw[z3g]at hd;cases hd
  ·rw[z3g]at hd;cases hd
  ·rw[z4J]at hd;cases hd
  ·have hold:∀d,¬(Go.Sh.start w (z0I w) [] 0).old d:=fun d h=>by have h1:1000≤d∧d<1000+0:=h;omega
   constructor<;>(intros;first|(exfalso;apply hold;assumption)|rfl)
 ·rintro e w' ⟨v,E',rfl,hm,hv,_⟩;obtain rfl:=Go.Sh.val_rel (y:=b) hv rfl;exact⟨rfl,hm.low.os,hm.low.tape,hm.low.output,hm.low.size,fun k hk=>hm.low.block k hk (fun d=>hX d k)⟩
end Go.Proofs.YtbkgnekfigknhaaGreatDoor
end

section
namespace Go.Proofs.YtbkgnekfigknhaaGreatDoor
open Go.ChangeShapes Go.WideShapes Go.ChangeAt Go.RowKit Go.Lib Go.Mor Go.Deep Go.Joins
open Go.Sh (RelT RelV TV PV SCalls Env MSim z0o zy z23 Low)
open Go.ChangeMaps (open_string shut_string)
section
variable{H:Type}{enc:TypeId×Value→H}
theorem z8u{t e:TypeId}{k:IntKind}(ht:Tryz.prog.underlying t=some (.slice e))(he:Tryz.prog.underlying e=some (.int k))(hc:Tryz.prog.cellsOf e=1)
  {W:World} {b0 base:Nat} {spare:Nat→Bool} {held:Bool} {v:Value} {d:DataW H} {p:List MemPlace} (hok:Value.okWide Tryz.prog W .any b0 t v) (h:DataW.Trod enc Tryz.prog W base spare held t v d p):
  ∃l:List Int,(∀x∈l,(Lit.int k x).wf=true)∧l.length≤9223372036854775807∧∀r,RelT W (z0I W) r (.pv (.sl 1 (l.map fun z=>[PV.v (.int k z)]))) v:=by
 obtain⟨a0,len,cap,rfl⟩:=okWide_slice ht hok;obtain⟨fuel,hf⟩:=h;rcases open_ints ht he hc hf with⟨hcs,hx⟩|⟨a,len',cap',zs,hcs,_,hl,hm,hz,hx,hcell,hwz⟩
 ·obtain⟨rfl,rfl,rfl⟩:a0=none∧len=0∧cap=0:=by simpa [Value.cells]using hcs
  exact⟨[],by simp,by simp,fun r=> .pv (.sl 1 [] 0 0 0 none (fun _ _=>undef) (by simp) (by simp) (by simp) (by simp) (by simp) (by simp))⟩
 ·obtain⟨rfl,rfl,rfl⟩:a0=some a∧len=len'∧cap=cap':=by simpa [Value.cells]using hcs
  have hlz:len≤zs.length:=by rw[hz];split<;>omega
  have hlen:(zs.take len).length=len:=by rw[List.length_take];omega
  refine⟨zs.take len,fun x hx=>hwz x (List.mem_of_mem_take hx),by unfold maxLen at hm;omega,fun r=> ?_⟩;have hL:((zs.take len).map fun z=>[PV.v (.int k z)]).length=len:=by rw[List.length_map,hlen]
  rcases Nat.eq_zero_or_pos zs.length with h0|h0
  ·obtain rfl:len=0:=by omega
   have e0:(zs.take 0).map (fun z=>[PV.v (.int k z)])=[]:=by simp
   rw[e0];exact .pv (.sl 1 [] 0 0 cap (some a) (fun _ _=>undef) (by simp) (by simp) hm (by simp) (by simp) (by simp))
  ·obtain⟨b,off,rfl,hcl⟩:=ints_at hcell h0;have cell:∀(i j:Nat) cs q,((zs.take len).map fun z=>[PV.v (.int k z)])[i]?=some cs→cs[j]?=some q→∃u,q=.v u∧W.cell? ⟨b,off+i*1+j,none⟩=some u∧Go.Sh.one u:=by
    intro i j cs q h1 h2;rw[List.getElem?_map,Option.map_eq_some_iff]at h1;obtain⟨z,hz1,rfl⟩:=h1;obtain⟨hi,he⟩:=gJ hz1;have hi':i<zs.length:=by rw[hlen]at hi;omega
    match j with
    |0=>
     simp at h2;subst h2;refine⟨_,rfl,?_,rfl⟩;have:=hcl i hi';rw[List.getElem_take]at he;rw[List.getD_eq_getElem?_getD,gE hi',Option.getD_some,he]at this;simpa using this
    |j+1=>simp at h2
   have key:RelV W (z0I W).K (.sl 1 ((zs.take len).map fun z=>[PV.v (.int k z)])) (.slice (some ⟨b,off,none⟩) ((zs.take len).map fun z=>[PV.v (.int k z)]).length cap):=by
    refine .sl 1 _ b off cap (some ⟨b,off,none⟩) (fun i j=>(W.cell? ⟨b,off+i*1+j,none⟩).getD undef) (fun _=>rfl) (by omega) hm (fun cs hcs=> ?_) (fun i j cs q h1 h2=> ?_) (fun i j cs q h1 h2=> ?_)
    ·obtain⟨r,_,rfl⟩:=List.mem_map.1 hcs;rfl
    ·obtain⟨u,_,hu,ho⟩:=cell i j cs q h1 h2;rw[hu];exact⟨z18 (a:=⟨b,off+i*1+j,none⟩) hu,rfl,ho⟩
    ·obtain⟨u,rfl,hu,ho⟩:=cell i j cs q h1 h2;rw[hu];exact .v u
   rw[hL]at key;exact .pv key
end
end Go.Proofs.YtbkgnekfigknhaaGreatDoor
end

section
namespace Go.Proofs.YtbkgnekfigknhaaGreatDoor.OpR
open Go.ChangeShapes Go.WideShapes Go.ChangeAt Go.RowKit Go.Lib Go.Mor Go.Deep Go.Joins
open Go.ChangeMaps (open_string shut_string)
theorem zgq{α:Type}{n:Nat}{Q:Nat→α→Prop}(h:∀i,i<n→∃r,Q i r):∃l:List α,l.length=n∧∀(i:Nat) r,l[i]?=some r→Q i r:=by
 induction n with
 |zero=>exact⟨[],rfl,by simp⟩
 |succ n ih=>
  obtain⟨l,hl,hq⟩:=ih fun i hi=>h i (by omega);obtain⟨r,hr⟩:=h n (by omega);refine⟨l++[r],by simp[hl],fun i x hx=> ?_⟩;rw[List.getElem?_append]at hx;split at hx
  ·exact hq i x hx
  ·rw[List.getElem?_singleton]at hx;split at hx
   ·injection hx with hx;subst hx
    obtain rfl:i=n:=by omega
    exact hr
   ·cases hx
section
variable{H:Type}{enc:TypeId×Value→H}{P:Program}{w:World}{base:Nat}{spare:Nat→Bool}{held:Bool}
theorem zfL{t e:TypeId}{fs:Array Field}{fuel:Nat}{cs:List Value}{x:DataW H×List MemPlace}(ht:P.underlying t=some (.slice e))(he:P.underlying e=some (.struct fs))
  (hone:oneCellFields P fs=true) (hC:P.cellsOf e=fs.size) (h:DataW.trod enc P w base spare held fuel t cs=some x):
  (cs=[.slice none 0 0])∨
  ∃(a:Addr) (len cap:Nat),cs=[.slice (some a) len cap]∧len≤cap∧cap≤maxLen∧
   ∀i,i<len→∃n,∀(j:Nat) (f:Field),fs[j]?=some f→∃(v:Value) (y:DataW H×List MemPlace),w.cell? (a.add (i*fs.size+j))=some v∧DataW.trod enc P w base spare held n f.type [v]=some y:=by
 rcases open_slice ht h with h0|⟨a,len,cap,m,n,D,Pl,hcs,hb,hl,hm,hmm,hx,hi⟩
 ·exact .inl h0.1
 ·refine .inr ⟨a,len,cap,hcs,hl,hm,fun i him=> ?_⟩;obtain⟨cs',hc,ht'⟩:=hi i (by rw[hmm];split<;>omega);rw[hC]at hc;obtain⟨ys,n',hn',hy,hlen,hyl,hf⟩:=DataW.trod_struct he ht';obtain⟨_,hcl,hat⟩:=World.cells?_some hc;refine⟨n',fun j f hj=> ?_⟩;obtain⟨ho,hk⟩:=hone_of hone j f hj;have hjl:j<fs.size:=(gA hj).1;have hcell:=hat j hjl;have hv:cs'[j]?=some (cs'[j]'(by omega)):=gE (by omega);have h1:=hf j f hj;rw[ho,hk]at h1;have hone':(cs'.drop j).take 1=[cs'[j]'(by omega)]:=by
   rw[List.drop_eq_getElem_cons (by omega)];rfl
  rw[hone']at h1;have hys:ys[j]?=some (ys[j]'(by omega)):=gE (by omega);refine⟨_,_,?_,h1.trans hys⟩;rw[←Go.Deep.add_add,hcell,hv]
end
theorem z72{a:Addr}{w:World}{k:Nat}{v:Value}(h0:w.cell? a=some v):a=⟨a.block,a.off,none⟩∧a.add k=⟨a.block,a.off+k,none⟩:=by
 have:=World.cell?_spot h0;obtain⟨b,off,spot⟩:=a;simp at this;subst this;exact⟨rfl,Go.WideShapes.add_plain ..⟩
end Go.Proofs.YtbkgnekfigknhaaGreatDoor.OpR
namespace Go.Proofs.YtbkgnekfigknhaaGreatDoor
open Go.ChangeShapes Go.WideShapes Go.ChangeAt Go.RowKit Go.Lib Go.Mor Go.Deep Go.Joins
open Go.Sh (RelT RelV TV PV SCalls Env MSim z0o zy z23 Low)
open Go.ChangeMaps (open_string shut_string)
open Go.Proofs.YtbkgnekfigknhaaGreatDoor.OpR
section
variable{H:Type}{enc:TypeId×Value→H}
theorem zm4{W:World}{base:Nat}{spare:Nat→Bool}{held:Bool}{fuel:Nat}{c:Value}{y:DataW H×List MemPlace}(h:DataW.trod enc Tryz.prog W base spare held fuel 63 [c]=some y):
  ∃l:List RawF,(∀r∈l,I64 r.n∧I64 r.k∧I64 r.o)∧l.length≤9223372036854775807∧RelV W (z0I W).K (.sl 4 (rfR l)) c:=by
 rcases zfL Tryz.underlying63 Tryz.underlying112 (by kernel_rfl) (by kernel_rfl) h with h0|⟨a,len,cap,hcs,hl,hm,hi⟩
 ·obtain rfl:c=.slice none 0 0:=by simpa using h0
  exact⟨[],by simp,by simp,.sl 4 [] 0 0 0 none (fun _ _=>undef) (by simp) (by simp) (by simp) (by simp) (by simp) (by simp)⟩
 ·obtain rfl:c=.slice (some a) len cap:=by simpa using hcs
  have key:∀i,i<len→∃r:RawF,(I64 r.n∧I64 r.k∧I64 r.o)∧a=⟨a.block,a.off,none⟩∧W.cell? ⟨a.block,a.off+i*4,none⟩=some (.int .i64 r.n)∧W.cell? ⟨a.block,a.off+i*4+1,none⟩=some (.int .i64 r.k)
    ∧W.cell? ⟨a.block,a.off+i*4+2,none⟩=some (.int .i64 r.o)∧W.cell? ⟨a.block,a.off+i*4+3,none⟩=some (.bool r.ix):=by
   intro i hlt;obtain⟨n0,hf0⟩:=hi 0 (by omega);obtain⟨v,y,hc0,_⟩:=hf0 0 _ rfl;have ha:a=⟨a.block,a.off,none⟩:=(z72 (k:=0) (by simpa [Addr.add]using hc0)).1;have hadd:∀k,a.add k=⟨a.block,a.off+k,none⟩:=fun k=>(z72 (k:=k) (by simpa [Addr.add]using hc0)).2;obtain⟨n,hf⟩:=hi i hlt;obtain⟨v0,y0,c0,t0⟩:=hf 0 _ rfl;obtain⟨v1,y1,c1,t1⟩:=hf 1 _ rfl;obtain⟨v2,y2,c2,t2⟩:=hf 2 _ rfl;obtain⟨v3,y3,c3,t3⟩:=hf 3 _ rfl;obtain⟨z0,e0,_,w0⟩:=DataW.trod_int Tryz.underlying3 t0;obtain⟨z1,e1,_,w1⟩:=DataW.trod_int Tryz.underlying3 t1;obtain⟨z2,e2,_,w2⟩:=DataW.trod_int Tryz.underlying3 t2;obtain⟨z3,e3,_⟩:=DataW.trod_bool Tryz.underlying4 t3;simp at e0 e1 e2 e3;subst e0 e1 e2 e3;rw[hadd]at c0 c1 c2 c3;exact⟨⟨z0,z1,z2,z3⟩,⟨bounds_i64 w0,bounds_i64 w1,bounds_i64 w2⟩,ha,c0,c1,c2,c3⟩
  obtain⟨l,hlen,hq⟩:=zgq key;refine⟨l,fun r hr=> ?_,by unfold maxLen at hm;omega,?_⟩
  ·obtain⟨i,hi⟩:=List.getElem?_of_mem hr;exact(hq i r hi).1
  ·have hL:(rfR l).length=len:=by rw[zbp,hlen]
   rw[←hL];have cell:∀(i j:Nat) cs q,(rfR l)[i]?=some cs→cs[j]?=some q→∃u,q=.v u∧W.cell? ⟨a.block,a.off+i*4+j,none⟩=some u∧Go.Sh.one u:=by
    intro i j cs q h1 h2;rw[zi9,Option.map_eq_some_iff]at h1;obtain⟨r,hr,rfl⟩:=h1;obtain⟨_,_,c0,c1,c2,c3⟩:=hq i r hr
    match j with
    |0=>simp[z7F]at h2;subst h2;exact⟨_,rfl,c0,rfl⟩
    |1=>simp[z7F]at h2;subst h2;exact⟨_,rfl,c1,rfl⟩
    |2=>simp[z7F]at h2;subst h2;exact⟨_,rfl,c2,rfl⟩
    |3=>simp[z7F]at h2;subst h2;exact⟨_,rfl,c3,rfl⟩
    |j+4=>simp[z7F]at h2
   refine .sl 4 (rfR l) a.block a.off cap (some a) (fun i j=>(W.cell? ⟨a.block,a.off+i*4+j,none⟩).getD undef) (fun hne=> ?_) (by omega) hm (fun cs hcs=> ?_) (fun i j cs q h1 h2=> ?_) (fun i j cs q h1 h2=> ?_)
   ·obtain⟨r,hr⟩:∃r,l[0]?=some r:=by
     cases l with
     |nil=>exact absurd rfl hne
     |cons r q=>exact⟨r,rfl⟩
    rw[(hq 0 r hr).2.1]
   ·obtain⟨r,_,rfl⟩:=List.mem_map.1 hcs;rfl
   ·obtain⟨u,_,hu,ho⟩:=cell i j cs q h1 h2;rw[hu];exact⟨z18 (a:=⟨a.block,a.off+i*4+j,none⟩) hu,rfl,ho⟩
   ·obtain⟨u,rfl,hu,ho⟩:=cell i j cs q h1 h2;rw[hu];exact .v u
end
end Go.Proofs.YtbkgnekfigknhaaGreatDoor
end

section
namespace Go.Mor
open Go
def z7k(fs:List Fld)(n:Nat)(t:Ty):Nat→Nat→Option (zB)
 |0,_=>none
 |k+1,i=>if z0f (fs.getD ((n+i)%fs.length) z4j).t t then some (fs.getD ((n+i)%fs.length) z4j).n else z7k fs n t k (i+1)
def z3H(c:Cls)(n:Int)(t:Ty):Option (zB):=z7k c.fs (pick n 100).toNat t c.fs.length 0
def zeA(a b:zB):List (zB):=[[],[51],a,a++[32,42,32,50,32,45,32,49],[108,101,110,40]++b++[41],[105,102,40]++a++[32,62,32,50,44,32]++a++[44,32,48,32,45,32]++a++[41],[102,105,110,100,40,34,98,34,44,32]++b++[41],a++[32,47,32]++a]
def zfk(a b:zB):List (zB):=[[],[34,120,34],b,b++[32,38,32,34,45,34,32,38,32]++b,[116,101,120,116,40]++a++[41],[108,101,102,116,40]++b++[44,32,50,41],[102,114,111,109,40]++b++[44,32,51,41],[105,102,40]++a++[32,61,32,49,44,32]++b++[44,32,34,110,111,34,41]]
def z8s(c:Cls)(n:Int):zB:=(z3H c n ⟨1,0⟩).getD [55]
def z8W(c:Cls)(n:Int):zB:=(z3H c (n.tdiv 2) ⟨2,0⟩).getD [34,97,32,98,34]
def z4T(n:Int)(t:Ty)(c:Cls):zB:=
 if t.k=1 then(zeA (z8s c n) (z8W c n)).getD (pick n 8).toNat []
 else if t.k=2 then(zfk (z8s c n) (z8W c n)).getD (pick n 8).toNat []
 else match z3H c n t with
  |some s=>if 0<pick n 3 then s else []
  |none=>[]
structure RawH where
 k:Int
 f:Int
 n:Int
 m:Int
 t:Ty
 x:Int
 o:Int
def nmH(i:Int):zB:=([[110,101,119,95,49],[109,111,114,101],[122,57],[97],[110,97,109,101],[107,105,100,115]]:List (zB)).getD i.toNat []
def tyH(t:Ty):Ty:=⟨1+pick t.k 5,if pick t.k 5=4 then 1+pick t.o 4 else 0⟩
def z3r(x:RawH)(c:Cls):Chg:=
 let f:=if c.fs=[] then [] else(c.fs.getD (pick x.f c.fs.length).toNat z4j).n
 let k:=1+pick x.k 6
 let t:=tyH x.t
 let e:=z4T x.x t c
 if k=1 then⟨k,[],nmH (pick x.n 6),[],t,e,[]⟩
 else if k=3 then⟨k,f,nmH (pick x.n 6),[],ty0,[],[]⟩
 else if k=4 then⟨k,f,[],[],t,e,[]⟩
 else if k=5 then⟨k,f,nmH (pick x.n 6),nmH (pick x.m 6),t,e,z4T x.o t c⟩
 else⟨k,f,[],[],ty0,[],[]⟩
def nmL:List (zB):=[[97],[98,50],[110,97,109,101],[110,101,120,116,95,111,110,101],[107,105,100,115],[120],[110,101,119,95,49],[109,111,114,101],[122,57],[113,117,105,116,101,95,110,101,119]]
def numL:List (zB):=[55]::nmL
def txtL:List (zB):=[34,97,32,98,34]::nmL
def exA(a:zB):List (zB):=[a++[32,42,32,50,32,45,32,49],[105,102,40]++a++[32,62,32,50,44,32]++a++[44,32,48,32,45,32]++a++[41],a++[32,47,32]++a,[116,101,120,116,40]++a++[41]]
def exB(b:zB):List (zB):=[[108,101,110,40]++b++[41],[102,105,110,100,40,34,98,34,44,32]++b++[41],b++[32,38,32,34,45,34,32,38,32]++b,[108,101,102,116,40]++b++[44,32,50,41],[102,114,111,109,40]++b++[44,32,51,41]]
def exC(a b:zB):zB:=[105,102,40]++a++[32,61,32,49,44,32]++b++[44,32,34,110,111,34,41]
def exN:List (zB):=[55]::[34,97,32,98,34]::nmL++[[51],[34,120,34]]
def exL:List (zB):=exN++numL.flatMap exA++txtL.flatMap exB++numL.flatMap fun a=>txtL.map (exC a)
theorem zn9{a:zB}(h:a∈numL):a∈exL:=by
 refine List.mem_append_left _ (List.mem_append_left _ (List.mem_append_left _ ?_))
 grind [exN,numL]
theorem zqu{b:zB}(h:b∈txtL):b∈exL:=by
 refine List.mem_append_left _ (List.mem_append_left _ (List.mem_append_left _ ?_))
 grind [exN,txtL]
theorem zna{e:zB}(h:e∈exN):e∈exL:=List.mem_append_left _ (List.mem_append_left _ (List.mem_append_left _ h))
theorem zdp{a e:zB}(h:a∈numL)(he:e∈exA a):e∈exL:=List.mem_append_left _ (List.mem_append_left _ (List.mem_append_right _ (List.mem_flatMap.2 ⟨a,h,he⟩)))
theorem zb2{b e:zB}(h:b∈txtL)(he:e∈exB b):e∈exL:=List.mem_append_left _ (List.mem_append_right _ (List.mem_flatMap.2 ⟨b,h,he⟩))
theorem zqt{a b:zB}(ha:a∈numL)(hb:b∈txtL):exC a b∈exL:=List.mem_append_right _ (List.mem_flatMap.2 ⟨a,ha,List.mem_map.2 ⟨b,hb,rfl⟩⟩)
theorem zo8{a b:zB}(ha:a∈numL)(hb:b∈txtL){e:zB}(he:e∈zeA a b):e=[]∨e∈exL:=by
 unfold zeA at he;simp only[List.mem_cons,List.not_mem_nil,or_false]at he;rcases he with rfl|rfl|rfl|rfl|rfl|rfl|rfl|rfl
 ·simp
 ·exact .inr (zna (by decide))
 ·grind [zn9]
 ·grind [zdp,exA]
 ·grind [zb2,exB]
 ·grind [zdp,exA]
 ·grind [zb2,exB]
 ·grind [zdp,exA]
theorem zoA{a b:zB}(ha:a∈numL)(hb:b∈txtL){e:zB}(he:e∈zfk a b):e=[]∨e∈exL:=by
 unfold zfk at he;simp only[List.mem_cons,List.not_mem_nil,or_false]at he;rcases he with rfl|rfl|rfl|rfl|rfl|rfl|rfl|rfl
 ·simp
 ·exact .inr (zna (by decide))
 ·grind [zqu]
 ·grind [zb2,exB]
 ·exact .inr (zdp ha (by simp[exA]))
 ·exact .inr (zb2 hb (by simp[exB]))
 ·exact .inr (zb2 hb (by simp[exB]))
 ·exact .inr (zqt ha hb)
theorem zcB{fs:List Fld}(hne:fs≠[]){n:Nat}{t:Ty}:∀{k i:Nat} {s:zB},z7k fs n t k i=some s→∃f∈fs,f.n=s∧z0f f.t t=true
 |0,_,s,h=>by cases h
 |k+1,i,s,h=>by
  rw[z7k]at h;split at h
  ·grind [Nat.mod_lt,List.length_pos_iff,List.getElem_mem,List.getElem?_eq_getElem]
  ·exact zcB hne h
theorem zag{c:Cls}{n:Int}{t:Ty}{s:zB}(h:z3H c n t=some s):∃f∈c.fs,f.n=s∧z0f f.t t=true:=by
 unfold z3H at h;refine zcB (fun e=> ?_) h;rw[e]at h;cases h
theorem zap{c:Cls}(hc:∀f∈c.fs,f.n∈nmL)(n:Int):z8s c n∈numL:=by
 unfold z8s;cases h:z3H c n ⟨1,0⟩ with
 |none=>exact List.mem_cons_self ..
 |some s=>
  obtain⟨f,hf,rfl,_⟩:=zag h;exact List.mem_cons_of_mem _ (hc f hf)
theorem zaE{c:Cls}(hc:∀f∈c.fs,f.n∈nmL)(n:Int):z8W c n∈txtL:=by
 unfold z8W;cases h:z3H c (n.tdiv 2) ⟨2,0⟩ with
 |none=>exact List.mem_cons_self ..
 |some s=>
  obtain⟨f,hf,rfl,_⟩:=zag h;exact List.mem_cons_of_mem _ (hc f hf)
theorem zcs{c:Cls}(hc:∀f∈c.fs,f.n∈nmL)(n:Int)(t:Ty):z4T n t c=[]∨z4T n t c∈exL:=by
 unfold z4T;split
 ·grind [zeA,z8s,z8W,pick,zo8,zap,zaE]
 split
 ·grind [zfk,z8s,z8W,pick,zoA,zap,zaE]
 cases h:z3H c n t with
 |none=>simp
 |some s=>
  obtain⟨f,hf,rfl,_⟩:=zag h
  dsimp only
  split
  ·exact .inr (zn9 (List.mem_cons_of_mem _ (hc f hf)))
  ·simp
end Go.Mor
end

section
namespace Go.Proofs.YtbkgnekfigknhaaGreatDoor
open Go Go.RowKit Go.Mor Go.Sh
structure RawHOk(r:RawH):Prop where
 k:I64 r.k
 f:I64 r.f
 n:I64 r.n
 m:I64 r.m
 tk:I64 r.t.k
 ot:I64 r.t.o
 x:I64 r.x
 o:I64 r.o
def zi3(x:RawH):TV:=.agg [I x.k,I x.f,I x.n,I x.m,I x.t.k,I x.t.o,I x.x,I x.o]
end Go.Proofs.YtbkgnekfigknhaaGreatDoor
end

section
namespace Go.Proofs.YtbkgnekfigknhaaGreatDoor
open Go.ChangeShapes Go.WideShapes Go.ChangeAt Go.RowKit Go.Lib Go.Mor Go.Deep Go.Joins
open Go.Sh (RelT RelV TV PV SCalls Env MSim z0o zy z23 Low)
open Go.ChangeMaps (open_string shut_string)
section
variable{H:Type}{enc:TypeId×Value→H}
theorem zdv{α:Type}{l:List α}(h:l.length=2):∃a b,l=[a,b]:=by
 match l,h with
 |[a,b],_=>exact⟨a,b,rfl⟩
theorem zqA{α:Type}{l:List α}(h:l.length=7):∃a b c d e f g,l=[a,b,c,d,e,f,g]:=by
 match l,h with
 |[a,b,c,d,e,f,g],_=>exact⟨a,b,c,d,e,f,g,rfl⟩
theorem zqB{α:Type}{l:List α}(h:l.length=8):∃a b c d e f g i,l=[a,b,c,d,e,f,g,i]:=by
 match l,h with
 |[a,b,c,d,e,f,g,i],_=>exact⟨a,b,c,d,e,f,g,i,rfl⟩
theorem zm7{W:World}{base:Nat}{spare:Nat→Bool}{held:Bool}{n:Nat}{cs:List Value}{y:DataW H×List MemPlace}(h:DataW.trod enc Tryz.prog W base spare held n 49 cs=some y):
  ∃t:Ty,cs=[.int .i64 t.k,.int .i64 t.o]∧I64 t.k∧I64 t.o:=by
 obtain⟨xs,n',rfl,_,hlen,hxl,hf⟩:=DataW.trod_struct Tryz.underlying49 h;obtain⟨c0,c1,rfl⟩:=zdv (hlen.trans (by kernel_rfl));obtain⟨x0,x1,rfl⟩:=zdv hxl;have k0:Tryz.prog.cellsOf 3=1:=by kernel_rfl
 have h0:DataW.trod enc Tryz.prog W base spare held n' 3 [c0]=some x0:=by have:=hf 0 _ rfl;simpa [k0]using this
 have h1:DataW.trod enc Tryz.prog W base spare held n' 3 [c1]=some x1:=by have:=hf 1 _ rfl;simpa [k0]using this
 obtain⟨z0,e0,_,w0⟩:=DataW.trod_int Tryz.underlying3 h0;obtain⟨z1,e1,_,w1⟩:=DataW.trod_int Tryz.underlying3 h1;simp at e0 e1;subst e0 e1;exact⟨⟨z0,z1⟩,rfl,bounds_i64 w0,bounds_i64 w1⟩
end
end Go.Proofs.YtbkgnekfigknhaaGreatDoor
end

section
namespace Go.Mor
open Go
theorem z3Y{α:Type}{l gs:List α}{i:Nat}(h:i≤l.length):(z0R l i gs).length=l.length+gs.length-(if i<l.length then 1 else 0):=by
 unfold z0R
 grind
theorem z2P{α:Type}{l gs:List α}{i:Nat}(h:i≤l.length)(j:Nat):(z0R l i gs)[j]?=if j<i then l[j]? else if j<i+gs.length then gs[j-i]? else l[j-gs.length+1]?:=by
 grind [List.length_take,z0R,List.append_assoc]
structure Put(c:Cls)(h:Chg)(vals:List V)(i:Nat)(gs:List Fld)(ws:List V):Prop where
 le:i≤c.fs.length
 fs:z0b c h=z0R c.fs i gs
 vs:z0B c h vals=z0R vals i ws
 len:gs.length=ws.length
 few:(z0R c.fs i gs).length≤8
 new:∀(j:Nat) f,c.fs[j]?=some f→j≠i→∀g∈gs,f.n≠g.n
 dist:z6q gs
 right:∀g∈gs,zD g=true
 fit:∀(j:Nat) g w,gs[j]?=some g→ws[j]?=some w→zF w g.t=true
 own:∀f,c.fs[i]?=some f→f.n=h.f
theorem Put.fits{c:Cls}{h:Chg}{vals:List V}{i:Nat}{gs:List Fld}{ws:List V}(hp:Put c h vals i gs ws)(hf:FitC c vals):FitC ⟨c.n,z0b c h⟩ (z0B c h vals):=by
 have hr:=(z0T c).1 hf.r;have hle:=hp.le;have hl:=hf.len;have hln:=hp.len;rw[hp.fs,hp.vs];refine⟨(z0T _).2 ⟨hr.1,hp.few,fun f hm=> ?_,fun a b f g ha hb he=> ?_⟩,?_,fun j f v hj hv=> ?_⟩
 ·unfold z0R at hm;simp only[List.mem_append]at hm;rcases hm with(hm|hm)|hm
  ·grind
  ·exact hp.right f hm
  ·grind
 ·dsimp only at ha hb
  rw[z2P hle]at ha hb;have hd:=hr.2.2.2;split at ha
  ·split at hb
   ·exact hd a b f g ha hb he
   ·split at hb
    ·exact absurd he (hp.new a f ha (by omega) g (gM hb))
    ·have:=hd _ _ f g ha hb he;omega
  ·split at ha
   ·split at hb
    ·exact absurd he.symm (hp.new b g hb (by omega) f (gM ha))
    ·split at hb
     ·have:=hp.dist _ _ f g ha hb he;omega
     ·exact absurd he.symm (hp.new _ g hb (by omega) f (gM ha))
   ·split at hb
    ·have:=hd _ _ f g ha hb he;omega
    ·split at hb
     ·exact absurd he (hp.new _ f ha (by omega) g (gM hb))
     ·have:=hd _ _ f g ha hb he;omega
 ·dsimp only
  grind [z3Y]
 ·dsimp only at hj
  rw[z2P hle]at hj;rw[z2P (by omega)]at hv;split at hj
  ·rw[if_pos (by assumption)]at hv;exact hf.fit _ _ _ hj hv
  ·rw[if_neg (by assumption)]at hv;split at hj
   ·rw[if_pos (by omega)]at hv;exact hp.fit _ _ _ hj hv
   ·rw[if_neg (by omega),←hln]at hv;exact hf.fit _ _ _ hj hv
theorem Put.news{c:Cls}{h:Chg}{vals:List V}{i:Nat}{gs:List Fld}{ws:List V}(hp:Put c h vals i gs ws)(hf:FitC c vals){j:Nat}{f:Fld}{v:V}(hj:gs[j]?=some f)(hv:ws[j]?=some v):
  (z0b c h)[i+j]?=some f∧(z0B c h vals)[i+j]?=some v:=by
 have hle:=hp.le;have hl:=hf.len;rw[hp.fs,hp.vs]
 grind [z2P,Nat.add_sub_cancel_left]
theorem z6l{c:Cls}{vals:List V}(hf:FitC c vals){s:zB}{t:Ty}(ht:zh t=true)(h:(zA c s t).is=true):zF ((zA c s t).val c t vals) t=true:=by
 unfold zA at h ⊢;split at h
 ·rw[if_pos (by assumption)];exact z8a t ht
 rename_i hs;rw[if_neg hs];split at h
 ·cases h
 rename_i he;rw[if_neg he];split at h
 ·rename_i hT;rw[if_pos hT];obtain⟨h0,h1⟩:=hT;generalize(rdV s).1=e at*;have hr:=(z0T c).1 hf.r;have hfa:z5H c.fs vals:=⟨fun f hm=>by have:=hr.2.2.1 f hm;unfold zD at this;simp at this;exact this.1.2,hf.len,hf.fit⟩
  have hev:z4i c vals e=(z1O c.fs vals 8 e,0):=by
   unfold z4i;rw[h0,hf.chk];rfl
  show zF (z4i c vals e).1 t=true;unfold z2s at h0 h1;split at h0
  ·rename_i hre;split at h0
   ·rename_i hrc;split at h0
    ·rename_i hty;have e1:(zm c.fs 8 e).1=t:=by
      generalize(zm c.fs 8 e).1=u at h1;obtain⟨k,o⟩:=u;obtain⟨k',o'⟩:=t
      grind [z0f]
     unfold z0Z at hre
     grind [z5q]
    ·cases h0
   ·cases h0
  ·cases h0
 ·cases h
theorem zbV{c:Cls}{s b:zB}(h:z36 c.fs s b=true){j:Nat}{f:Fld}(hj:c.fs[j]?=some f)(hne:f.n≠b):f.n≠s:=by
 rintro rfl;unfold z36 at h
 grind [fieldAt,z6w,List.mem_of_getElem?]
theorem has_at{c:Cls}{s:zB}(h:z0z c.fs s=true):∃f,c.fs[atV c.fs s]?=some f∧f.n=s:=by
 unfold z0z at h;simp at h;unfold atV;unfold fieldAt at*;obtain⟨k,hk⟩:=Int.eq_ofNat_of_zero_le (show 0≤z0K (fun f:Fld=>f.n==s) c.fs by omega);obtain⟨f,h1,h2⟩:=z2J (fun f:Fld=>f.n==s) c.fs k hk
 grind
theorem z7d(g:Fld):z6q [g]:=fun a b f h ha hb _=>by
 grind
theorem zlg{g k:Fld}(hne:g.n≠k.n):z6q [g,k]:=fun a b f h ha hb he=>by
 match a,b with
 |0,0=>rfl
 |1,1=>rfl
 |0,1=>grind
 |1,0=>grind
 |0,b+2=>simp at hb
 |1,b+2=>simp at hb
 |a+2,_=>simp at ha
theorem zia{n:zB}{t:Ty}(hn:zb n=true)(ht:zh t=true):zD ⟨n,t,false⟩=true:=by grind [zD]
theorem zeP{c:Cls}{h:Chg}{vals:List V}(hf:FitC c vals)(ho:okV c h=true):∃i gs ws,Put c h vals i gs ws∧
  ((h.k=1∨h.k=5)→gs[0]?=some ⟨h.n,h.t,false⟩∧ws[0]?=some ((zA c h.x h.t).val c h.t vals))∧(h.k=4→gs[0]?=some ⟨h.f,h.t,false⟩∧ws[0]?=some ((zA c h.x h.t).val c h.t vals)):=by
 have hr:=(z0T c).1 hf.r;have hlen:=hf.len;unfold okV at ho;simp at ho;obtain⟨⟨_,hw⟩,hm⟩:=ho;have hd:=hr.2.2.2;have hsame:∀{j:Nat} {f:Fld},c.fs[j]?=some f→j≠atV c.fs h.f→z0z c.fs h.f=true→f.n≠h.f:=fun {j f} hj hne hh e=>by
  obtain⟨g,hg,he⟩:=has_at hh;exact hne (hd j _ f g hj hg (by rw[e,he]))
 have hk:h.k=1∨h.k=2∨h.k=3∨h.k=4∨h.k=5∨h.k=6:=by
  grind [z0h,z0E]
 unfold z0h at hw;rcases hk with k|k|k|k|k|k
 ·simp only[k,z0E,z0G,if_true,z1H,Bool.and_eq_true,decide_eq_true_eq]at hw hm;obtain⟨⟨h8,hfr⟩,hx⟩:=hm;refine⟨c.fs.length,[⟨h.n,h.t,false⟩],[(zA c h.x h.t).val c h.t vals],⟨Nat.le_refl _,?_,?_,rfl,?_,fun j f hj hne g hg=> ?_,z7d _,fun g hg=> ?_,fun j g w hj hw'=> ?_,fun f hj=> ?_⟩,fun _=>⟨rfl,rfl⟩,fun h4=>by omega⟩
  ·simp[z0b,k,z0R]
  ·simp[z0B,k,z0R,←hlen]
  ·rw[z3Y (Nat.le_refl _),if_neg (by omega)];simp;omega
  ·obtain rfl:=List.mem_singleton.1 hg;refine zbV hfr hj fun e=> ?_;have:=(z5Z hf.r hj).1;rw[e]at this;exact absurd this (by decide)
  ·grind [List.mem_singleton,zia]
  ·grind [z6l]
  ·grind
 ·simp only[k,z0G,show ¬(2:Int)=1 by decide,if_false,if_true]at hm;obtain⟨f,ef,en⟩:=has_at hm;have hlt:=(gJ ef).1;refine⟨atV c.fs h.f,[],[],⟨by omega,by simp[z0b,k],by simp[z0B,k],rfl,?_,fun j f hj hne g hg=>by simp at hg,fun a b f g ha=>by simp at ha,fun g hg=>by simp at hg,fun j g w hj=>by simp at hj,fun y hy=> ?_⟩,fun h4=>by omega,fun h4=>by omega⟩
  ·grind [z3Y]
  ·grind
 ·simp only[k,z0E,z0G,show ¬(3:Int)=1 by decide,show ¬(3:Int)=2 by decide,show ¬(3:Int)=6 by decide,false_or,if_false,if_true,z1H,Bool.and_eq_true]at hw hm;obtain⟨hh,hfr⟩:=hm;obtain⟨f,ef,en⟩:=has_at hh;have hlt:=(gJ ef).1;obtain⟨v,ev⟩:∃v,vals[atV c.fs h.f]?=some v:=⟨_,gE (by omega)⟩
  have h3:=(z5Z hf.r ef).2.2.1;refine⟨atV c.fs h.f,[⟨h.n,f.t,f.ix⟩],[v],⟨by omega,by simp[z0b,k,ef],?_,rfl,?_,fun j y hj hne g hg=> ?_,z7d _,fun g hg=> ?_,fun j g w hj hw'=> ?_,fun y hy=> ?_⟩,fun h4=>by omega,fun h4=>by omega⟩
  ·grind [zeO,atV,List.getElem?_eq_some_iff,List.set_getElem_self,z0B]
  ·grind [z3Y]
  ·obtain rfl:=List.mem_singleton.1 hg;refine zbV hfr hj fun e=> ?_;have:=(z5Z hf.r hj).1;rw[e]at this;exact absurd this (by decide)
  ·grind [List.mem_singleton,zD]
  ·cases j with
   |zero=>simp at hj hw';subst hj;subst hw';exact(show zF _ f.t=true from hf.fit _ _ _ ef ev)
   |succ j=>simp at hj
  ·grind
 ·simp only[k,z0E,z0G,show ¬(4:Int)=1 by decide,show ¬(4:Int)=2 by decide,show ¬(4:Int)=6 by decide,show ¬(4:Int)=3 by decide,false_or,if_false,if_true,z1H,Bool.and_eq_true]at hw hm;obtain⟨hh,hx⟩:=hm;obtain⟨f,ef,en⟩:=has_at hh;have hlt:=(gJ ef).1;refine⟨atV c.fs h.f,[⟨f.n,h.t,false⟩],[(zA c h.x h.t).val c h.t vals],⟨by omega,by simp[z0b,k,ef],by simp[z0B,k],rfl,?_,fun j y hj hne g hg=> ?_,z7d _,fun g hg=> ?_,fun j g w hj hw'=> ?_,fun y hy=> ?_⟩,fun h4=>by omega,fun _=>⟨by rw[en];rfl,rfl⟩⟩
  ·grind [z3Y]
  ·grind
  ·grind [List.mem_singleton,zia]
  ·grind [z6l]
  ·grind
 ·simp only[k,z0E,z0G,show ¬(5:Int)=1 by decide,show ¬(5:Int)=2 by decide,show ¬(5:Int)=6 by decide,show ¬(5:Int)=3 by decide,show ¬(5:Int)=4 by decide,false_or,if_false,if_true,z1H,Bool.and_eq_true,decide_eq_true_eq]at hw hm;obtain⟨⟨⟨⟨⟨⟨hh,h8⟩,hnm⟩,hfr⟩,hfr2⟩,hx⟩,hx2⟩:=hm;have hnm:h.n≠h.m:=by grind
  obtain⟨f,ef,en⟩:=has_at hh;have hlt:=(gJ ef).1;refine⟨atV c.fs h.f,[⟨h.n,h.t,false⟩,⟨h.m,h.t,false⟩],[(zA c h.x h.t).val c h.t vals,(zA c h.o h.t).val c h.t vals],⟨by omega,by simp[z0b,k],by simp[z0B,k],rfl,?_,fun j y hj hne g hg=> ?_,zlg hnm,fun g hg=> ?_,fun j g w hj hw'=> ?_,fun y hy=> ?_⟩,fun _=>⟨rfl,rfl⟩,fun h4=>by omega⟩
  ·grind [z3Y]
  ·simp at hg
   grind [zbV]
  ·simp at hg
   grind [zia]
  ·match j with
   |0=>grind [z6l]
   |1=>grind [z6l]
   |j+2=>simp at hj
  ·grind
 ·simp only[k,z0G,show ¬(6:Int)=1 by decide,show ¬(6:Int)=2 by decide,show ¬(6:Int)=3 by decide,show ¬(6:Int)=4 by decide,show ¬(6:Int)=5 by decide,if_false,Bool.and_eq_true,decide_eq_true_eq]at hm;obtain⟨hh,hk3⟩:=hm;obtain⟨f,ef,en⟩:=has_at hh;have hlt:=(gJ ef).1;obtain⟨v,ev⟩:∃v,vals[atV c.fs h.f]?=some v:=⟨_,gE (by omega)⟩
  have h3:=(z5Z hf.r ef).2.2.1;refine⟨atV c.fs h.f,[⟨f.n,f.t, !f.ix⟩],[v],⟨by omega,by simp[z0b,k,ef],?_,rfl,?_,fun j y hj hne g hg=> ?_,z7d _,fun g hg=> ?_,fun j g w hj hw'=> ?_,fun y hy=> ?_⟩,fun h4=>by omega,fun h4=>by omega⟩
  ·grind [zeO,atV,List.getElem?_eq_some_iff,List.set_getElem_self,z0B]
  ·grind [z3Y]
  ·grind
  ·grind [List.mem_singleton,zD]
  ·cases j with
   |zero=>simp at hj hw';subst hj;subst hw';exact(show zF _ f.t=true from hf.fit _ _ _ ef ev)
   |succ j=>simp at hj
  ·grind
structure Ln where
 c:Cls
 hs:List Chg
def zdC(r:Cls×Int)(h:Chg):Cls×Int:=if r.2=0 then z0x r.1 h else r
theorem z3Z{r:Cls×Int}(h:Chg)(h0:r.2=0):zdC r h=z0x r.1 h:=if_pos h0
theorem zgO{r:Cls×Int}(h:Chg)(h0:r.2≠0):zdC r h=r:=if_neg h0
def z2d(l:Ln):Cls×Int:=(l.c,if zd l.c then 0 else 40)
def zj(l:Ln)(k:Nat):Cls×Int:=(l.hs.take k).foldl zdC (z2d l)
def z08(l:Ln):Bool:=Nat.ble l.hs.length 12&&(zj l l.hs.length).2==0
theorem z2W(l:Ln):zj l 0=z2d l:=by simp[zj]
theorem z3o{l:Ln}{k:Nat}{h:Chg}(hk:l.hs[k]?=some h):zj l (k+1)=zdC (zj l k) h:=by
 unfold zj;rw[List.take_add_one,hk,List.foldl_append];rfl
theorem z9D{l:Ln}{k:Nat}(hk:l.hs.length≤k):zj l k=zj l l.hs.length:=by
 unfold zj;rw[List.take_of_length_le hk,List.take_length]
theorem z7M{l:Ln}{k:Nat}(hk:(zj l k).2≠0):∀{n:Nat},k≤n→zj l n=zj l k
 |0,hn=>by rw[Nat.le_zero.1 hn]
 |n+1,hn=>by
  rcases Nat.lt_or_ge n k with h1|h1
  ·rw[show n+1=k by omega]
  ·have ih:=z7M hk h1;cases hx:l.hs[n]? with
   |none=>
    have:=List.getElem?_eq_none_iff.1 hx;rw[z9D (show l.hs.length≤n+1 by omega),←z9D this,ih]
   |some x=>rw[z3o hx,ih,zgO x hk]
theorem zfu{l:Ln}(h:(z2d l).2=0):zd l.c=true:=by
 unfold z2d at h;by_cases hc:zd l.c=true
 ·exact hc
 ·simp[hc]at h
theorem zd6{c:Cls}(h:zd c=true):FitC c (c.fs.map fun f=>z4X f.t):=by
 refine⟨h,List.length_map _,fun i f v hf hv=> ?_⟩;rw[List.getElem?_map,hf]at hv;cases hv;have:=((z0T c).1 h).2.2.1 f (gM hf);refine z8a _ ?_;unfold zD at this;simp only[Bool.and_eq_true]at this
 grind
theorem z4Q{c:Cls}{h:Chg}(h0:(z0x c h).2=0):zd c=true∧okV c h=true∧zd (z0x c h).1=true:=by
 unfold z0x at h0;by_cases hr:zd c=true
 ·by_cases ho:okV c h=true
  ·obtain⟨i,gs,ws,hp,_⟩:=zeP (zd6 hr) ho;refine⟨hr,ho,?_⟩;unfold z0x;simp only[hr,ho,Bool.not_true,Bool.false_eq_true,if_false];exact(hp.fits (zd6 hr)).r
  ·simp[hr,ho]at h0
 ·simp[hr]at h0
theorem z1a{l:Ln}:∀{k:Nat},(zj l k).2=0→zd (zj l k).1=true
 |0,h=>by rw[z2W]at*;exact zfu h
 |k+1,h=>by
  cases hk:l.hs[k]? with
  |none=>
   have:=List.getElem?_eq_none_iff.1 hk;rw[z9D (show l.hs.length≤k+1 by omega),←z9D this]at*;exact z1a h
  |some x=>
   rw[z3o hk]at*;by_cases h0:(zj l k).2=0
   ·rw[z3Z x h0]at*;exact(z4Q h).2.2
   ·rw[zgO x h0]at h;exact absurd h h0
theorem z0p{l:Ln}(h:z08 l=true){k:Nat}(hk:k≤l.hs.length):(zj l k).2=0:=by
 unfold z08 at h;simp only[Bool.and_eq_true,beq_iff_eq]at h;by_cases h0:(zj l k).2=0
 ·exact h0
 ·have:=z7M h0 hk;rw[this]at h;exact h.2
def ch0:Chg:=⟨0,[],[],[],ty0,[],[]⟩
def z1K(l:Ln)(i:Nat)(vals:List V):Nat→List V
 |0=>vals
 |n+1=>z0B (zj l (i+n)).1 (l.hs.getD (i+n) ch0) (z1K l i vals n)
theorem z7b{l:Ln}(hr:z08 l=true){k:Nat}{h:Chg}(hk:l.hs[k]?=some h){vals:List V}(hf:FitC (zj l k).1 vals):
  okV (zj l k).1 h=true∧FitC (zj l (k+1)).1 (z0B (zj l k).1 h vals)∧zbF (zj l k).1 h vals=(z0B (zj l k).1 h vals,0):=by
 have hi:=(gJ hk).1;have h0:=z0p hr (k:=k) (by omega);have h1:=z0p hr (k:=k+1) (by omega);have hn:=z3o hk;rw[z3Z h h0]at hn;rw[hn]at h1;obtain⟨a1,a2,_⟩:=z4Q h1;obtain⟨i,gs,ws,hp,_⟩:=zeP hf a2;refine⟨a2,?_,?_⟩
 ·have:=hp.fits hf;rw[hn];unfold z0x;simpa [a1,a2]using this
 ·unfold zbF;rw[hf.chk,a2];rfl
theorem z4z{l:Ln}(hr:z08 l=true){i:Nat}{vals:List V}(hf:FitC (zj l i).1 vals):∀n,i+n≤l.hs.length→FitC (zj l (i+n)).1 (z1K l i vals n)
 |0,_=>hf
 |n+1,h=>by
  have ih:=z4z hr hf n (by omega);have hk:l.hs[i+n]?=some l.hs[i+n]:=gE (by omega);have:=(z7b hr hk ih).2.1;unfold z1K;rw[List.getD_eq_getElem?_getD,hk];exact this
def z1i(ls:List Ln)(n:zB):Nat×Bool:=match ls.findIdx? (fun l=>l.c.n==n)with|some i=>(i,true)|none=>(0,false)
theorem zbT{ls:List Ln}{n:zB}{k:Nat}{x:Ln}(hx:ls[k]?=some x)(hp:(x.c.n==n)=true)(h:∀(i:Nat) y,i<k→ls[i]?=some y→(y.c.n==n)=false):z1i ls n=(k,true):=by
 have:ls.findIdx? (fun l=>l.c.n==n)=some k:=by
  grind [List.findIdx?_eq_some_iff_getElem]
 simp[z1i,this]
theorem zcy{ls:List Ln}{n:zB}(h:∀x∈ls,(x.c.n==n)=false):z1i ls n=(0,false):=by
 have:ls.findIdx? (fun l=>l.c.n==n)=none:=by
  grind [List.findIdx?_eq_none_iff]
 simp[z1i,this]
def zaK(ls:List Ln)(i:Nat)(l:Ln):Bool:=decide ((z1i ls l.c.n).1<i)|| !z08 l
def z92(ls:List Ln):Nat→List Ln→Int×Int
 |_,[]=>(0,0)
 |i,l::r=>if zaK ls i l then(i,80)else z92 ls (i+1) r
def z5K(ls:List Ln):Int×Int:=if 8<ls.length then(8,80)else z92 ls 0 ls
theorem zdS(ls:List Ln)(i:Nat){l:Ln}(h:ls[i]?=some l):z92 ls i (ls.drop i)=if zaK ls i l then((i:Int),80)else z92 ls (i+1) (ls.drop (i+1)):=by
 obtain⟨h1,h2⟩:=gJ h;rw[List.drop_eq_getElem_cons h1,h2];rfl
structure RightS(ls:List Ln):Prop where
 len:ls.length≤8
 line:∀l∈ls,z08 l=true
 own:∀(i j:Nat) a b,ls[i]?=some a→ls[j]?=some b→a.c.n=b.c.n→i=j
theorem RightS.find{ls:List Ln}(h:RightS ls){k:Nat}{x:Ln}(hx:ls[k]?=some x):z1i ls x.c.n=(k,true):=
 zbT hx (beq_self_eq_true _) fun i y hi hy=>by
  rw[beq_eq_false_iff_ne];intro e;have:=h.own i k y x hy hx e;omega
theorem RightS.good{ls:List Ln}(h:RightS ls){k:Nat}{x:Ln}(hx:ls[k]?=some x):zaK ls k x=false:=by
 unfold zaK;rw[h.find hx,h.line x (gM hx)];simp
theorem RightS.check{ls:List Ln}(h:RightS ls):z5K ls=(0,0):=by
 unfold z5K;rw[if_neg (by have:=h.len;omega)]
 suffices ∀n i,ls.length-i=n→z92 ls i (ls.drop i)=(0,0) from by
  have:=this _ 0 rfl
  rwa [List.drop_zero]at this
 intro n
 induction n with
 |zero=>intro i hi;rw[List.drop_eq_nil_of_le (by omega)];rfl
 |succ n ih=>
  intro i hi;rw[zdS ls i (gE (show i<ls.length by omega)),h.good (gE (by omega)),if_neg (by simp)];exact ih (i+1) (by omega)
def z1x(f:Fld)(h:Chg):List Fld:=
 if h.k=1∨f.n≠h.f then [f]
 else if h.k=2 then []
 else if h.k=3 then [⟨h.n,f.t,f.ix⟩]
 else if h.k=4 then [⟨f.n,h.t,false⟩]
 else if h.k=5 then [⟨h.n,h.t,false⟩,⟨h.m,h.t,false⟩]
 else [⟨f.n,f.t, !f.ix⟩]
theorem z98{α:Type}{F:α→List α}:∀{l:List α},(∀x∈l,F x=[x])→l.flatMap F=l
 |[],_=>rfl
 |x::l,h=>by
  rw[List.flatMap_cons,h x (List.mem_cons_self ..),z98 fun y hy=>h y (List.mem_cons_of_mem _ hy)];rfl
theorem z5D{α:Type}{F:α→List α}{l:List α}{i:Nat}{x:α}(hx:l[i]?=some x)(h:∀(j:Nat) y,l[j]?=some y→j≠i→F y=[y]):l.flatMap F=z0R l i (F x):=by
 obtain⟨hi,rfl⟩:=gJ hx;have e:l=l.take i++l[i]::l.drop (i+1):=by rw[←List.drop_eq_getElem_cons hi,List.take_append_drop]
 have h1:(l.take i).flatMap F=l.take i:=z98 fun y hy=>by
  obtain⟨j,hj⟩:=List.getElem?_of_mem hy;rw[List.getElem?_take]at hj;split at hj
  ·exact h j y hj (by omega)
  ·cases hj
 have h2:(l.drop (i+1)).flatMap F=l.drop (i+1):=z98 fun y hy=>by
  obtain⟨j,hj⟩:=List.getElem?_of_mem hy;rw[List.getElem?_drop]at hj;exact h _ y hj (by omega)
 unfold z0R
 conv=>lhs;rw[e]
 rw[List.flatMap_append,List.flatMap_cons,h1,h2,List.append_assoc]
theorem zcZ{c:Cls}{h:Chg}(ho:okV c h=true):c.fs.flatMap (z1x · h)++(if h.k=1 then [⟨h.n,h.t,false⟩] else [])=z0b c h:=by
 unfold okV at ho;simp only[Bool.and_eq_true]at ho;obtain⟨⟨hr,hw⟩,hm⟩:=ho;have hd:=((z0T c).1 hr).2.2.2;by_cases h1:h.k=1
 ·rw[z98 (fun x _=>by unfold z1x;rw[if_pos (.inl h1)])];unfold z0b;simp[h1]
 ·have hh:z0z c.fs h.f=true:=by
   cases hv:z0z c.fs h.f
   ·simp[z0G,h1,hv]at hm
   ·rfl
  have hf:¬fieldAt c.fs h.f<0:=by
   unfold z0z at hh;simpa using hh
  obtain⟨i,hi⟩:=Int.eq_ofNat_of_zero_le (show 0≤fieldAt c.fs h.f by omega);obtain⟨x,hx,hp⟩:=z2J _ _ _ hi;have hxn:x.n=h.f:=by simpa using hp
  have hat:atV c.fs h.f=i:=by unfold atV;rw[hi];rfl
  rw[z5D hx (fun j y hy hj=>by
   unfold z1x;rw[if_pos (.inr fun e=>hj (hd j i y x hy hx (by rw[e,hxn])))]),if_neg h1,List.append_nil]
  unfold z0b z1x;simp only[hat,h1,hxn,if_false,ne_eq,not_true_eq_false,or_self,List.getD_eq_getElem?_getD,hx,Option.getD_some]
  repeat' split
  all_goals first|rfl|trace_state
end Go.Mor
end

section
namespace Go.Sh
open Go Go.RowKit
def zlJ:Int→Int→Bool
 | .ofNat a,.ofNat b=>Nat.beq a b
 | .negSucc a,.negSucc b=>Nat.beq a b
 |_,_=>false
theorem intB_eq:∀{a b:Int},zlJ a b=true→a=b
 | .ofNat a,.ofNat b,h=>congrArg Int.ofNat (Nat.eq_of_beq_eq_true h)
 | .negSucc a,.negSucc b,h=>congrArg Int.negSucc (Nat.eq_of_beq_eq_true h)
 | .ofNat _,.negSucc _,h=>by cases h
 | .negSucc _,.ofNat _,h=>by cases h
theorem zfp{cs ds:List TV}(hl:cs.length=ds.length)(h:∀(j:Nat) c d,cs[j]?=some c→ds[j]?=some d→Wk c d):Wk (.tuple cs) (.tuple ds):=by
 intro w E r v hr;cases hr with
 |tuple _ vs hl' h'=>
  refine .tuple ds vs (by omega) fun j d v hd hv=> ?_;have hj:=(gJ hd).1;have hc:=gE (show j<cs.length by omega);exact h j _ d hc hd w E r v (h' j _ v hc hv)
end Go.Sh
end

section
namespace Go.Mor
open Go Go.Sh
def zp5(e:zB):Bool:=Nat.ble 1 e.length&&Nat.ble e.length 100&&match z2A 1000 e with
 |some r=>zlJ r.2.2 0&&zlJ r.2.1 0
 |none=>false
theorem zp4:exL.all zp5=true:=by kernel_rfl
end Go.Mor
end
