/- Merged texts: WrapB Open0 OpenN OpenR Pk4 RawHD OpenH WrapX Own OwnV. No statement of the program is proved here. -/
import Derived.Test.YtcpaleaajdilgaaGreatDoorQ39
import Derived.Test.YtcpaleaajdilgaaGreatDoorCards
import Derived.Test.YtcpaleaajdilgaaGreatDoorTie
import Derived.Lib.LaidIn
import Derived.Lib.LaidU8T
import Derived.Deep.DeepHandedRow
import Derived.Deep.DeepWitnessRowRef
import Derived.ProofKit
import Derived.SizedLaws
import Derived.OpenShut
import Derived.Stop.LaidTwo
import Derived.Deep.Slices
import Derived.Deep.Fields
import Derived.ChangeSame
import Derived.SevenTiedAt
import Derived.PinnedBridge
import Derived.Shelf.Vars
import Derived.Laws.AppendOwnNone
import Derived.Deep.AppendLies
set_option linter.unusedSimpArgs false
set_option linter.unusedVariables false
set_option maxRecDepth 100000
set_option maxHeartbeats 8000000
section
namespace Go.Proofs.YtcpaleaajdilgaaGreatDoor
open Go.ChangeShapes Go.WideShapes Go.ChangeAt Go.RowKit Go.Lib Go.Mor Go.Deep
open Go.ChangeMaps (open_string shut_string)
theorem own:ownKnob Tryz.prog.godebug=none:=by kernel_rfl
theorem zoK:Rows.laid_unicode_utf8_acceptRanges=Lib.acceptData:=by kernel_rfl
theorem zqm{W:World}(h:W.ShapedOpen Tryz.prog):10≤W.heap.size:=by
 obtain⟨o,o0,h1,_⟩:=h.2 10 (of_decide_eq_true (by kernel_rfl)) (of_decide_eq_true (by kernel_rfl));exact Nat.le_of_lt (gA h1).1
theorem zlD{W:World}{L:List (String×DataW Unit)}(hL:laidMet Tryz.prog L W)(h1:("unicode/utf8.first",Rows.laid_unicode_utf8_first)∈L)(h2:("unicode/utf8.acceptRanges",Rows.laid_unicode_utf8_acceptRanges)∈L):GlobU W:=
 ⟨utf8Tabs_of_readsT (U8Types.of196 Tryz.laysValid) ⟨by kernel_rfl,by kernel_rfl,by kernel_rfl,by kernel_rfl,by kernel_rfl,by kernel_rfl,by kernel_rfl⟩ (by rw[←Pinned.utf8First_eq];exact Lib.laidMet.reads hL h1) (by rw[←zoK];exact Lib.laidMet.reads hL h2)⟩
def zeo:DataW Unit→List Value
 | .agg l=>l.map fun x=>match x with| .lit y=>y.value|_=>undef
 |_=>[]
def zbw:DataW Unit→zB
 | .iface _ (.ptr (.agg [.lit (.string l)]))=>l
 |_=>[]
noncomputable def z65(os:Os):World:=
 let N:=(World.settled Tryz.prog os).heap.size
 let w0:=World.holding Tryz.prog os ⟨#[.cells #[.string ⟨(zbw Rows.laid_moraine_wire_errEnd).toArray⟩] 354,.cells #[.string ⟨(zbw Rows.laid_moraine_wire_errForm).toArray⟩] 354,.cells #[.string ⟨(zbw Rows.laid_strconv_ErrRange).toArray⟩] 354,.cells #[.string ⟨(zbw Rows.laid_strconv_ErrSyntax).toArray⟩] 354],#[],[]⟩
 let put (h:Array Obj) (g:Nat) (cs:Array Value):Array Obj:=h.modify g fun
  | .cells _ t frozen=> .cells cs t frozen
  |o=>o
 let h:=w0.heap
 let h:=put h 8 (zeo Rows.laid_math_bits_deBruijn32tab).toArray
 let h:=put h 9 (zeo Rows.laid_math_bits_deBruijn64tab).toArray
 let h:=put h 5 (zeo Rows.laid_internal_strconv_uint64pow10).toArray
 let h:=put h 1 ((List.range 16).flatMap fun i=>[Value.int .u8 (Lib.accLo i),Value.int .u8 (Lib.accHi i)]).toArray
 let h:=put h 2 #[.iface 352 (.pointer (some ⟨N,0,none⟩))]
 let h:=put h 3 #[.iface 352 (.pointer (some ⟨N+1,0,none⟩))]
 let h:=put h 0 (Lib.firstTab.map fun z=>Value.int .u8 z).toArray
 let h:=put h 7 #[.iface 352 (.pointer (some ⟨N+2,0,none⟩))]
 let h:=put h 6 #[.iface 352 (.pointer (some ⟨N+3,0,none⟩))]
 { w0 with heap:=h }
noncomputable abbrev N0:Nat:=(World.settled Tryz.prog default).heap.size
theorem znL:laidOutB Tryz.prog=true:=by kernel_rfl
section
variable{H:Type}{enc:TypeId×Value→H}
theorem zdf{W W':World}(hb:Below W.heap.size W W'){sp:Nat→Bool}:∀{ts:List TypeId} {vs:List Value} {ds:List (DataW H)} {ps:List MemPlace},
  (ts.all fun t=>Tryz.prog.readableRec t&&decide (t<Tryz.prog.types.size))=true→DataW.TrodAll enc Tryz.prog W 0 (fun _=>true) true ts vs ds ps→(∀x∈ps,x.block<W.heap.size)→(∀x∈ps,sp x.block=true)→
  DataW.TrodAll enc Tryz.prog W' 0 sp true ts vs ds ps:=by
 intro ts
 induction ts with
 |nil=>
  intro vs ds ps _ h _ _;obtain⟨rfl,rfl,rfl⟩:=trodAll_nil h;exact trodAll_mk0
 |cons t ts ih=>
  intro vs ds ps hr h hlt hsp;obtain⟨v,vs',d,ds',p,q,rfl,rfl,rfl,h1,h2⟩:=trodAll_cons h;simp only[List.all_cons,Bool.and_eq_true,decide_eq_true_iff]at hr;refine trodAll_cons_mk (WideElems.Trod_stays znL hr.1.1 hr.1.2 h1 (fun x hx=>hb.same (hlt x (by simp[hx]))) (fun x hx=>hsp x (by simp[hx]))) (ih hr.2 h2 (fun x hx=>hlt x (by simp[hx])) (fun x hx=>hsp x (by simp[hx])))
theorem zd6{P:Program}{f:Func}{s:ChangeSpec}{z2l fresh handsOn again:Bool}{W W':World}{args:Array Value}{v:Value}{ds gs:List (DataW H)}{before pa pv:List MemPlace}
  (hW:DataW.Whole enc P f.params.toList s.vars z2l W args.toList ds gs before)
  (hres:∀(b:Nat) (sp:Nat→Bool) (hd:Bool),DataW.TrodAll enc P W' b sp hd f.resultTypes.toList (v.resultList f.resultTypes.size) (s.fn H (ds++gs)).results [])
  (hargs:∀sp:Nat→Bool,(∀p∈before,sp p.block=true)→DataW.TrodAll enc P W' 0 sp true f.params.toList args.toList (s.fn H (ds++gs)).args pa)
  (hvars:∀sp:Nat→Bool,(∀p∈before,sp p.block=true)→DataW.TrodVars enc P W' sp s.vars (s.fn H (ds++gs)).vars pv)
  (hps:before=pa++pv) (hb:Below W.heap.size W W')
  (hok:∀(j:Nat) (t:TypeId) (r:Value),f.resultTypes[j]?=some t→(v.resultList f.resultTypes.size)[j]?=some r→Value.okWide P W' .any 0 t r):
  s.post enc P f z2l fresh handsOn again W args v W':=by
 have hlt:∀p∈before,p.block<W.heap.size:=fun p hp=>hW.lt p hp;have hold:∀p∈before,(fun b=>decide (b<W.heap.size)) p.block=true:=fun p hp=>by simpa using hlt p hp
 refine⟨ds,gs,before,[],pa,pv,hW,hres _ _ _,hargs _ hold,hvars _ hold,World.keptBut_mono (fun p hp=>⟨hp,?_⟩) (hb.frame (·∈before)),fun _=> ?_⟩
 ·rw[hps,List.mem_append]at hp;exact Or.inr hp
 ·obtain⟨_,_,_,_,_,hz,hn⟩:=hW;refine⟨hok,_,_,([]++pa)++pv,⟨[]++pa,pv,trodAll_append (hargs _ (fun _ _=>rfl)) (hres _ _ _),hvars _ (fun _ _=>rfl),rfl,?_,?_⟩,?_⟩
  ·intro b off hp;have hin:MemPlace.cell b off∈before:=by rw[hps];simpa using hp
   rw[hb.frozen (hlt _ hin)];exact hz b off hin
  ·intro ha;have:=hn ha;rw[hps]at this;simpa using this
  ·intro p hp _;rw[hps];simpa using hp
theorem zqs(f:FuncId)(fn:Func)(sp:ChangeSpec){W W':World}{args:Array Value}{ds gs:List (DataW H)}{before:List MemPlace}{fresh handsOn again:Bool}
  (hv:sp.vars=[]) (hr:(fn.params.toList.all fun t=>Tryz.prog.readableRec t&&decide (t<Tryz.prog.types.size))=true) (hres:fn.resultTypes= #[4])
  (hfn:sp.fn H (ds++[])={ results:=[.lit (.bool true)],args:=ds })
  (hW:DataW.Whole enc Tryz.prog fn.params.toList sp.vars false W args.toList ds gs before) (hb:Below W.heap.size W W'):
  sp.post enc Tryz.prog fn false fresh handsOn again W args (.bool true) W':=by
 have hW':=hW;obtain⟨p,q,hA,hV,rfl,_,_⟩:=hW;rw[hv]at hV;obtain⟨rfl,rfl⟩:=trodVars_none hV;have hlt:∀x∈p,x.block<W.heap.size:=fun x hx=>hW'.lt x (by simp[hx]);refine zd6 (pa:=p) (pv:=[]) hW' (fun b sp' hd=> ?_) (fun sp' hsp=> ?_) (fun sp' hsp=> ?_) rfl hb ?_
 ·rw[hfn,hres];exact trodAll_mk1 (shut_bool Tryz.underlying4 _)
 ·rw[hfn];exact zdf hb hr hA hlt (fun x hx=>hsp x (by simp[hx]))
 ·rw[hfn,hv];rfl
 ·exact ok_one hres rfl (okWide_bool_mk Tryz.underlying4 _)
end
end Go.Proofs.YtcpaleaajdilgaaGreatDoor
end

section
namespace Go.Proofs.YtcpaleaajdilgaaGreatDoor
open Go.ChangeShapes Go.WideShapes Go.ChangeAt Go.RowKit Go.Lib Go.Mor Go.Deep Go.Joins
open Go.Sh (RelT RelV TV PV SCalls Env MSim z01 zm z1w Low)
open Go.ChangeMaps (open_string shut_string)
def z2y(w:World):Env:=⟨fun k _=>k<w.heap.size,fun _=>0,fun _=>none,fun _=>0⟩
theorem z3b(d:Nat):z01 [] d=none:=by simp[z01]
theorem z4D(d:Nat):zm [] d=none:=by simp[zm]
theorem zfr{P:Program}{f:Nat}{xs:List TV}{vs:List Value}{w:World}{g:Go.Sh.Glob}{b:Value}(h:SCalls P g f xs [] (.pv (.v b)) [])(hG:g.G w)(hl:xs.length=vs.length)
  (hr:∀(j:Nat) x v,xs[j]?=some x→vs[j]?=some v→RelT w (z2y w) (zm []) x v):Calls P f vs.toArray w fun e w'=>e=.returned b∧Below w.heap.size w w':=by
 have hX:∀d k,¬z1w (z2y w) [] d k:=by
  rintro d k (⟨cs,h1,_⟩|⟨q,cap,h1,_⟩)
  ·rw[z3b]at h1;cases h1
  ·rw[z4D]at h1;cases h1
 refine(h.2 w (z2y w) vs hG ?_ (fun d k hd=>absurd hd (hX d k)) hl hr).mono ?_
 ·refine⟨fun d cs hd=> ?_,fun d e W n hd=> ?_,fun d d' cs cs' hd=> ?_,fun d d' cs q k cap hd=> ?_,fun d d' q q' k cap cap' hd=> ?_,fun k o hk=>hk,⟨rfl,rfl,rfl,Nat.le_refl _,fun _ _ _=>rfl⟩,fun k o u hk hu=>⟨hk,hu⟩,fun k o hk=> .inl hk,?_⟩
  ·rw[z3b]at hd;cases hd
  ·rw[z4D]at hd;cases hd
  ·rw[z3b]at hd;cases hd
  ·rw[z3b]at hd;cases hd
  ·rw[z4D]at hd;cases hd
  ·have hold:∀d,¬(Go.Sh.start w (z2y w) [] 0).old d:=fun d h=>by have h1:1000≤d∧d<1000+0:=h;omega
   constructor<;>(intros;first|(exfalso;apply hold;assumption)|rfl)
 ·rintro e w' ⟨v,E',rfl,hm,hv,_⟩;obtain rfl:=Go.Sh.val_rel (y:=b) hv rfl;exact⟨rfl,hm.low.os,hm.low.tape,hm.low.output,hm.low.size,fun k hk=>hm.low.block k hk (fun d=>hX d k)⟩
end Go.Proofs.YtcpaleaajdilgaaGreatDoor
end

section
namespace Go.Proofs.YtcpaleaajdilgaaGreatDoor
open Go.ChangeShapes Go.WideShapes Go.ChangeAt Go.RowKit Go.Lib Go.Mor Go.Deep Go.Joins
open Go.Sh (RelT RelV TV PV SCalls Env MSim z01 zm z1w Low)
open Go.ChangeMaps (open_string shut_string)
section
variable{H:Type}{enc:TypeId×Value→H}
theorem zjS{t e:TypeId}{k:IntKind}(ht:Tryz.prog.underlying t=some (.slice e))(he:Tryz.prog.underlying e=some (.int k))(hc:Tryz.prog.cellsOf e=1)
  {W:World} {b0 base:Nat} {spare:Nat→Bool} {held:Bool} {v:Value} {d:DataW H} {p:List MemPlace} (hok:Value.okWide Tryz.prog W .any b0 t v) (h:DataW.Trod enc Tryz.prog W base spare held t v d p):
  ∃l:List Int,(∀x∈l,(Lit.int k x).wf=true)∧l.length≤9223372036854775807∧∀r,RelT W (z2y W) r (.pv (.sl 1 (l.map fun z=>[PV.v (.int k z)]))) v:=by
 obtain⟨a0,len,cap,rfl⟩:=okWide_slice ht hok;obtain⟨fuel,hf⟩:=h;rcases open_ints ht he hc hf with⟨hcs,hx⟩|⟨a,len',cap',zs,hcs,_,hl,hm,hz,hx,hcell,hwz⟩
 ·obtain⟨rfl,rfl,rfl⟩:a0=none∧len=0∧cap=0:=by simpa [Value.cells]using hcs
  exact⟨[],by simp,by simp,fun r=> .pv (.sl 1 [] 0 0 0 none (fun _ _=>undef) (by simp) (by simp) (by simp) (by simp) (by simp) (by simp))⟩
 ·obtain⟨rfl,rfl,rfl⟩:a0=some a∧len=len'∧cap=cap':=by simpa [Value.cells]using hcs
  have hlz:len≤zs.length:=by rw[hz];split<;>omega
  have hlen:(zs.take len).length=len:=by rw[List.length_take];omega
  refine⟨zs.take len,fun x hx=>hwz x (List.mem_of_mem_take hx),by unfold maxLen at hm;omega,fun r=> ?_⟩;have hL:((zs.take len).map fun z=>[PV.v (.int k z)]).length=len:=by rw[List.length_map,hlen]
  rcases Nat.eq_zero_or_pos zs.length with h0|h0
  ·obtain rfl:len=0:=by omega
   have e0:(zs.take 0).map (fun z=>[PV.v (.int k z)])=[]:=by simp
   rw[e0];exact .pv (.sl 1 [] 0 0 cap (some a) (fun _ _=>undef) (by simp) (by simp) hm (by simp) (by simp) (by simp))
  ·obtain⟨b,off,rfl,hcl⟩:=ints_at hcell h0;have cell:∀(i j:Nat) cs q,((zs.take len).map fun z=>[PV.v (.int k z)])[i]?=some cs→cs[j]?=some q→∃u,q=.v u∧W.cell? ⟨b,off+i*1+j,none⟩=some u∧Go.Sh.one u:=by
    intro i j cs q h1 h2;rw[List.getElem?_map,Option.map_eq_some_iff]at h1;obtain⟨z,hz1,rfl⟩:=h1;obtain⟨hi,he⟩:=gJ hz1;have hi':i<zs.length:=by rw[hlen]at hi;omega
    match j with
    |0=>
     simp at h2;subst h2;refine⟨_,rfl,?_,rfl⟩;have:=hcl i hi';rw[List.getElem_take]at he;rw[List.getD_eq_getElem?_getD,gE hi',Option.getD_some,he]at this;simpa using this
    |j+1=>simp at h2
   have key:RelV W (z2y W).K (.sl 1 ((zs.take len).map fun z=>[PV.v (.int k z)])) (.slice (some ⟨b,off,none⟩) ((zs.take len).map fun z=>[PV.v (.int k z)]).length cap):=by
    refine .sl 1 _ b off cap (some ⟨b,off,none⟩) (fun i j=>(W.cell? ⟨b,off+i*1+j,none⟩).getD undef) (fun _=>rfl) (by omega) hm (fun cs hcs=> ?_) (fun i j cs q h1 h2=> ?_) (fun i j cs q h1 h2=> ?_)
    ·obtain⟨r,_,rfl⟩:=List.mem_map.1 hcs;rfl
    ·obtain⟨u,_,hu,ho⟩:=cell i j cs q h1 h2;rw[hu];exact⟨z0f (a:=⟨b,off+i*1+j,none⟩) hu,rfl,ho⟩
    ·obtain⟨u,rfl,hu,ho⟩:=cell i j cs q h1 h2;rw[hu];exact .v u
   rw[hL]at key;exact .pv key
end
end Go.Proofs.YtcpaleaajdilgaaGreatDoor
end

section
namespace Go.Proofs.YtcpaleaajdilgaaGreatDoor.OpR
open Go.ChangeShapes Go.WideShapes Go.ChangeAt Go.RowKit Go.Lib Go.Mor Go.Deep Go.Joins
open Go.ChangeMaps (open_string shut_string)
theorem znN{α:Type}{n:Nat}{Q:Nat→α→Prop}(h:∀i,i<n→∃r,Q i r):∃l:List α,l.length=n∧∀(i:Nat) r,l[i]?=some r→Q i r:=by
 induction n with
 |zero=>exact⟨[],rfl,by simp⟩
 |succ n ih=>
  obtain⟨l,hl,hq⟩:=ih fun i hi=>h i (by omega);obtain⟨r,hr⟩:=h n (by omega);refine⟨l++[r],by simp[hl],fun i x hx=> ?_⟩;rw[List.getElem?_append]at hx;split at hx
  ·exact hq i x hx
  ·rw[List.getElem?_singleton]at hx;split at hx
   ·injection hx with hx;subst hx
    obtain rfl:i=n:=by omega
    exact hr
   ·cases hx
section
variable{H:Type}{enc:TypeId×Value→H}{P:Program}{w:World}{base:Nat}{spare:Nat→Bool}{held:Bool}
theorem zfE{t e:TypeId}{fs:Array Field}{fuel:Nat}{cs:List Value}{x:DataW H×List MemPlace}(ht:P.underlying t=some (.slice e))(he:P.underlying e=some (.struct fs))
  (hone:oneCellFields P fs=true) (hC:P.cellsOf e=fs.size) (h:DataW.trod enc P w base spare held fuel t cs=some x):
  (cs=[.slice none 0 0])∨
  ∃(a:Addr) (len cap:Nat),cs=[.slice (some a) len cap]∧len≤cap∧cap≤maxLen∧
   ∀i,i<len→∃n,∀(j:Nat) (f:Field),fs[j]?=some f→∃(v:Value) (y:DataW H×List MemPlace),w.cell? (a.add (i*fs.size+j))=some v∧DataW.trod enc P w base spare held n f.type [v]=some y:=by
 rcases open_slice ht h with h0|⟨a,len,cap,m,n,D,Pl,hcs,hb,hl,hm,hmm,hx,hi⟩
 ·exact .inl h0.1
 ·refine .inr ⟨a,len,cap,hcs,hl,hm,fun i him=> ?_⟩;obtain⟨cs',hc,ht'⟩:=hi i (by rw[hmm];split<;>omega);rw[hC]at hc;obtain⟨ys,n',hn',hy,hlen,hyl,hf⟩:=DataW.trod_struct he ht';obtain⟨_,hcl,hat⟩:=World.cells?_some hc;refine⟨n',fun j f hj=> ?_⟩;obtain⟨ho,hk⟩:=hone_of hone j f hj;have hjl:j<fs.size:=(gA hj).1;have hcell:=hat j hjl;have hv:cs'[j]?=some (cs'[j]'(by omega)):=gE (by omega);have h1:=hf j f hj;rw[ho,hk]at h1;have hone':(cs'.drop j).take 1=[cs'[j]'(by omega)]:=by
   rw[List.drop_eq_getElem_cons (by omega)];rfl
  rw[hone']at h1;have hys:ys[j]?=some (ys[j]'(by omega)):=gE (by omega);refine⟨_,_,?_,h1.trans hys⟩;rw[←Go.Deep.add_add,hcell,hv]
end
theorem zdD{a:Addr}{w:World}{k:Nat}{v:Value}(h0:w.cell? a=some v):a=⟨a.block,a.off,none⟩∧a.add k=⟨a.block,a.off+k,none⟩:=by
 have:=World.cell?_spot h0;obtain⟨b,off,spot⟩:=a;simp at this;subst this;exact⟨rfl,Go.WideShapes.add_plain ..⟩
end Go.Proofs.YtcpaleaajdilgaaGreatDoor.OpR
namespace Go.Proofs.YtcpaleaajdilgaaGreatDoor
open Go.ChangeShapes Go.WideShapes Go.ChangeAt Go.RowKit Go.Lib Go.Mor Go.Deep Go.Joins
open Go.Sh (RelT RelV TV PV SCalls Env MSim z01 zm z1w Low)
open Go.ChangeMaps (open_string shut_string)
open Go.Proofs.YtcpaleaajdilgaaGreatDoor.OpR
section
variable{H:Type}{enc:TypeId×Value→H}
theorem zlY{W:World}{base:Nat}{spare:Nat→Bool}{held:Bool}{fuel:Nat}{c:Value}{y:DataW H×List MemPlace}(h:DataW.trod enc Tryz.prog W base spare held fuel 22 [c]=some y):
  ∃l:List RawF,(∀r∈l,I64 r.n∧I64 r.k∧I64 r.o)∧l.length≤9223372036854775807∧RelV W (z2y W).K (.sl 4 (rfR l)) c:=by
 rcases zfE Tryz.underlying22 Tryz.underlying95 (by kernel_rfl) (by kernel_rfl) h with h0|⟨a,len,cap,hcs,hl,hm,hi⟩
 ·obtain rfl:c=.slice none 0 0:=by simpa using h0
  exact⟨[],by simp,by simp,.sl 4 [] 0 0 0 none (fun _ _=>undef) (by simp) (by simp) (by simp) (by simp) (by simp) (by simp)⟩
 ·obtain rfl:c=.slice (some a) len cap:=by simpa using hcs
  have key:∀i,i<len→∃r:RawF,(I64 r.n∧I64 r.k∧I64 r.o)∧a=⟨a.block,a.off,none⟩∧W.cell? ⟨a.block,a.off+i*4,none⟩=some (.int .i64 r.n)∧W.cell? ⟨a.block,a.off+i*4+1,none⟩=some (.int .i64 r.k)
    ∧W.cell? ⟨a.block,a.off+i*4+2,none⟩=some (.int .i64 r.o)∧W.cell? ⟨a.block,a.off+i*4+3,none⟩=some (.bool r.ix):=by
   intro i hlt;obtain⟨n0,hf0⟩:=hi 0 (by omega);obtain⟨v,y,hc0,_⟩:=hf0 0 _ rfl;have ha:a=⟨a.block,a.off,none⟩:=(zdD (k:=0) (by simpa [Addr.add]using hc0)).1;have hadd:∀k,a.add k=⟨a.block,a.off+k,none⟩:=fun k=>(zdD (k:=k) (by simpa [Addr.add]using hc0)).2;obtain⟨n,hf⟩:=hi i hlt;obtain⟨v0,y0,c0,t0⟩:=hf 0 _ rfl;obtain⟨v1,y1,c1,t1⟩:=hf 1 _ rfl;obtain⟨v2,y2,c2,t2⟩:=hf 2 _ rfl;obtain⟨v3,y3,c3,t3⟩:=hf 3 _ rfl;obtain⟨z0,e0,_,w0⟩:=DataW.trod_int Tryz.underlying3 t0;obtain⟨z1,e1,_,w1⟩:=DataW.trod_int Tryz.underlying3 t1;obtain⟨z2,e2,_,w2⟩:=DataW.trod_int Tryz.underlying3 t2;obtain⟨z3,e3,_⟩:=DataW.trod_bool Tryz.underlying4 t3;simp at e0 e1 e2 e3;subst e0 e1 e2 e3;rw[hadd]at c0 c1 c2 c3;exact⟨⟨z0,z1,z2,z3⟩,⟨bounds_i64 w0,bounds_i64 w1,bounds_i64 w2⟩,ha,c0,c1,c2,c3⟩
  obtain⟨l,hlen,hq⟩:=znN key;refine⟨l,fun r hr=> ?_,by unfold maxLen at hm;omega,?_⟩
  ·obtain⟨i,hi⟩:=List.getElem?_of_mem hr;exact(hq i r hi).1
  ·have hL:(rfR l).length=len:=by rw[zbm,hlen]
   rw[←hL];have cell:∀(i j:Nat) cs q,(rfR l)[i]?=some cs→cs[j]?=some q→∃u,q=.v u∧W.cell? ⟨a.block,a.off+i*4+j,none⟩=some u∧Go.Sh.one u:=by
    intro i j cs q h1 h2;rw[zie,Option.map_eq_some_iff]at h1;obtain⟨r,hr,rfl⟩:=h1;obtain⟨_,_,c0,c1,c2,c3⟩:=hq i r hr
    match j with
    |0=>simp[z7G]at h2;subst h2;exact⟨_,rfl,c0,rfl⟩
    |1=>simp[z7G]at h2;subst h2;exact⟨_,rfl,c1,rfl⟩
    |2=>simp[z7G]at h2;subst h2;exact⟨_,rfl,c2,rfl⟩
    |3=>simp[z7G]at h2;subst h2;exact⟨_,rfl,c3,rfl⟩
    |j+4=>simp[z7G]at h2
   refine .sl 4 (rfR l) a.block a.off cap (some a) (fun i j=>(W.cell? ⟨a.block,a.off+i*4+j,none⟩).getD undef) (fun hne=> ?_) (by omega) hm (fun cs hcs=> ?_) (fun i j cs q h1 h2=> ?_) (fun i j cs q h1 h2=> ?_)
   ·obtain⟨r,hr⟩:∃r,l[0]?=some r:=by
     cases l with
     |nil=>exact absurd rfl hne
     |cons r q=>exact⟨r,rfl⟩
    rw[(hq 0 r hr).2.1]
   ·obtain⟨r,_,rfl⟩:=List.mem_map.1 hcs;rfl
   ·obtain⟨u,_,hu,ho⟩:=cell i j cs q h1 h2;rw[hu];exact⟨z0f (a:=⟨a.block,a.off+i*4+j,none⟩) hu,rfl,ho⟩
   ·obtain⟨u,rfl,hu,ho⟩:=cell i j cs q h1 h2;rw[hu];exact .v u
theorem zjT{W:World}{b0 base:Nat}{spare:Nat→Bool}{held:Bool}{v:Value}{d:DataW H}{p:List MemPlace}(hok:Value.okWide Tryz.prog W .any b0 24 v)(h:DataW.Trod enc Tryz.prog W base spare held 24 v d p):
  ∃x:Raw,RawOk x∧∀r,RelT W (z2y W) r (z7A x) v:=by
 obtain⟨c0,c1,y0,y1,m,rfl,_,_,hy0,hy1⟩:=open_agg2 Tryz.underlying24 (by kernel_rfl) (by kernel_rfl) hok h;obtain⟨z0,e0,_,w0⟩:=DataW.trod_int Tryz.underlying3 hy0;obtain rfl:c0=_:=by simpa using e0
 obtain⟨l,hl,hlen,hr⟩:=zlY hy1;refine⟨⟨z0,l⟩,⟨bounds_i64 w0,hl,hlen⟩,fun r=> ?_⟩;unfold z7A;refine .agg _ [_,c1] rfl (fun j q u hq hu=> ?_) (fun u hu=> ?_)
 ·match j with
  |0=>simp at hq hu;subst hq;subst hu;exact .pv (.v _)
  |1=>simp at hq hu;subst hq;subst hu;exact .pv hr
  |j+2=>simp at hq
 ·simp at hu;rcases hu with rfl|rfl
  ·rfl
  ·cases hr;rfl
end
end Go.Proofs.YtcpaleaajdilgaaGreatDoor
end

section
namespace Go.Mor
open Go
def z7i(fs:List Fld)(n:Nat)(t:Ty):Nat→Nat→Option (zB)
 |0,_=>none
 |k+1,i=>if z0h (fs.getD ((n+i)%fs.length) z4e).t t then some (fs.getD ((n+i)%fs.length) z4e).n else z7i fs n t k (i+1)
def z3y(c:Cls)(n:Int)(t:Ty):Option (zB):=z7i c.fs (pick n 100).toNat t c.fs.length 0
def zev(a b:zB):List (zB):=[[],[51],a,a++[32,42,32,50,32,45,32,49],[108,101,110,40]++b++[41],[105,102,40]++a++[32,62,32,50,44,32]++a++[44,32,48,32,45,32]++a++[41],[102,105,110,100,40,34,98,34,44,32]++b++[41],a++[32,47,32]++a]
def zfd(a b:zB):List (zB):=[[],[34,120,34],b,b++[32,38,32,34,45,34,32,38,32]++b,[116,101,120,116,40]++a++[41],[108,101,102,116,40]++b++[44,32,50,41],[102,114,111,109,40]++b++[44,32,51,41],[105,102,40]++a++[32,61,32,49,44,32]++b++[44,32,34,110,111,34,41]]
def z8v(c:Cls)(n:Int):zB:=(z3y c n ⟨1,0⟩).getD [55]
def z8Y(c:Cls)(n:Int):zB:=(z3y c (n.tdiv 2) ⟨2,0⟩).getD [34,97,32,98,34]
def z4P(n:Int)(t:Ty)(c:Cls):zB:=
 if t.k=1 then(zev (z8v c n) (z8Y c n)).getD (pick n 8).toNat []
 else if t.k=2 then(zfd (z8v c n) (z8Y c n)).getD (pick n 8).toNat []
 else match z3y c n t with
  |some s=>if 0<pick n 3 then s else []
  |none=>[]
structure RawH where
 k:Int
 f:Int
 n:Int
 m:Int
 t:Ty
 x:Int
 o:Int
def nmH(i:Int):zB:=([[110,101,119,95,49],[109,111,114,101],[122,57],[97],[110,97,109,101],[107,105,100,115]]:List (zB)).getD i.toNat []
def tyH(t:Ty):Ty:=⟨1+pick t.k 5,if pick t.k 5=4 then 1+pick t.o 4 else 0⟩
def z5Y(x:RawH)(c:Cls):Chg:=
 let f:=if c.fs=[] then [] else(c.fs.getD (pick x.f c.fs.length).toNat z4e).n
 let k:=1+pick x.k 6
 let t:=tyH x.t
 let e:=z4P x.x t c
 if k=1 then⟨k,[],nmH (pick x.n 6),[],t,e,[]⟩
 else if k=3 then⟨k,f,nmH (pick x.n 6),[],ty0,[],[]⟩
 else if k=4 then⟨k,f,[],[],t,e,[]⟩
 else if k=5 then⟨k,f,nmH (pick x.n 6),nmH (pick x.m 6),t,e,z4P x.o t c⟩
 else⟨k,f,[],[],ty0,[],[]⟩
def nmL:List (zB):=[[97],[98,50],[110,97,109,101],[110,101,120,116,95,111,110,101],[107,105,100,115],[120]]
def numL:List (zB):=[55]::nmL
def txtL:List (zB):=[34,97,32,98,34]::nmL
def exA(a:zB):List (zB):=[a++[32,42,32,50,32,45,32,49],[105,102,40]++a++[32,62,32,50,44,32]++a++[44,32,48,32,45,32]++a++[41],a++[32,47,32]++a,[116,101,120,116,40]++a++[41]]
def exB(b:zB):List (zB):=[[108,101,110,40]++b++[41],[102,105,110,100,40,34,98,34,44,32]++b++[41],b++[32,38,32,34,45,34,32,38,32]++b,[108,101,102,116,40]++b++[44,32,50,41],[102,114,111,109,40]++b++[44,32,51,41]]
def exC(a b:zB):zB:=[105,102,40]++a++[32,61,32,49,44,32]++b++[44,32,34,110,111,34,41]
def exN:List (zB):=[55]::[34,97,32,98,34]::nmL++[[51],[34,120,34]]
def exL:List (zB):=exN++numL.flatMap exA++txtL.flatMap exB++numL.flatMap fun a=>txtL.map (exC a)
theorem zmX{a:zB}(h:a∈numL):a∈exL:=by
 refine List.mem_append_left _ (List.mem_append_left _ (List.mem_append_left _ ?_))
 grind [exN,numL]
theorem zqk{b:zB}(h:b∈txtL):b∈exL:=by
 refine List.mem_append_left _ (List.mem_append_left _ (List.mem_append_left _ ?_))
 grind [exN,txtL]
theorem zmY{e:zB}(h:e∈exN):e∈exL:=List.mem_append_left _ (List.mem_append_left _ (List.mem_append_left _ h))
theorem zdj{a e:zB}(h:a∈numL)(he:e∈exA a):e∈exL:=List.mem_append_left _ (List.mem_append_left _ (List.mem_append_right _ (List.mem_flatMap.2 ⟨a,h,he⟩)))
theorem zb4{b e:zB}(h:b∈txtL)(he:e∈exB b):e∈exL:=List.mem_append_left _ (List.mem_append_right _ (List.mem_flatMap.2 ⟨b,h,he⟩))
theorem zqj{a b:zB}(ha:a∈numL)(hb:b∈txtL):exC a b∈exL:=List.mem_append_right _ (List.mem_flatMap.2 ⟨a,ha,List.mem_map.2 ⟨b,hb,rfl⟩⟩)
theorem znY{a b:zB}(ha:a∈numL)(hb:b∈txtL){e:zB}(he:e∈zev a b):e=[]∨e∈exL:=by
 unfold zev at he;simp only[List.mem_cons,List.not_mem_nil,or_false]at he;rcases he with rfl|rfl|rfl|rfl|rfl|rfl|rfl|rfl
 ·simp
 ·exact .inr (zmY (by decide))
 ·grind [zmX]
 ·grind [zdj,exA]
 ·grind [zb4,exB]
 ·grind [zdj,exA]
 ·grind [zb4,exB]
 ·grind [zdj,exA]
theorem zox{a b:zB}(ha:a∈numL)(hb:b∈txtL){e:zB}(he:e∈zfd a b):e=[]∨e∈exL:=by
 unfold zfd at he;simp only[List.mem_cons,List.not_mem_nil,or_false]at he;rcases he with rfl|rfl|rfl|rfl|rfl|rfl|rfl|rfl
 ·simp
 ·exact .inr (zmY (by decide))
 ·grind [zqk]
 ·grind [zb4,exB]
 ·exact .inr (zdj ha (by simp[exA]))
 ·exact .inr (zb4 hb (by simp[exB]))
 ·exact .inr (zb4 hb (by simp[exB]))
 ·exact .inr (zqj ha hb)
theorem zcw{fs:List Fld}(hne:fs≠[]){n:Nat}{t:Ty}:∀{k i:Nat} {s:zB},z7i fs n t k i=some s→∃f∈fs,f.n=s∧z0h f.t t=true
 |0,_,s,h=>by cases h
 |k+1,i,s,h=>by
  rw[z7i]at h;split at h
  ·grind [Nat.mod_lt,List.length_pos_iff,List.getElem_mem,List.getElem?_eq_getElem]
  ·exact zcw hne h
theorem zah{c:Cls}{n:Int}{t:Ty}{s:zB}(h:z3y c n t=some s):∃f∈c.fs,f.n=s∧z0h f.t t=true:=by
 unfold z3y at h;refine zcw (fun e=> ?_) h;rw[e]at h;cases h
theorem zap{c:Cls}(hc:∀f∈c.fs,f.n∈nmL)(n:Int):z8v c n∈numL:=by
 unfold z8v;cases h:z3y c n ⟨1,0⟩ with
 |none=>exact List.mem_cons_self ..
 |some s=>
  obtain⟨f,hf,rfl,_⟩:=zah h;exact List.mem_cons_of_mem _ (hc f hf)
theorem zaF{c:Cls}(hc:∀f∈c.fs,f.n∈nmL)(n:Int):z8Y c n∈txtL:=by
 unfold z8Y;cases h:z3y c (n.tdiv 2) ⟨2,0⟩ with
 |none=>exact List.mem_cons_self ..
 |some s=>
  obtain⟨f,hf,rfl,_⟩:=zah h;exact List.mem_cons_of_mem _ (hc f hf)
theorem zcp{c:Cls}(hc:∀f∈c.fs,f.n∈nmL)(n:Int)(t:Ty):z4P n t c=[]∨z4P n t c∈exL:=by
 unfold z4P;split
 ·grind [zev,z8v,z8Y,pick,znY,zap,zaF]
 split
 ·grind [zfd,z8v,z8Y,pick,zox,zap,zaF]
 cases h:z3y c n t with
 |none=>simp
 |some s=>
  obtain⟨f,hf,rfl,_⟩:=zah h
  dsimp only
  split
  ·exact .inr (zmX (List.mem_cons_of_mem _ (hc f hf)))
  ·simp
end Go.Mor
end

section
namespace Go.Proofs.YtcpaleaajdilgaaGreatDoor
open Go Go.RowKit Go.Mor Go.Sh
structure RawHOk(r:RawH):Prop where
 k:I64 r.k
 f:I64 r.f
 n:I64 r.n
 m:I64 r.m
 tk:I64 r.t.k
 ot:I64 r.t.o
 x:I64 r.x
 o:I64 r.o
def z6d(x:RawH):TV:=.agg [I x.k,I x.f,I x.n,I x.m,I x.t.k,I x.t.o,I x.x,I x.o]
end Go.Proofs.YtcpaleaajdilgaaGreatDoor
end

section
namespace Go.Proofs.YtcpaleaajdilgaaGreatDoor
open Go.ChangeShapes Go.WideShapes Go.ChangeAt Go.RowKit Go.Lib Go.Mor Go.Deep Go.Joins
open Go.Sh (RelT RelV TV PV SCalls Env MSim z01 zm z1w Low)
open Go.ChangeMaps (open_string shut_string)
section
variable{H:Type}{enc:TypeId×Value→H}
theorem zn6{α:Type}{l:List α}(h:l.length=2):∃a b,l=[a,b]:=by
 match l,h with
 |[a,b],_=>exact⟨a,b,rfl⟩
theorem zqq{α:Type}{l:List α}(h:l.length=7):∃a b c d e f g,l=[a,b,c,d,e,f,g]:=by
 match l,h with
 |[a,b,c,d,e,f,g],_=>exact⟨a,b,c,d,e,f,g,rfl⟩
theorem zqr{α:Type}{l:List α}(h:l.length=8):∃a b c d e f g i,l=[a,b,c,d,e,f,g,i]:=by
 match l,h with
 |[a,b,c,d,e,f,g,i],_=>exact⟨a,b,c,d,e,f,g,i,rfl⟩
theorem zlZ{W:World}{base:Nat}{spare:Nat→Bool}{held:Bool}{n:Nat}{cs:List Value}{y:DataW H×List MemPlace}(h:DataW.trod enc Tryz.prog W base spare held n 46 cs=some y):
  ∃t:Ty,cs=[.int .i64 t.k,.int .i64 t.o]∧I64 t.k∧I64 t.o:=by
 obtain⟨xs,n',rfl,_,hlen,hxl,hf⟩:=DataW.trod_struct Tryz.underlying46 h;obtain⟨c0,c1,rfl⟩:=zn6 (hlen.trans (by kernel_rfl));obtain⟨x0,x1,rfl⟩:=zn6 hxl;have k0:Tryz.prog.cellsOf 3=1:=by kernel_rfl
 have h0:DataW.trod enc Tryz.prog W base spare held n' 3 [c0]=some x0:=by have:=hf 0 _ rfl;simpa [k0]using this
 have h1:DataW.trod enc Tryz.prog W base spare held n' 3 [c1]=some x1:=by have:=hf 1 _ rfl;simpa [k0]using this
 obtain⟨z0,e0,_,w0⟩:=DataW.trod_int Tryz.underlying3 h0;obtain⟨z1,e1,_,w1⟩:=DataW.trod_int Tryz.underlying3 h1;simp at e0 e1;subst e0 e1;exact⟨⟨z0,z1⟩,rfl,bounds_i64 w0,bounds_i64 w1⟩
theorem zjU{W:World}{b0 base:Nat}{spare:Nat→Bool}{held:Bool}{v:Value}{d:DataW H}{p:List MemPlace}(hok:Value.okWide Tryz.prog W .any b0 48 v)(h:DataW.Trod enc Tryz.prog W base spare held 48 v d p):
  ∃x:RawH,RawHOk x∧∀r,RelT W (z2y W) r (z6d x) v:=by
 obtain⟨cs,rfl,hsz⟩:=okWide_struct Tryz.underlying48 hok;obtain⟨cs⟩:=cs;obtain⟨c0,c1,c2,c3,c4,c5,c6,c7,rfl⟩:=zqr (show cs.length=8 from hsz.trans (by kernel_rfl));obtain⟨fuel,hf⟩:=h;obtain⟨xs,n',_,_,hlen,hxl,hf⟩:=DataW.trod_struct Tryz.underlying48 hf;obtain⟨x0,x1,x2,x3,x4,x5,x6,rfl⟩:=zqq hxl;have k0:Tryz.prog.cellsOf 3=1:=by kernel_rfl
 have k1:Tryz.prog.cellsOf 46=2:=by kernel_rfl
 have h0:DataW.trod enc Tryz.prog W base spare held n' 3 [c0]=some x0:=by have:=hf 0 _ rfl;simpa [k0,Value.cells]using this
 have h1:DataW.trod enc Tryz.prog W base spare held n' 3 [c1]=some x1:=by have:=hf 1 _ rfl;simpa [k0,Value.cells]using this
 have h2:DataW.trod enc Tryz.prog W base spare held n' 3 [c2]=some x2:=by have:=hf 2 _ rfl;simpa [k0,Value.cells]using this
 have h3:DataW.trod enc Tryz.prog W base spare held n' 3 [c3]=some x3:=by have:=hf 3 _ rfl;simpa [k0,Value.cells]using this
 have h4:DataW.trod enc Tryz.prog W base spare held n' 46 [c4,c5]=some x4:=by have:=hf 4 _ rfl;simpa [k1,Value.cells]using this
 have h5:DataW.trod enc Tryz.prog W base spare held n' 3 [c6]=some x5:=by have:=hf 5 _ rfl;simpa [k0,Value.cells]using this
 have h6:DataW.trod enc Tryz.prog W base spare held n' 3 [c7]=some x6:=by have:=hf 6 _ rfl;simpa [k0,Value.cells]using this
 obtain⟨z0,e0,_,w0⟩:=DataW.trod_int Tryz.underlying3 h0;obtain⟨z1,e1,_,w1⟩:=DataW.trod_int Tryz.underlying3 h1;obtain⟨z2,e2,_,w2⟩:=DataW.trod_int Tryz.underlying3 h2;obtain⟨z3,e3,_,w3⟩:=DataW.trod_int Tryz.underlying3 h3;obtain⟨t,e4,w4,w4'⟩:=zlZ h4;obtain⟨z5,e5,_,w5⟩:=DataW.trod_int Tryz.underlying3 h5;obtain⟨z6,e6,_,w6⟩:=DataW.trod_int Tryz.underlying3 h6;simp at e0 e1 e2 e3 e4 e5 e6;obtain⟨rfl,rfl⟩:=e4;subst e0 e1 e2 e3 e5 e6;refine⟨⟨z0,z1,z2,z3,t,z5,z6⟩,⟨bounds_i64 w0,bounds_i64 w1,bounds_i64 w2,bounds_i64 w3,w4,w4',bounds_i64 w5,bounds_i64 w6⟩,fun r=> ?_⟩;unfold z6d;refine .agg _ [_,_,_,_,_,_,_,_] rfl (fun j q u hq hu=> ?_) (fun u hu=> ?_)
 ·match j with
  |0=>simp at hq hu;subst hq;subst hu;exact .pv (.v _)
  |1=>simp at hq hu;subst hq;subst hu;exact .pv (.v _)
  |2=>simp at hq hu;subst hq;subst hu;exact .pv (.v _)
  |3=>simp at hq hu;subst hq;subst hu;exact .pv (.v _)
  |4=>simp at hq hu;subst hq;subst hu;exact .pv (.v _)
  |5=>simp at hq hu;subst hq;subst hu;exact .pv (.v _)
  |6=>simp at hq hu;subst hq;subst hu;exact .pv (.v _)
  |7=>simp at hq hu;subst hq;subst hu;exact .pv (.v _)
  |j+8=>simp at hq
 ·simp at hu;rcases hu with rfl|rfl|rfl|rfl|rfl|rfl|rfl|rfl<;>rfl
end
end Go.Proofs.YtcpaleaajdilgaaGreatDoor
end

section
namespace Go.Proofs.YtcpaleaajdilgaaGreatDoor
open Go.ChangeShapes Go.WideShapes Go.ChangeAt Go.RowKit Go.Lib Go.Mor Go.Deep
open Go.ChangeMaps (open_string shut_string)
abbrev z8m:List (String×DataW Unit):=[("math/bits.deBruijn32tab",Rows.laid_math_bits_deBruijn32tab),("math/bits.deBruijn64tab",Rows.laid_math_bits_deBruijn64tab),("internal/strconv.uint64pow10",Rows.laid_internal_strconv_uint64pow10),("unicode/utf8.acceptRanges",Rows.laid_unicode_utf8_acceptRanges),("moraine/wire.errEnd",Rows.laid_moraine_wire_errEnd),("moraine/wire.errForm",Rows.laid_moraine_wire_errForm),("strconv.ErrRange",Rows.laid_strconv_ErrRange),("strconv.ErrSyntax",Rows.laid_strconv_ErrSyntax),("unicode/utf8.first",Rows.laid_unicode_utf8_first)]
theorem zpH:(Rows.laid_internal_strconv_uint64pow10:DataW Unit)=Lib.tabData .u64 Lib.pow10Tab:=by kernel_rfl
theorem zqt{W:World}(h:W.ShapedOpen Tryz.prog):∃k,W.cell? ⟨4,0,none⟩=some (.int .i64 k):=
 cell_of_shapedOpen_int (zero:= #[.int .i64 0]) (t:=3) h (of_decide_eq_true (by kernel_rfl)) (by kernel_rfl) rfl (by kernel_rfl) (by kernel_rfl) Tryz.underlying3
theorem zq6: "*" ++ "errors.errorString" = "*errors.errorString" :=by decide
theorem zkh(u:TypeId)(h:Tryz.prog.typeName? 3 u=some "*errors.errorString"):u=352:=
 typeName_ptr_named (nm:= "errors.errorString") (by rw[zq6];kernel_rfl) (by kernel_rfl) (by decide) u (by rw[zq6];exact h)
theorem zaj{W:World}(hL:laidMetH Tryz.prog z8m W)(hsh:W.ShapedOpen Tryz.prog):∃a0 a1,(glX a0 a1 W.heap.size).G W:=by
 have hL':laidMet Tryz.prog z8m W:=hL;have hU:=zlD hL' (.tail _ (.tail _ (.tail _ (.tail _ (.tail _ (.tail _ (.tail _ (.tail _ (.head _))))))))) (.tail _ (.tail _ (.tail _ (.head _))));have hv:=zqm hsh;have hT:GlobT W:=⟨Lib.tabIs_of_head z9S (t:=326) (by kernel_rfl) Tryz.underlying326 Tryz.underlying247 (by kernel_rfl) (by kernel_rfl) (by have h:=hL'.tail.tail;rw[zpH]at h;exact h),zqt hsh⟩
 obtain⟨p0,p1,_,_,_,_,_,_,pv0,pv1,_⟩:=laid_sentinels2 (g0:=7) (g1:=6) (ti:=242) (tp:=352) (te:=354) (ts:=9) hL'.tail.tail.tail.tail.tail.tail (by kernel_rfl) (by kernel_rfl) (by kernel_rfl) (by kernel_rfl)
  Tryz.underlying242 zkh Tryz.underlying352 Tryz.underlying354 rfl rfl Tryz.underlying9 (by kernel_rfl) (by kernel_rfl)
 have hE:GlobE W:=by
  refine⟨⟨352,.pointer (some p1),?_⟩,⟨352,.pointer (some p0),?_⟩⟩
  ·have:=World.var?_cell (g:=6) (by kernel_rfl) pv1 0;simpa using this
  ·have:=World.var?_cell (g:=7) (by kernel_rfl) pv0 0;simpa using this
 obtain⟨a0,a1,s0,s1,c0,c1,t0,t1,hv0,hv1,_,_,_,_,_,_,hne,hb0,hb1⟩:=laid_sentinels2 (g0:=2) (g1:=3) (ti:=242) (tp:=352) (te:=354) (ts:=9) hL'.tail.tail.tail.tail (by kernel_rfl) (by kernel_rfl) (by kernel_rfl) (by kernel_rfl)
  Tryz.underlying242 zkh Tryz.underlying352 Tryz.underlying354 rfl rfl Tryz.underlying9 (by kernel_rfl) (by kernel_rfl)
 have hG:Glob W a0 a1:=by
  refine⟨hU,?_,?_,hne,⟨c0,t0,hb0⟩,⟨c1,t1,hb1⟩⟩
  ·have:=World.var?_cell (g:=2) (by kernel_rfl) hv0 0;simpa using this
  ·have:=World.var?_cell (g:=3) (by kernel_rfl) hv1 0;simpa using this
 have hN:GlobN a0 a1 W.heap.size W:=⟨hG,Nat.le_refl _,z1R hb0,z1R hb1,hv⟩
 exact⟨a0,a1,(⟨⟨hN,hT⟩,hE⟩:GlobNX a0 a1 W.heap.size W)⟩
theorem zem(os:Os)(args:Array Value):laidMet Tryz.prog z8m ((z65 os).forCall (fun _ _=>0) ⟨#[],args,[]⟩).memory:=
 (LaidIn.of_run [8,9,5,1,2,N0,3,N0+1,7,N0+2,6,N0+3,0] 8 (by kernel_rfl) (by kernel_rfl) (by kernel_rfl) (by kernel_rfl)).met
end Go.Proofs.YtcpaleaajdilgaaGreatDoor
end

section
namespace Go.Proofs.YtcpaleaajdilgaaGreatDoor
open Go Go.RowKit Go.Mor
section
structure RowT(α:Type) where
 e:TypeId
 t:TypeId
 size:Nat
 bytes:Nat
 zero:Value
 cells:α→List Value
 len:∀x,(cells x).length=size
 one:∀x u,u∈cells x→u.oneCell'=true
 pos:0<size
 few:bytes≤1000
 und:Tryz.prog.underlying t=some (.slice e)
 info:(Tryz.prog.info? e).map (fun i=>(i.zero,i.size,i.bytes))=some (some zero,size,bytes)
 zlen:zero.cells.size=size
variable{α:Type}(R:RowT α)
def IsR(ok:Nat→Prop)(w:World)(l:List α)(c:Value):Prop:=
 ∃(b off cap:Nat) (p:Option Addr),c=.slice p l.length cap∧l.length≤cap∧cap≤maxLen∧(l≠[]→p=some ⟨b,off,none⟩∧ok b)∧(p=none→c=.slice none 0 0)∧
  ∀(i:Nat) (x:α),l[i]?=some x→∀(j:Nat) (u:Value),(R.cells x)[j]?=some u→w.cell? ⟨b,off+i*R.size+j,none⟩=some u
def OwnR(base:Nat)(w:World)(v:Value)(l:List α):Prop:=w.ownsRow base R.e R.size v l.length (l.flatMap R.cells)
variable{R}
theorem IsR.keepBy{ok:Nat→Prop}{w w':World}{l:List α}{c:Value}(h:IsR R ok w l c)(hk:∀a v,ok a.block→w.cell? a=some v→w'.cell? a=some v):IsR R ok w' l c:=by
 obtain⟨b,off,cap,p,h1,h2,h3,h4,h6,h5⟩:=h;refine⟨b,off,cap,p,h1,h2,h3,h4,h6,fun i x hx j u hu=> ?_⟩;exact hk _ _ (h4 (by rintro rfl;simp at hx)).2 (h5 i x hx j u hu)
theorem IsR.ext{ok:Nat→Prop}{w w':World}{l:List α}{c:Value}(h:IsR R ok w l c)(hb:Below w.heap.size w w'):IsR R ok w' l c:=
 h.keepBy fun _ _ _ hv=>(hb.cell (z0f hv)).trans hv
theorem IsR.weaken{ok ok':Nat→Prop}{w:World}{l:List α}{c:Value}(h:IsR R ok w l c)(hk:∀b,ok b→ok' b):IsR R ok' w l c:=by
 obtain⟨b,off,cap,p,h1,h2,h3,h4,h5⟩:=h;exact⟨b,off,cap,p,h1,h2,h3,fun hl=>⟨(h4 hl).1,hk _ (h4 hl).2⟩,h5⟩
theorem IsR.at{ok:Nat→Prop}{w:World}{l:List α}{p:Option Addr}{n cap:Nat}(h:IsR R ok w l (.slice p n cap))(hl:0<l.length):
  ∃b off,p=some ⟨b,off,none⟩∧ok b∧b<w.heap.size∧∀(i:Nat) (x:α),l[i]?=some x→∀(j:Nat) (u:Value),(R.cells x)[j]?=some u→w.cell? ⟨b,off+i*R.size+j,none⟩=some u:=by
 obtain⟨b,off,cap',p',h1,h2,h3,h4,h6,h5⟩:=h;obtain⟨rfl,_,_⟩:p=p'∧_:=by simpa using h1
 have hne:l≠[]:=by rintro rfl;simp at hl
 refine⟨b,off,(h4 hne).1,(h4 hne).2,?_,h5⟩;obtain⟨x,hx⟩:∃x,l[0]?=some x:=⟨_,gE hl⟩
 have hpos:=R.pos;obtain⟨u,hu⟩:∃u,(R.cells x)[0]?=some u:=⟨_,gE (by rw[R.len];exact hpos)⟩
 exact z0f (h5 0 x hx 0 u hu)
theorem IsR.cell{ok:Nat→Prop}{w:World}{l:List α}{g o n cap:Nat}(h:IsR R ok w l (.slice (some ⟨g,o,none⟩) n cap)){i:Nat}{x:α}(hx:l[i]?=some x){j:Nat}{u:Value}(hu:(R.cells x)[j]?=some u):w.cell? ⟨g,o+i*R.size+j,none⟩=some u:=by
 obtain⟨b,off,cap',p',h1,h2,h3,h4,h6,h5⟩:=h;have hne:l≠[]:=by rintro rfl;simp at hx
 obtain⟨hp,_⟩:=h4 hne;subst hp;have h1a:(⟨g,o,none⟩:Addr)=⟨b,off,none⟩:=by injection h1 with h1;injection h1
 have hgb:g=b:=congrArg Addr.block h1a;have hof:o=off:=congrArg Addr.off h1a;have:=h5 i x hx j u hu;rw[←hgb,←hof]at this;exact this
theorem IsR.low{B:Nat}{w w':World}{l:List α}{c:Value}(h:IsR R (fun b=>b<B) w l c)(hb:Below B w w'):IsR R (fun b=>b<B) w' l c:=
 h.keepBy fun _ _ ho hv=>(hb.cell ho).trans hv
theorem IsR.none_{ok:Nat→Prop}{w:World}:IsR R ok w [] (.slice none 0 0):=⟨0,0,0,none,rfl,by simp,Nat.zero_le _,by simp,fun _=>rfl,by simp⟩
theorem OwnR.nil(base:Nat)(w:World):OwnR R base w (.slice none 0 0) []:=⟨by simp,.inl ⟨rfl,rfl⟩⟩
theorem OwnR.below{base:Nat}{w:World}{v:Value}{l:List α}(h:OwnR R base w v l):∀k,v.ownBlock=some k→base≤k:=by
 rcases h.2 with⟨rfl,_⟩|⟨g,cap,cur,rfl,hg,_⟩
 ·intro k hk;cases hk
 ·intro k hk;cases hk;exact hg
theorem OwnR.lt{base:Nat}{w:World}{v:Value}{l:List α}(h:OwnR R base w v l):∀k,v.ownBlock=some k→k<w.heap.size:=by
 rcases h.2 with⟨rfl,_⟩|⟨g,cap,cur,rfl,hg,hc,_⟩
 ·intro k hk;cases hk
 ·intro k hk;cases hk;exact z1R hc
theorem OwnR.grown{base:Nat}{w w':World}{v:Value}{l:List α}{row:Option Nat}(h:OwnR R base w v l)(hg:w.grownBy w' row)(hr:∀k,row=some k→v.ownBlock≠some k):OwnR R base w' v l:=by
 refine⟨h.1,?_⟩;rcases h.2 with h|⟨g,cap,cur,rfl,h2,h3,h4⟩
 ·exact .inl h
 ·exact .inr ⟨g,cap,cur,rfl,h2,(hg.block g (z1R h3) (fun e=>hr g e.symm rfl)).trans h3,h4⟩
theorem OwnR.ext{base:Nat}{w w':World}{v:Value}{l:List α}(h:OwnR R base w v l)(hb:Below w.heap.size w w'):OwnR R base w' v l:=by
 refine⟨h.1,?_⟩;rcases h.2 with h|⟨g,cap,cur,h1,h2,h3,h4⟩
 ·exact .inl h
 ·exact .inr ⟨g,cap,cur,h1,h2,(hb.block g (z1R h3)).trans h3,h4⟩
theorem OwnR.ne{base:Nat}{w:World}{v:Value}{l:List α}(h:OwnR R base w v l){B t:Nat}{cs:Array Value}(hq:w.heap[B]?=some (.cells cs t (0,0)))(ht:t≠R.e):some B≠v.ownBlock:=by
 rcases h.2 with⟨rfl,_⟩|⟨g,cap,cur,rfl,hg,hc,_⟩
 ·intro k;cases k
 ·intro k;cases k;rw[hq]at hc;cases hc;exact ht rfl
theorem OwnR.keep{base:Nat}{w w':World}{v:Value}{l:List α}(h:OwnR R base w v l)(hg:w.grownBy w' v.ownBlock){B t:Nat}{cs:Array Value}(hq:w.heap[B]?=some (.cells cs t (0,0)))(ht:t≠R.e):w'.heap[B]?=some (.cells cs t (0,0)):=
 (hg.block B (z1R hq) (h.ne hq ht)).trans hq
theorem z8e(l:List α):(l.flatMap R.cells).length=l.length*R.size:=by
 induction l with
 |nil=>simp
 |cons f r ih=>rw[List.flatMap_cons,List.length_append,R.len,ih,List.length_cons,Nat.add_mul];omega
theorem z8d(l:List α)(i:Nat)(x:α)(h:l[i]?=some x)(j:Nat)(hj:j<R.size):(l.flatMap R.cells)[i*R.size+j]?=(R.cells x)[j]?:=by
 induction l generalizing i with
 |nil=>simp at h
 |cons g r ih=>
  rw[List.flatMap_cons];cases i with
  |zero=>
   simp at h;subst h;rw[List.getElem?_append_left (by rw[R.len];omega)];simp
  |succ i=>
   rw[List.getElem?_append_right (by rw[R.len,Nat.add_mul];omega),R.len];have:(i+1)*R.size+j-R.size=i*R.size+j:=by rw[Nat.add_mul];omega
   rw[this];exact ih i (by simpa using h)
theorem OwnR.isR{base:Nat}{w:World}{v:Value}{l:List α}(h:OwnR R base w v l):IsR R (fun b=>base≤b∧v.ownBlock=some b) w l v:=by
 rcases h.2 with⟨rfl,h0⟩|⟨g,cap,cur,rfl,hg,hc,hcap,hmax,hsz,htake⟩
 ·obtain rfl:l=[]:=List.eq_nil_of_length_eq_zero h0;exact IsR.none_
 ·refine⟨g,0,cap,_,rfl,hcap,hmax,fun _=>⟨rfl,hg,rfl⟩,(fun h=>by cases h),fun i x hx j u hu=> ?_⟩;have hi:i<l.length:=(gJ hx).1;have hj:j<R.size:=by rw[←R.len x];exact(gJ hu).1
  have hlt:i*R.size+j<l.length*R.size:=by
   have:=Nat.mul_le_mul_right R.size (show i+1≤l.length by omega);rw[Nat.add_mul]at this;omega
  rw[←hu,←z8d l i x hx j hj,←htake,List.getElem?_take_of_lt hlt];simp[World.cell?,hc]
theorem OwnR.at{base:Nat}{w:World}{p:Option Addr}{n cap:Nat}{l:List α}(h:OwnR R base w (.slice p n cap) l)(hl:0<l.length):∃g,p=some ⟨g,0,none⟩∧base≤g∧g<w.heap.size:=by
 rcases h.2 with⟨h1,h0⟩|⟨g,cap',cur,h1,hg,hc,_⟩
 ·omega
 ·refine⟨g,?_,hg,z1R hc⟩;injection h1
theorem OwnR.cell{base:Nat}{w:World}{g n cap:Nat}{l:List α}(h:OwnR R base w (.slice (some ⟨g,0,none⟩) n cap) l){i:Nat}{x:α}(hx:l[i]?=some x){j:Nat}{u:Value}(hu:(R.cells x)[j]?=some u):w.cell? ⟨g,i*R.size+j,none⟩=some u:=by
 obtain⟨b,off,cap',p',h1,h2,h3,h4,h6,h5⟩:=h.isR;have hne:l≠[]:=by rintro rfl;simp at hx
 obtain⟨hp,_⟩:=h4 hne;subst hp;have h1a:(⟨g,0,none⟩:Addr)=⟨b,off,none⟩:=by injection h1 with h1;injection h1
 have hgb:g=b:=congrArg Addr.block h1a;have hof:0=off:=congrArg Addr.off h1a;have:=h5 i x hx j u hu;rw[←hgb,←hof,Nat.zero_add]at this;exact this
theorem OwnR.any{base:Nat}{w:World}{v:Value}{l:List α}(h:OwnR R base w v l):IsR R (fun _=>True) w l v:=h.isR.weaken fun _ _=>trivial
theorem zfB{P:Program}{e:TypeId}{z:Option Value}{s b:Nat}(h:(P.info? e).map (fun i=>(i.zero,i.size,i.bytes))=some (z,s,b)):∃i,P.info? e=some i∧i.zero=z∧i.size=s∧i.bytes=b:=by
 obtain⟨i,hi,he⟩:=gO h;simp only[Prod.mk.injEq]at he;exact⟨i,hi,he.1,he.2.1,he.2.2⟩
theorem zmG{o:Oper}{a:Act}{K:Act→World→Prop}{Q:Exit→Act→World→Prop}{w:World}(sl x:Operand)
  (ho:o.op=.call { callee:=.builtin .append,args:= #[sl,x],argTypes:= #[R.t,R.t] })
  {base:Nat} {v c:Value} {l m:List α} (hown:OwnR R base w v l) (hm:IsR R (fun _=>True) w m c) (hm0:0<m.length) (hs:a.eval sl=v) (hx:a.eval x=c) (hlen:l.length+m.length≤1000000) (hb:base≤w.heap.size)
  (h:∀L g cap w',Hid (L=l++m)→Hid (OwnR R base w' (.slice (some ⟨g,0,none⟩) L.length cap) L)→w.grownBy w' v.ownBlock→Hid (v.ownBlock=some g∨g=w.heap.size)→K (a.put o.dst (.slice (some ⟨g,0,none⟩) L.length cap)) w'):Oper.wp Tryz.prog o a w K Q:=by
 obtain⟨i0,hi,hz0,hz1,hz2⟩:=zfB R.info;obtain⟨b,off,cap,p,rfl,hcap,hmax,hp,hn,hc⟩:=hm;obtain⟨hpe,_⟩:=hp (by rintro rfl;simp at hm0);subst hpe;have hgo:∀g cap' w',w'.ownsRow base R.e R.size (.slice (some ⟨g,0,none⟩) (l.length+m.length) cap') (l.length+m.length) (l.flatMap R.cells++m.flatMap R.cells)→w.grownBy w' v.ownBlock→(v.ownBlock=some g∨g=w.heap.size)→g<w'.heap.size→K (a.put o.dst (.slice (some ⟨g,0,none⟩) (l.length+m.length) cap')) w':=by
  intro g cap' w' h1 h2 h3 _;have e:l.length+m.length=(l++m).length:=by simp
  rw[e]at h1 ⊢;refine h (l++m) g cap' w' rfl ?_ h2 h3;show OwnR R base w' _ _;unfold OwnR;simpa using h1
 refine wp_append_lies w sl x R.t ho base R.e i0 _ R.size R.bytes R.und hi hz0 hz1 hz2 R.zlen R.pos v l.length _ hs hown ⟨b,off,none⟩ m.length cap (m.flatMap R.cells) hx (z8e m) ?_ ?_ hm0 (by unfold maxLen;omega) ?_ hb w.heap.size rfl hgo
 ·intro j u hj;have hj':j<m.length*R.size:=by rw[←z8e];exact(gJ hj).1
  have hpos:=R.pos;have hdm:j / R.size*R.size+j%R.size=j:=by rw[Nat.mul_comm];exact Nat.div_add_mod j R.size
  have hd:j / R.size<m.length:=Nat.div_lt_of_lt_mul (by rw[Nat.mul_comm];exact hj');obtain⟨f,hf⟩:∃f,m[j / R.size]?=some f:=⟨_,gE hd⟩
  have hg:=z8d m (j / R.size) f hf (j%R.size) (Nat.mod_lt _ hpos);rw[hdm,hj]at hg;have:=hc _ f hf _ u hg.symm;rw[Addr.add_lit,show off+j=off+j / R.size*R.size+j%R.size by rw[Nat.add_assoc,hdm]];exact this
 ·intro u hu;obtain⟨f,_,hu⟩:=List.mem_flatMap.1 hu;exact R.one f u hu
 ·have:=R.few;have h1:(l.length+m.length)*R.bytes≤1000000*1000:=Nat.mul_le_mul hlen this;have h2:(1000000:Nat)*1000≤140737488355328:=by decide
  exact Nat.le_trans h1 h2
theorem zfk{ops:Array Oper}{zy:List Oper}{o:Oper}{a:Act}{Q:Exit→Act→World→Prop}{w:World}(hgd:o.guard=none)(sl x:Operand)
  (ho:o.op=.call { callee:=.builtin .append,args:= #[sl,x],argTypes:= #[R.t,R.t] })
  {base:Nat} {v c:Value} {l m:List α} (hown:OwnR R base w v l) (hm:IsR R (fun _=>True) w m c) (hm0:0<m.length) (hs:a.eval sl=v) (hx:a.eval x=c) (hlen:l.length+m.length≤1000000) (hb:base≤w.heap.size)
  (h:∀L g cap w',Hid (L=l++m)→Hid (OwnR R base w' (.slice (some ⟨g,0,none⟩) L.length cap) L)→w.grownBy w' v.ownBlock→Hid (v.ownBlock=some g∨g=w.heap.size)→wpList Tryz.prog ops Q zy (a.put o.dst (.slice (some ⟨g,0,none⟩) L.length cap)) w'):wpList Tryz.prog ops Q (o::zy) a w:=
 wpList_plain hgd fun _ hK=>zmG sl x ho hown hm hm0 hs hx hlen hb fun L g cap w' h1 h2 h3 h4=>hK _ _ (h L g cap w' h1 h2 h3 h4)
theorem znH{w:World}{b t:Nat}(x:α){cs:Array Value}(h:w.heap[b]?=some (.cells cs t (0,0)))(hcs:cs.toList=R.cells x):IsR R (fun _=>True) w [x] (.slice (some ⟨b,0,none⟩) 1 1):=by
 refine⟨b,0,1,_,rfl,by simp,by decide,fun _=>⟨rfl,trivial⟩,(fun h=>by cases h),fun i y hy j u hu=> ?_⟩;cases i with
 |zero=>
  simp at hy;subst hy;rw[←hcs]at hu;simp[World.cell?,h];simpa using hu
 |succ i=>simp at hy
end
structure VC where
 v:V
 p:Option Addr
 cap:Nat
def VC.c(y:VC):Value:=.slice y.p y.v.l.length y.cap
def z6M(y:VC):List Value:=[.int .i64 y.v.k,.int .i64 y.v.n,.string (str y.v.s),.slice y.p y.v.l.length y.cap]
theorem znG:(Tryz.prog.info? 37).map (fun i=>(i.zero,i.size,i.bytes))=some (some (.agg #[.int .i64 0,.int .i64 0,.string ⟨#[]⟩,.slice none 0 0]),4,56):=by kernel_rfl
def VR:RowT VC where
 e:=37
 t:=31
 size:=4
 bytes:=56
 zero:=.agg #[.int .i64 0,.int .i64 0,.string ⟨#[]⟩,.slice none 0 0]
 cells:=z6M
 len:=fun _=>rfl
 one:=by
  intro x u hu;simp[z6M]at hu;rcases hu with rfl|rfl|rfl|rfl<;>rfl
 pos:=by decide
 few:=by decide
 und:=Tryz.underlying31
 info:=znG
 zlen:=rfl
end Go.Proofs.YtcpaleaajdilgaaGreatDoor
end
