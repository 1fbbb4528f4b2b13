/- Merged texts: WrapB Open0 RawD OpenR Pk4 RawHD OpenH Pv1 Pk2 Pk5 Ln1 Ln2 Ln3 S31 Pk6. No statement of the program is proved here. -/
import Derived.Test.YtpmlapgbmgbilaaGreatDoorR28
import Derived.Test.YtpmlapgbmgbilaaGreatDoorCards
import Derived.Test.YtpmlapgbmgbilaaGreatDoorTie
import Derived.Lib.LaidIn
import Derived.Lib.LaidU8T
import Derived.Deep.DeepHandedRow
import Derived.Deep.DeepWitnessRowRef
import Derived.ProofKit
import Derived.SizedLaws
import Derived.OpenShut
import Derived.Stop.LaidTwo
import Derived.Deep.Slices
import Derived.Deep.Fields
import Derived.ChangeSame
import Derived.SevenTiedAt
import Derived.PinnedBridge
import Derived.Shelf.Vars
set_option linter.unusedSimpArgs false
set_option linter.unusedVariables false
set_option maxRecDepth 100000
set_option maxHeartbeats 8000000
section
namespace Go.Proofs.YtpmlapgbmgbilaaGreatDoor
open Go.ChangeShapes Go.WideShapes Go.ChangeAt Go.RowKit Go.Lib Go.Mor Go.Deep
open Go.ChangeMaps (open_string shut_string)
theorem own:ownKnob Tryz.prog.godebug=none:=by kernel_rfl
theorem zr1:Rows.laid_unicode_utf8_acceptRanges=Lib.acceptData:=by kernel_rfl
theorem zsS{W:World}(h:W.ShapedOpen Tryz.prog):10≤W.heap.size:=by
 obtain⟨o,o0,h1,_⟩:=h.2 10 (of_decide_eq_true (by kernel_rfl)) (of_decide_eq_true (by kernel_rfl));exact Nat.le_of_lt (gA h1).1
theorem znH{W:World}{L:List (String×DataW Unit)}(hL:laidMet Tryz.prog L W)(h1:("unicode/utf8.first",Rows.laid_unicode_utf8_first)∈L)(h2:("unicode/utf8.acceptRanges",Rows.laid_unicode_utf8_acceptRanges)∈L):GlobU W:=
 ⟨utf8Tabs_of_readsT (U8Types.of196 Tryz.laysValid) ⟨by kernel_rfl,by kernel_rfl,by kernel_rfl,by kernel_rfl,by kernel_rfl,by kernel_rfl,by kernel_rfl⟩ (by rw[←Pinned.utf8First_eq];exact Lib.laidMet.reads hL h1) (by rw[←zr1];exact Lib.laidMet.reads hL h2)⟩
def zfx:DataW Unit→List Value
 | .agg l=>l.map fun x=>match x with| .lit y=>y.value|_=>undef
 |_=>[]
def zco:DataW Unit→zB
 | .iface _ (.ptr (.agg [.lit (.string l)]))=>l
 |_=>[]
noncomputable def z6v(os:Os):World:=
 let N:=(World.settled Tryz.prog os).heap.size
 let w0:=World.holding Tryz.prog os ⟨#[.cells #[.string ⟨(zco Rows.laid_moraine_wire_errEnd).toArray⟩] 336,.cells #[.string ⟨(zco Rows.laid_moraine_wire_errForm).toArray⟩] 336,.cells #[.string ⟨(zco Rows.laid_strconv_ErrRange).toArray⟩] 336,.cells #[.string ⟨(zco Rows.laid_strconv_ErrSyntax).toArray⟩] 336],#[],[]⟩
 let put (h:Array Obj) (g:Nat) (cs:Array Value):Array Obj:=h.modify g fun
  | .cells _ t frozen=> .cells cs t frozen
  |o=>o
 let h:=w0.heap
 let h:=put h 8 (zfx Rows.laid_math_bits_deBruijn32tab).toArray
 let h:=put h 9 (zfx Rows.laid_math_bits_deBruijn64tab).toArray
 let h:=put h 5 (zfx Rows.laid_internal_strconv_uint64pow10).toArray
 let h:=put h 3 ((List.range 16).flatMap fun i=>[Value.int .u8 (Lib.accLo i),Value.int .u8 (Lib.accHi i)]).toArray
 let h:=put h 7 #[.iface 334 (.pointer (some ⟨N+2,0,none⟩))]
 let h:=put h 6 #[.iface 334 (.pointer (some ⟨N+3,0,none⟩))]
 let h:=put h 2 (Lib.firstTab.map fun z=>Value.int .u8 z).toArray
 let h:=put h 1 #[.iface 334 (.pointer (some ⟨N,0,none⟩))]
 let h:=put h 0 #[.iface 334 (.pointer (some ⟨N+1,0,none⟩))]
 { w0 with heap:=h }
noncomputable abbrev N0:Nat:=(World.settled Tryz.prog default).heap.size
theorem zq4:laidOutB Tryz.prog=true:=by kernel_rfl
section
variable{H:Type}{enc:TypeId×Value→H}
theorem zej{W W':World}(hb:Below W.heap.size W W'){sp:Nat→Bool}:∀{ts:List TypeId} {vs:List Value} {ds:List (DataW H)} {ps:List MemPlace},
  (ts.all fun t=>Tryz.prog.readableRec t&&decide (t<Tryz.prog.types.size))=true→DataW.TrodAll enc Tryz.prog W 0 (fun _=>true) true ts vs ds ps→(∀x∈ps,x.block<W.heap.size)→(∀x∈ps,sp x.block=true)→
  DataW.TrodAll enc Tryz.prog W' 0 sp true ts vs ds ps:=by
 intro ts
 induction ts with
 |nil=>
  intro vs ds ps _ h _ _;obtain⟨rfl,rfl,rfl⟩:=trodAll_nil h;exact trodAll_mk0
 |cons t ts ih=>
  intro vs ds ps hr h hlt hsp;obtain⟨v,vs',d,ds',p,q,rfl,rfl,rfl,h1,h2⟩:=trodAll_cons h;simp only[List.all_cons,Bool.and_eq_true,decide_eq_true_iff]at hr;refine trodAll_cons_mk (WideElems.Trod_stays zq4 hr.1.1 hr.1.2 h1 (fun x hx=>hb.same (hlt x (by simp[hx]))) (fun x hx=>hsp x (by simp[hx]))) (ih hr.2 h2 (fun x hx=>hlt x (by simp[hx])) (fun x hx=>hsp x (by simp[hx])))
theorem ze9{P:Program}{f:Func}{s:ChangeSpec}{z2A fresh handsOn again:Bool}{W W':World}{args:Array Value}{v:Value}{ds gs:List (DataW H)}{before pa pv:List MemPlace}
  (hW:DataW.Whole enc P f.params.toList s.vars z2A W args.toList ds gs before)
  (hres:∀(b:Nat) (sp:Nat→Bool) (hd:Bool),DataW.TrodAll enc P W' b sp hd f.resultTypes.toList (v.resultList f.resultTypes.size) (s.fn H (ds++gs)).results [])
  (hargs:∀sp:Nat→Bool,(∀p∈before,sp p.block=true)→DataW.TrodAll enc P W' 0 sp true f.params.toList args.toList (s.fn H (ds++gs)).args pa)
  (hvars:∀sp:Nat→Bool,(∀p∈before,sp p.block=true)→DataW.TrodVars enc P W' sp s.vars (s.fn H (ds++gs)).vars pv)
  (hps:before=pa++pv) (hb:Below W.heap.size W W')
  (hok:∀(j:Nat) (t:TypeId) (r:Value),f.resultTypes[j]?=some t→(v.resultList f.resultTypes.size)[j]?=some r→Value.okWide P W' .any 0 t r):
  s.post enc P f z2A fresh handsOn again W args v W':=by
 have hlt:∀p∈before,p.block<W.heap.size:=fun p hp=>hW.lt p hp;have hold:∀p∈before,(fun b=>decide (b<W.heap.size)) p.block=true:=fun p hp=>by simpa using hlt p hp
 refine⟨ds,gs,before,[],pa,pv,hW,hres _ _ _,hargs _ hold,hvars _ hold,World.keptBut_mono (fun p hp=>⟨hp,?_⟩) (hb.frame (·∈before)),fun _=> ?_⟩
 ·rw[hps,List.mem_append]at hp;exact Or.inr hp
 ·obtain⟨_,_,_,_,_,hz,hn⟩:=hW;refine⟨hok,_,_,([]++pa)++pv,⟨[]++pa,pv,trodAll_append (hargs _ (fun _ _=>rfl)) (hres _ _ _),hvars _ (fun _ _=>rfl),rfl,?_,?_⟩,?_⟩
  ·intro b off hp;have hin:MemPlace.cell b off∈before:=by rw[hps];simpa using hp
   rw[hb.frozen (hlt _ hin)];exact hz b off hin
  ·intro ha;have:=hn ha;rw[hps]at this;simpa using this
  ·intro p hp _;rw[hps];simpa using hp
theorem zsX(f:FuncId)(fn:Func)(sp:ChangeSpec){W W':World}{args:Array Value}{ds gs:List (DataW H)}{before:List MemPlace}{fresh handsOn again:Bool}
  (hv:sp.vars=[]) (hr:(fn.params.toList.all fun t=>Tryz.prog.readableRec t&&decide (t<Tryz.prog.types.size))=true) (hres:fn.resultTypes= #[4])
  (hfn:sp.fn H (ds++[])={ results:=[.lit (.bool true)],args:=ds })
  (hW:DataW.Whole enc Tryz.prog fn.params.toList sp.vars false W args.toList ds gs before) (hb:Below W.heap.size W W'):
  sp.post enc Tryz.prog fn false fresh handsOn again W args (.bool true) W':=by
 have hW':=hW;obtain⟨p,q,hA,hV,rfl,_,_⟩:=hW;rw[hv]at hV;obtain⟨rfl,rfl⟩:=trodVars_none hV;have hlt:∀x∈p,x.block<W.heap.size:=fun x hx=>hW'.lt x (by simp[hx]);refine ze9 (pa:=p) (pv:=[]) hW' (fun b sp' hd=> ?_) (fun sp' hsp=> ?_) (fun sp' hsp=> ?_) rfl hb ?_
 ·rw[hfn,hres];exact trodAll_mk1 (shut_bool Tryz.underlying4 _)
 ·rw[hfn];exact zej hb hr hA hlt (fun x hx=>hsp x (by simp[hx]))
 ·rw[hfn,hv];rfl
 ·exact ok_one hres rfl (okWide_bool_mk Tryz.underlying4 _)
end
end Go.Proofs.YtpmlapgbmgbilaaGreatDoor
end

section
namespace Go.Proofs.YtpmlapgbmgbilaaGreatDoor
open Go.ChangeShapes Go.WideShapes Go.ChangeAt Go.RowKit Go.Lib Go.Mor Go.Deep Go.Joins
open Go.Sh (RelT RelV TV PV SCalls Env MSim z0q zA z2j Low)
open Go.ChangeMaps (open_string shut_string)
def z2N(w:World):Env:=⟨fun k _=>k<w.heap.size,fun _=>0,fun _=>none,fun _=>0⟩
theorem z7R(d:Nat):z0q [] d=none:=by simp[z0q]
theorem zb0(d:Nat):zA [] d=none:=by simp[zA]
theorem zgL{P:Program}{f:Nat}{xs:List TV}{vs:List Value}{w:World}{g:Go.Sh.Glob}{b:Value}(h:SCalls P g f xs [] (.pv (.v b)) [])(hG:g.G w)(hl:xs.length=vs.length)
  (hr:∀(j:Nat) x v,xs[j]?=some x→vs[j]?=some v→RelT w (z2N w) (zA []) x v):Calls P f vs.toArray w fun e w'=>e=.returned b∧Below w.heap.size w w':=by
 have hX:∀d k,¬z2j (z2N w) [] d k:=by
  rintro d k (⟨cs,h1,_⟩|⟨q,cap,h1,_⟩)
  ·rw[z7R]at h1;cases h1
  ·rw[zb0]at h1;cases h1
 refine(h.2 w (z2N w) vs hG ?_ (fun d k hd=>absurd hd (hX d k)) hl hr).mono ?_
 ·refine⟨fun d cs hd=> ?_,fun d e W n hd=> ?_,fun d d' cs cs' hd=> ?_,fun d d' cs q k cap hd=> ?_,fun d d' q q' k cap cap' hd=> ?_,fun k o hk=>hk,⟨rfl,rfl,rfl,Nat.le_refl _,fun _ _ _=>rfl⟩,fun k o u hk hu=>⟨hk,hu⟩,fun k o hk=> .inl hk,?_⟩
  ·rw[z7R]at hd;cases hd
  ·rw[zb0]at hd;cases hd
  ·rw[z7R]at hd;cases hd
  ·rw[z7R]at hd;cases hd
  ·rw[zb0]at hd;cases hd
  ·have hold:∀d,¬(Go.Sh.start w (z2N w) [] 0).old d:=fun d h=>by have h1:1000≤d∧d<1000+0:=h;omega
   constructor<;>(intros;first|(exfalso;apply hold;assumption)|rfl)
 ·rintro e w' ⟨v,E',rfl,hm,hv,_⟩;obtain rfl:=Go.Sh.val_rel (y:=b) hv rfl;exact⟨rfl,hm.low.os,hm.low.tape,hm.low.output,hm.low.size,fun k hk=>hm.low.block k hk (fun d=>hX d k)⟩
end Go.Proofs.YtpmlapgbmgbilaaGreatDoor
end

section
namespace Go.Proofs.YtpmlapgbmgbilaaGreatDoor
open Go Go.RowKit Go.Mor Go.Sh
def z84(r:RawF):List PV:=[.v (.int .i64 r.n),.v (.int .i64 r.k),.v (.int .i64 r.o),.v (.bool r.ix)]
def rfR(l:List RawF):List (List PV):=l.map z84
def zfZ(x:Raw):TV:=.agg [.pv (.v (.int .i64 x.n)),.pv (.sl 4 (rfR x.fs))]
structure RawOk(x:Raw):Prop where
 n:I64 x.n
 fs:∀r∈x.fs,I64 r.n∧I64 r.k∧I64 r.o
 len:x.fs.length≤9223372036854775807
theorem zjQ(l:List RawF)(k:Nat):(rfR l)[k]?=(l[k]?).map z84:=by unfold rfR;rw[List.getElem?_map]
theorem zc6(l:List RawF):(rfR l).length=l.length:=by unfold rfR;rw[List.length_map]
theorem zbz(l:List RawF)(i:Nat)(r:RawF)(h:l[i]?=some r):(l.take (i+1)).foldl z1Q []=z1Q ((l.take i).foldl z1Q []) r:=by
 rw[List.take_add_one,h];simp only[Option.toList_some,List.foldl_append,List.foldl_cons,List.foldl_nil]
theorem zkD(l:List RawF)(i:Nat):((l.take i).foldl z1Q []).length≤i:=by
 induction i with
 |zero=>simp
 |succ i ih=>
  cases h:l[i]? with
  |none=>
   have h1:l.take (i+1)=l.take i:=by rw[List.take_add_one,h];simp
   rw[h1];omega
  |some r=>
   rw[zbz l i r h];generalize(l.take i).foldl z1Q []=acc at ih ⊢;unfold z1Q;split
   ·rw[List.length_append,List.length_singleton];omega
   ·omega
theorem zrP{i:Nat}(h:i<6):([[PV.v (.string ⟨#[97]⟩)],[.v (.string ⟨#[98,50]⟩)],[.v (.string ⟨#[110,97,109,101]⟩)],[.v (.string ⟨#[110,101,120,116,95,111,110,101]⟩)],[.v (.string ⟨#[107,105,100,115]⟩)],[.v (.string ⟨#[120]⟩)]]:List (List PV))[i]?=some [.v (.string (str (nmF (i:Int))))]:=by
 have:i=0∨i=1∨i=2∨i=3∨i=4∨i=5:=by omega
 rcases this with rfl|rfl|rfl|rfl|rfl|rfl<;>rfl
theorem zrO{i:Nat}(h:i<6):([[PV.v (.string ⟨#[110,111,100,101]⟩)],[.v (.string ⟨#[105,116,101,109]⟩)],[.v (.string ⟨#[117,115,101,114]⟩)],[.v (.string ⟨#[112,97,103,101,95,49]⟩)],[.v (.string ⟨#[108,101,97,102]⟩)],[.v (.string ⟨#[113]⟩)]]:List (List PV))[i]?=some [.v (.string (str (nmC (i:Int))))]:=by
 have:i=0∨i=1∨i=2∨i=3∨i=4∨i=5:=by omega
 rcases this with rfl|rfl|rfl|rfl|rfl|rfl<;>rfl
end Go.Proofs.YtpmlapgbmgbilaaGreatDoor
end

section
namespace Go.Proofs.YtpmlapgbmgbilaaGreatDoor.OpR
open Go.ChangeShapes Go.WideShapes Go.ChangeAt Go.RowKit Go.Lib Go.Mor Go.Deep Go.Joins
open Go.ChangeMaps (open_string shut_string)
theorem zhO{α:Type}{n:Nat}{Q:Nat→α→Prop}(h:∀i,i<n→∃r,Q i r):∃l:List α,l.length=n∧∀(i:Nat) r,l[i]?=some r→Q i r:=by
 induction n with
 |zero=>exact⟨[],rfl,by simp⟩
 |succ n ih=>
  obtain⟨l,hl,hq⟩:=ih fun i hi=>h i (by omega);obtain⟨r,hr⟩:=h n (by omega);refine⟨l++[r],by simp[hl],fun i x hx=> ?_⟩;rw[List.getElem?_append]at hx;split at hx
  ·exact hq i x hx
  ·rw[List.getElem?_singleton]at hx;split at hx
   ·injection hx with hx;subst hx
    obtain rfl:i=n:=by omega
    exact hr
   ·cases hx
section
variable{H:Type}{enc:TypeId×Value→H}{P:Program}{w:World}{base:Nat}{spare:Nat→Bool}{held:Bool}
theorem zgZ{t e:TypeId}{fs:Array Field}{fuel:Nat}{cs:List Value}{x:DataW H×List MemPlace}(ht:P.underlying t=some (.slice e))(he:P.underlying e=some (.struct fs))
  (hone:oneCellFields P fs=true) (hC:P.cellsOf e=fs.size) (h:DataW.trod enc P w base spare held fuel t cs=some x):
  (cs=[.slice none 0 0])∨
  ∃(a:Addr) (len cap:Nat),cs=[.slice (some a) len cap]∧len≤cap∧cap≤maxLen∧
   ∀i,i<len→∃n,∀(j:Nat) (f:Field),fs[j]?=some f→∃(v:Value) (y:DataW H×List MemPlace),w.cell? (a.add (i*fs.size+j))=some v∧DataW.trod enc P w base spare held n f.type [v]=some y:=by
 rcases open_slice ht h with h0|⟨a,len,cap,m,n,D,Pl,hcs,hb,hl,hm,hmm,hx,hi⟩
 ·exact .inl h0.1
 ·refine .inr ⟨a,len,cap,hcs,hl,hm,fun i him=> ?_⟩;obtain⟨cs',hc,ht'⟩:=hi i (by rw[hmm];split<;>omega);rw[hC]at hc;obtain⟨ys,n',hn',hy,hlen,hyl,hf⟩:=DataW.trod_struct he ht';obtain⟨_,hcl,hat⟩:=World.cells?_some hc;refine⟨n',fun j f hj=> ?_⟩;obtain⟨ho,hk⟩:=hone_of hone j f hj;have hjl:j<fs.size:=(gA hj).1;have hcell:=hat j hjl;have hv:cs'[j]?=some (cs'[j]'(by omega)):=gE (by omega);have h1:=hf j f hj;rw[ho,hk]at h1;have hone':(cs'.drop j).take 1=[cs'[j]'(by omega)]:=by
   rw[List.drop_eq_getElem_cons (by omega)];rfl
  rw[hone']at h1;have hys:ys[j]?=some (ys[j]'(by omega)):=gE (by omega);refine⟨_,_,?_,h1.trans hys⟩;rw[←Go.Deep.add_add,hcell,hv]
end
theorem z7s{a:Addr}{w:World}{k:Nat}{v:Value}(h0:w.cell? a=some v):a=⟨a.block,a.off,none⟩∧a.add k=⟨a.block,a.off+k,none⟩:=by
 have:=World.cell?_spot h0;obtain⟨b,off,spot⟩:=a;simp at this;subst this;exact⟨rfl,Go.WideShapes.add_plain ..⟩
end Go.Proofs.YtpmlapgbmgbilaaGreatDoor.OpR
namespace Go.Proofs.YtpmlapgbmgbilaaGreatDoor
open Go.ChangeShapes Go.WideShapes Go.ChangeAt Go.RowKit Go.Lib Go.Mor Go.Deep Go.Joins
open Go.Sh (RelT RelV TV PV SCalls Env MSim z0q zA z2j Low)
open Go.ChangeMaps (open_string shut_string)
open Go.Proofs.YtpmlapgbmgbilaaGreatDoor.OpR
section
variable{H:Type}{enc:TypeId×Value→H}
theorem zo7{W:World}{base:Nat}{spare:Nat→Bool}{held:Bool}{fuel:Nat}{c:Value}{y:DataW H×List MemPlace}(h:DataW.trod enc Tryz.prog W base spare held fuel 23 [c]=some y):
  ∃l:List RawF,(∀r∈l,I64 r.n∧I64 r.k∧I64 r.o)∧l.length≤9223372036854775807∧RelV W (z2N W).K (.sl 4 (rfR l)) c:=by
 rcases zgZ Tryz.underlying23 Tryz.underlying84 (by kernel_rfl) (by kernel_rfl) h with h0|⟨a,len,cap,hcs,hl,hm,hi⟩
 ·obtain rfl:c=.slice none 0 0:=by simpa using h0
  exact⟨[],by simp,by simp,.sl 4 [] 0 0 0 none (fun _ _=>undef) (by simp) (by simp) (by simp) (by simp) (by simp) (by simp)⟩
 ·obtain rfl:c=.slice (some a) len cap:=by simpa using hcs
  have key:∀i,i<len→∃r:RawF,(I64 r.n∧I64 r.k∧I64 r.o)∧a=⟨a.block,a.off,none⟩∧W.cell? ⟨a.block,a.off+i*4,none⟩=some (.int .i64 r.n)∧W.cell? ⟨a.block,a.off+i*4+1,none⟩=some (.int .i64 r.k)
    ∧W.cell? ⟨a.block,a.off+i*4+2,none⟩=some (.int .i64 r.o)∧W.cell? ⟨a.block,a.off+i*4+3,none⟩=some (.bool r.ix):=by
   intro i hlt;obtain⟨n0,hf0⟩:=hi 0 (by omega);obtain⟨v,y,hc0,_⟩:=hf0 0 _ rfl;have ha:a=⟨a.block,a.off,none⟩:=(z7s (k:=0) (by simpa [Addr.add]using hc0)).1;have hadd:∀k,a.add k=⟨a.block,a.off+k,none⟩:=fun k=>(z7s (k:=k) (by simpa [Addr.add]using hc0)).2;obtain⟨n,hf⟩:=hi i hlt;obtain⟨v0,y0,c0,t0⟩:=hf 0 _ rfl;obtain⟨v1,y1,c1,t1⟩:=hf 1 _ rfl;obtain⟨v2,y2,c2,t2⟩:=hf 2 _ rfl;obtain⟨v3,y3,c3,t3⟩:=hf 3 _ rfl;obtain⟨z0,e0,_,w0⟩:=DataW.trod_int Tryz.underlying3 t0;obtain⟨z1,e1,_,w1⟩:=DataW.trod_int Tryz.underlying3 t1;obtain⟨z2,e2,_,w2⟩:=DataW.trod_int Tryz.underlying3 t2;obtain⟨z3,e3,_⟩:=DataW.trod_bool Tryz.underlying4 t3;simp at e0 e1 e2 e3;subst e0 e1 e2 e3;rw[hadd]at c0 c1 c2 c3;exact⟨⟨z0,z1,z2,z3⟩,⟨bounds_i64 w0,bounds_i64 w1,bounds_i64 w2⟩,ha,c0,c1,c2,c3⟩
  obtain⟨l,hlen,hq⟩:=zhO key;refine⟨l,fun r hr=> ?_,by unfold maxLen at hm;omega,?_⟩
  ·obtain⟨i,hi⟩:=List.getElem?_of_mem hr;exact(hq i r hi).1
  ·have hL:(rfR l).length=len:=by rw[zc6,hlen]
   rw[←hL];have cell:∀(i j:Nat) cs q,(rfR l)[i]?=some cs→cs[j]?=some q→∃u,q=.v u∧W.cell? ⟨a.block,a.off+i*4+j,none⟩=some u∧Go.Sh.one u:=by
    intro i j cs q h1 h2;rw[zjQ,Option.map_eq_some_iff]at h1;obtain⟨r,hr,rfl⟩:=h1;obtain⟨_,_,c0,c1,c2,c3⟩:=hq i r hr
    match j with
    |0=>simp[z84]at h2;subst h2;exact⟨_,rfl,c0,rfl⟩
    |1=>simp[z84]at h2;subst h2;exact⟨_,rfl,c1,rfl⟩
    |2=>simp[z84]at h2;subst h2;exact⟨_,rfl,c2,rfl⟩
    |3=>simp[z84]at h2;subst h2;exact⟨_,rfl,c3,rfl⟩
    |j+4=>simp[z84]at h2
   refine .sl 4 (rfR l) a.block a.off cap (some a) (fun i j=>(W.cell? ⟨a.block,a.off+i*4+j,none⟩).getD undef) (fun hne=> ?_) (by omega) hm (fun cs hcs=> ?_) (fun i j cs q h1 h2=> ?_) (fun i j cs q h1 h2=> ?_)
   ·obtain⟨r,hr⟩:∃r,l[0]?=some r:=by
     cases l with
     |nil=>exact absurd rfl hne
     |cons r q=>exact⟨r,rfl⟩
    rw[(hq 0 r hr).2.1]
   ·obtain⟨r,_,rfl⟩:=List.mem_map.1 hcs;rfl
   ·obtain⟨u,_,hu,ho⟩:=cell i j cs q h1 h2;rw[hu];exact⟨z1d (a:=⟨a.block,a.off+i*4+j,none⟩) hu,rfl,ho⟩
   ·obtain⟨u,rfl,hu,ho⟩:=cell i j cs q h1 h2;rw[hu];exact .v u
end
end Go.Proofs.YtpmlapgbmgbilaaGreatDoor
end

section
namespace Go.Mor
open Go
def z7H(fs:List Fld)(n:Nat)(t:Ty):Nat→Nat→Option (zB)
 |0,_=>none
 |k+1,i=>if z0g (fs.getD ((n+i)%fs.length) z4B).t t then some (fs.getD ((n+i)%fs.length) z4B).n else z7H fs n t k (i+1)
def z3M(c:Cls)(n:Int)(t:Ty):Option (zB):=z7H c.fs (pick n 100).toNat t c.fs.length 0
def zfI(a b:zB):List (zB):=[[],[51],a,a++[32,42,32,50,32,45,32,49],[108,101,110,40]++b++[41],[105,102,40]++a++[32,62,32,50,44,32]++a++[44,32,48,32,45,32]++a++[41],[102,105,110,100,40,34,98,34,44,32]++b++[41],a++[32,47,32]++a]
def zgt(a b:zB):List (zB):=[[],[34,120,34],b,b++[32,38,32,34,45,34,32,38,32]++b,[116,101,120,116,40]++a++[41],[108,101,102,116,40]++b++[44,32,50,41],[102,114,111,109,40]++b++[44,32,51,41],[105,102,40]++a++[32,61,32,49,44,32]++b++[44,32,34,110,111,34,41]]
def z8R(c:Cls)(n:Int):zB:=(z3M c n ⟨1,0⟩).getD [55]
def z9n(c:Cls)(n:Int):zB:=(z3M c (n.tdiv 2) ⟨2,0⟩).getD [34,97,32,98,34]
def z5e(n:Int)(t:Ty)(c:Cls):zB:=
 if t.k=1 then(zfI (z8R c n) (z9n c n)).getD (pick n 8).toNat []
 else if t.k=2 then(zgt (z8R c n) (z9n c n)).getD (pick n 8).toNat []
 else match z3M c n t with
  |some s=>if 0<pick n 3 then s else []
  |none=>[]
structure RawH where
 k:Int
 f:Int
 n:Int
 m:Int
 t:Ty
 x:Int
 o:Int
def nmH(i:Int):zB:=([[110,101,119,95,49],[109,111,114,101],[122,57],[97],[110,97,109,101],[107,105,100,115]]:List (zB)).getD i.toNat []
def tyH(t:Ty):Ty:=⟨1+pick t.k 5,if pick t.k 5=4 then 1+pick t.o 4 else 0⟩
def z3u(x:RawH)(c:Cls):Chg:=
 let f:=if c.fs=[] then [] else(c.fs.getD (pick x.f c.fs.length).toNat z4B).n
 let k:=1+pick x.k 6
 let t:=tyH x.t
 let e:=z5e x.x t c
 if k=1 then⟨k,[],nmH (pick x.n 6),[],t,e,[]⟩
 else if k=3 then⟨k,f,nmH (pick x.n 6),[],ty0,[],[]⟩
 else if k=4 then⟨k,f,[],[],t,e,[]⟩
 else if k=5 then⟨k,f,nmH (pick x.n 6),nmH (pick x.m 6),t,e,z5e x.o t c⟩
 else⟨k,f,[],[],ty0,[],[]⟩
def nmL:List (zB):=[[97],[98,50],[110,97,109,101],[110,101,120,116,95,111,110,101],[107,105,100,115],[120],[110,101,119,95,49],[109,111,114,101],[122,57],[113,117,105,116,101,95,110,101,119]]
def numL:List (zB):=[55]::nmL
def txtL:List (zB):=[34,97,32,98,34]::nmL
def exA(a:zB):List (zB):=[a++[32,42,32,50,32,45,32,49],[105,102,40]++a++[32,62,32,50,44,32]++a++[44,32,48,32,45,32]++a++[41],a++[32,47,32]++a,[116,101,120,116,40]++a++[41]]
def exB(b:zB):List (zB):=[[108,101,110,40]++b++[41],[102,105,110,100,40,34,98,34,44,32]++b++[41],b++[32,38,32,34,45,34,32,38,32]++b,[108,101,102,116,40]++b++[44,32,50,41],[102,114,111,109,40]++b++[44,32,51,41]]
def exC(a b:zB):zB:=[105,102,40]++a++[32,61,32,49,44,32]++b++[44,32,34,110,111,34,41]
def exN:List (zB):=[55]::[34,97,32,98,34]::nmL++[[51],[34,120,34]]
def exL:List (zB):=exN++numL.flatMap exA++txtL.flatMap exB++numL.flatMap fun a=>txtL.map (exC a)
theorem zpd{a:zB}(h:a∈numL):a∈exL:=by
 refine List.mem_append_left _ (List.mem_append_left _ (List.mem_append_left _ ?_))
 grind [exN,numL]
theorem zsQ{b:zB}(h:b∈txtL):b∈exL:=by
 refine List.mem_append_left _ (List.mem_append_left _ (List.mem_append_left _ ?_))
 grind [exN,txtL]
theorem zpe{e:zB}(h:e∈exN):e∈exL:=List.mem_append_left _ (List.mem_append_left _ (List.mem_append_left _ h))
theorem zem{a e:zB}(h:a∈numL)(he:e∈exA a):e∈exL:=List.mem_append_left _ (List.mem_append_left _ (List.mem_append_right _ (List.mem_flatMap.2 ⟨a,h,he⟩)))
theorem zbF{b e:zB}(h:b∈txtL)(he:e∈exB b):e∈exL:=List.mem_append_left _ (List.mem_append_right _ (List.mem_flatMap.2 ⟨b,h,he⟩))
theorem zsP{a b:zB}(ha:a∈numL)(hb:b∈txtL):exC a b∈exL:=List.mem_append_right _ (List.mem_flatMap.2 ⟨a,ha,List.mem_map.2 ⟨b,hb,rfl⟩⟩)
theorem zqe{a b:zB}(ha:a∈numL)(hb:b∈txtL){e:zB}(he:e∈zfI a b):e=[]∨e∈exL:=by
 unfold zfI at he;simp only[List.mem_cons,List.not_mem_nil,or_false]at he;rcases he with rfl|rfl|rfl|rfl|rfl|rfl|rfl|rfl
 ·simp
 ·exact .inr (zpe (by decide))
 ·grind [zpd]
 ·grind [zem,exA]
 ·grind [zbF,exB]
 ·grind [zem,exA]
 ·grind [zbF,exB]
 ·grind [zem,exA]
theorem zqM{a b:zB}(ha:a∈numL)(hb:b∈txtL){e:zB}(he:e∈zgt a b):e=[]∨e∈exL:=by
 unfold zgt at he;simp only[List.mem_cons,List.not_mem_nil,or_false]at he;rcases he with rfl|rfl|rfl|rfl|rfl|rfl|rfl|rfl
 ·simp
 ·exact .inr (zpe (by decide))
 ·grind [zsQ]
 ·grind [zbF,exB]
 ·exact .inr (zem ha (by simp[exA]))
 ·exact .inr (zbF hb (by simp[exB]))
 ·exact .inr (zbF hb (by simp[exB]))
 ·exact .inr (zsP ha hb)
theorem zdu{fs:List Fld}(hne:fs≠[]){n:Nat}{t:Ty}:∀{k i:Nat} {s:zB},z7H fs n t k i=some s→∃f∈fs,f.n=s∧z0g f.t t=true
 |0,_,s,h=>by cases h
 |k+1,i,s,h=>by
  rw[z7H]at h;split at h
  ·grind [Nat.mod_lt,List.length_pos_iff,List.getElem_mem,List.getElem?_eq_getElem]
  ·exact zdu hne h
theorem zaM{c:Cls}{n:Int}{t:Ty}{s:zB}(h:z3M c n t=some s):∃f∈c.fs,f.n=s∧z0g f.t t=true:=by
 unfold z3M at h;refine zdu (fun e=> ?_) h;rw[e]at h;cases h
theorem zaX{c:Cls}(hc:∀f∈c.fs,f.n∈nmL)(n:Int):z8R c n∈numL:=by
 unfold z8R;cases h:z3M c n ⟨1,0⟩ with
 |none=>exact List.mem_cons_self ..
 |some s=>
  obtain⟨f,hf,rfl,_⟩:=zaM h;exact List.mem_cons_of_mem _ (hc f hf)
theorem zbg{c:Cls}(hc:∀f∈c.fs,f.n∈nmL)(n:Int):z9n c n∈txtL:=by
 unfold z9n;cases h:z3M c (n.tdiv 2) ⟨2,0⟩ with
 |none=>exact List.mem_cons_self ..
 |some s=>
  obtain⟨f,hf,rfl,_⟩:=zaM h;exact List.mem_cons_of_mem _ (hc f hf)
theorem zdl{c:Cls}(hc:∀f∈c.fs,f.n∈nmL)(n:Int)(t:Ty):z5e n t c=[]∨z5e n t c∈exL:=by
 unfold z5e;split
 ·grind [zfI,z8R,z9n,pick,zqe,zaX,zbg]
 split
 ·grind [zgt,z8R,z9n,pick,zqM,zaX,zbg]
 cases h:z3M c n t with
 |none=>simp
 |some s=>
  obtain⟨f,hf,rfl,_⟩:=zaM h
  dsimp only
  split
  ·exact .inr (zpd (List.mem_cons_of_mem _ (hc f hf)))
  ·simp
end Go.Mor
end

section
namespace Go.Proofs.YtpmlapgbmgbilaaGreatDoor
open Go Go.RowKit Go.Mor Go.Sh
structure RawHOk(r:RawH):Prop where
 k:I64 r.k
 f:I64 r.f
 n:I64 r.n
 m:I64 r.m
 tk:I64 r.t.k
 ot:I64 r.t.o
 x:I64 r.x
 o:I64 r.o
def zjI(x:RawH):TV:=.agg [I x.k,I x.f,I x.n,I x.m,I x.t.k,I x.t.o,I x.x,I x.o]
end Go.Proofs.YtpmlapgbmgbilaaGreatDoor
end

section
namespace Go.Proofs.YtpmlapgbmgbilaaGreatDoor
open Go.ChangeShapes Go.WideShapes Go.ChangeAt Go.RowKit Go.Lib Go.Mor Go.Deep Go.Joins
open Go.Sh (RelT RelV TV PV SCalls Env MSim z0q zA z2j Low)
open Go.ChangeMaps (open_string shut_string)
section
variable{H:Type}{enc:TypeId×Value→H}
theorem zes{α:Type}{l:List α}(h:l.length=2):∃a b,l=[a,b]:=by
 match l,h with
 |[a,b],_=>exact⟨a,b,rfl⟩
theorem zsV{α:Type}{l:List α}(h:l.length=7):∃a b c d e f g,l=[a,b,c,d,e,f,g]:=by
 match l,h with
 |[a,b,c,d,e,f,g],_=>exact⟨a,b,c,d,e,f,g,rfl⟩
theorem zsW{α:Type}{l:List α}(h:l.length=8):∃a b c d e f g i,l=[a,b,c,d,e,f,g,i]:=by
 match l,h with
 |[a,b,c,d,e,f,g,i],_=>exact⟨a,b,c,d,e,f,g,i,rfl⟩
theorem zoa{W:World}{base:Nat}{spare:Nat→Bool}{held:Bool}{n:Nat}{cs:List Value}{y:DataW H×List MemPlace}(h:DataW.trod enc Tryz.prog W base spare held n 27 cs=some y):
  ∃t:Ty,cs=[.int .i64 t.k,.int .i64 t.o]∧I64 t.k∧I64 t.o:=by
 obtain⟨xs,n',rfl,_,hlen,hxl,hf⟩:=DataW.trod_struct Tryz.underlying27 h;obtain⟨c0,c1,rfl⟩:=zes (hlen.trans (by kernel_rfl));obtain⟨x0,x1,rfl⟩:=zes hxl;have k0:Tryz.prog.cellsOf 3=1:=by kernel_rfl
 have h0:DataW.trod enc Tryz.prog W base spare held n' 3 [c0]=some x0:=by have:=hf 0 _ rfl;simpa [k0]using this
 have h1:DataW.trod enc Tryz.prog W base spare held n' 3 [c1]=some x1:=by have:=hf 1 _ rfl;simpa [k0]using this
 obtain⟨z0,e0,_,w0⟩:=DataW.trod_int Tryz.underlying3 h0;obtain⟨z1,e1,_,w1⟩:=DataW.trod_int Tryz.underlying3 h1;simp at e0 e1;subst e0 e1;exact⟨⟨z0,z1⟩,rfl,bounds_i64 w0,bounds_i64 w1⟩
end
end Go.Proofs.YtpmlapgbmgbilaaGreatDoor
end

section
namespace Go.Mor
open Go
section
open Go.RowKit
theorem GoodC.type{c:Cls}(h:GoodC c){f:Fld}(hf:f∈c.fs):zi f.t=true:=by
 have:=(h.fs f hf).1;unfold zD at this
 grind
end
structure FitC(c:Cls)(vals:List V):Prop where
 r:zd c=true
 len:vals.length=c.fs.length
 fit:∀(i:Nat) f v,c.fs[i]?=some f→vals[i]?=some v→zJ v f.t=true
theorem FitC.chk{c:Cls}{vals:List V}(h:FitC c vals):check c vals=(0,0):=zne h.r h.len h.fit
theorem zqI{c:Cls}{vals:List V}{h:Chg}(hf:FitC c vals)(hw:z04 h=true)(hm:z0H c h=true):z0h c h=(⟨c.n,z0s c h⟩,0)∧z6M c h vals=(z1F c h vals,0):=by
 have ho:okV c h=true:=by unfold okV;rw[hf.r,hw,hm];rfl
 unfold z0h z6M;rw[hf.chk,ho,hf.r];simp
theorem zfV{α:Type}{l:List α}{i:Nat}(h:i<l.length)(x:α):z14 l i [x]=l.set i x:=by
 grind [z14,List.set_eq_take_append_cons_drop,List.append_assoc]
theorem zkY(f g:Fld):z9u f g=true ↔ f=g:=by
 obtain⟨n,⟨k,o⟩,ix⟩:=f;obtain⟨n',⟨k',o'⟩,ix'⟩:=g
 grind [z9u]
theorem zbD:∀(l q:List Fld),z1T l q=true ↔ l=q
 |[],[]=>by simp[z1T]
 |[],_::_=>by simp[z1T]
 |_::_,[]=>by simp[z1T]
 |f::l,g::q=>by rw[z1T,Bool.and_eq_true,zkY,zbD l q,List.cons.injEq]
def zaQ(q:zB)(t:Ty):Chg:=⟨1,[],q,[],t,[],[]⟩
theorem z86{c:Cls}(h:zd c=true){i:Nat}{f:Fld}(hi:c.fs[i]?=some f):zb f.n=true∧fieldAt c.fs f.n=i∧zD f=true∧i<c.fs.length:=by
 have:=(z0X c).1 h;have hf:=this.2.2.1 f (gM hi);unfold zD at hf
 grind [zhF,List.getElem?_eq_some_iff]
theorem zld{l:List Fld}{s:zB}(h:fieldAt l s<0)(b:zB):z2B l s b=true:=by grind [z2B]
theorem zrQ{l:List Fld}{s:zB}(h:∀f∈l,f.n≠s):fieldAt l s<0:=(z5f _ _).2 fun f hf=>by simpa using h f hf
theorem getD_of{l:List Fld}{i:Nat}{f:Fld}(h:l[i]?=some f):l.getD i z4B=f:=by grind
theorem zkq{c:Cls}{vals:List V}(h:FitC c vals){q:zB}{t:Ty}(hq:zb q=true)(hn:∀g∈c.fs,g.n≠q)(ht:zi t=true)(hl:c.fs.length<8):
  z0h c (zaQ q t)=(⟨c.n,c.fs++[⟨q,t,false⟩]⟩,0)∧z6M c (zaQ q t) vals=(vals++[z41 t],0)∧FitC ⟨c.n,c.fs++[⟨q,t,false⟩]⟩ (vals++[z41 t]):=by
 have hr:=(z0X c).1 h.r;have hne:=zrQ hn;have:=zqI (h:=zaQ q t) h (by grind [z04,z0A,zaQ,z1C,z3z]) (by grind [z0H,zaQ,zld,zz,Tl.is]);rw[this.1,this.2];refine⟨by simp[z0s,zaQ],by simp[z1F,zaQ,zz,Tl.val],(z0X _).2 ⟨hr.1,by simp;omega,fun f hf=> ?_,zdi hr.2.2.2 hne⟩,by simp[h.len],fun i f v hi hv=> ?_⟩
 ·grind [List.mem_singleton,zD]
 ·dsimp only at hi
  have hl:=h.len;rw[List.getElem?_append]at hi hv;split at hi
  ·rw[if_pos (by omega)]at hv;exact h.fit _ _ _ hi hv
  ·grind [z6s]
theorem z4a{α:Type}{l gs:List α}{i:Nat}(h:i≤l.length):(z14 l i gs).length=l.length+gs.length-(if i<l.length then 1 else 0):=by
 unfold z14
 grind
theorem z7V{α:Type}{l gs:List α}{i:Nat}(h:i≤l.length)(j:Nat):(z14 l i gs)[j]?=if j<i then l[j]? else if j<i+gs.length then gs[j-i]? else l[j-gs.length+1]?:=by
 grind [List.length_take,z14,List.append_assoc]
structure Put(c:Cls)(h:Chg)(vals:List V)(i:Nat)(gs:List Fld)(ws:List V):Prop where
 le:i≤c.fs.length
 fs:z0s c h=z14 c.fs i gs
 vs:z1F c h vals=z14 vals i ws
 len:gs.length=ws.length
 few:(z14 c.fs i gs).length≤8
 new:∀(j:Nat) f,c.fs[j]?=some f→j≠i→∀g∈gs,f.n≠g.n
 dist:z6P gs
 right:∀g∈gs,zD g=true
 fit:∀(j:Nat) g w,gs[j]?=some g→ws[j]?=some w→zJ w g.t=true
 own:∀f,c.fs[i]?=some f→f.n=h.f
theorem Put.fits{c:Cls}{h:Chg}{vals:List V}{i:Nat}{gs:List Fld}{ws:List V}(hp:Put c h vals i gs ws)(hf:FitC c vals):FitC ⟨c.n,z0s c h⟩ (z1F c h vals):=by
 have hr:=(z0X c).1 hf.r;have hle:=hp.le;have hl:=hf.len;have hln:=hp.len;rw[hp.fs,hp.vs];refine⟨(z0X _).2 ⟨hr.1,hp.few,fun f hm=> ?_,fun a b f g ha hb he=> ?_⟩,?_,fun j f v hj hv=> ?_⟩
 ·unfold z14 at hm;simp only[List.mem_append]at hm;rcases hm with(hm|hm)|hm
  ·grind
  ·exact hp.right f hm
  ·grind
 ·dsimp only at ha hb
  rw[z7V hle]at ha hb;have hd:=hr.2.2.2;split at ha
  ·split at hb
   ·exact hd a b f g ha hb he
   ·split at hb
    ·exact absurd he (hp.new a f ha (by omega) g (gM hb))
    ·have:=hd _ _ f g ha hb he;omega
  ·split at ha
   ·split at hb
    ·exact absurd he.symm (hp.new b g hb (by omega) f (gM ha))
    ·split at hb
     ·have:=hp.dist _ _ f g ha hb he;omega
     ·exact absurd he.symm (hp.new _ g hb (by omega) f (gM ha))
   ·split at hb
    ·have:=hd _ _ f g ha hb he;omega
    ·split at hb
     ·exact absurd he (hp.new _ f ha (by omega) g (gM hb))
     ·have:=hd _ _ f g ha hb he;omega
 ·dsimp only
  grind [z4a]
 ·dsimp only at hj
  rw[z7V hle]at hj;rw[z7V (by omega)]at hv;split at hj
  ·rw[if_pos (by assumption)]at hv;exact hf.fit _ _ _ hj hv
  ·rw[if_neg (by assumption)]at hv;split at hj
   ·rw[if_pos (by omega)]at hv;exact hp.fit _ _ _ hj hv
   ·rw[if_neg (by omega),←hln]at hv;exact hf.fit _ _ _ hj hv
theorem Put.news{c:Cls}{h:Chg}{vals:List V}{i:Nat}{gs:List Fld}{ws:List V}(hp:Put c h vals i gs ws)(hf:FitC c vals){j:Nat}{f:Fld}{v:V}(hj:gs[j]?=some f)(hv:ws[j]?=some v):
  (z0s c h)[i+j]?=some f∧(z1F c h vals)[i+j]?=some v:=by
 have hle:=hp.le;have hl:=hf.len;rw[hp.fs,hp.vs]
 grind [z7V,Nat.add_sub_cancel_left]
theorem z6H{c:Cls}{vals:List V}(hf:FitC c vals){s:zB}{t:Ty}(ht:zi t=true)(h:(zz c s t).is=true):zJ ((zz c s t).val c t vals) t=true:=by
 unfold zz at h ⊢;split at h
 ·rw[if_pos (by assumption)];exact z6s t ht
 rename_i hs;rw[if_neg hs];split at h
 ·cases h
 rename_i he;rw[if_neg he];split at h
 ·rename_i hT;rw[if_pos hT];obtain⟨h0,h1⟩:=hT;generalize(rdV s).1=e at*;have hr:=(z0X c).1 hf.r;have hfa:z5Z c.fs vals:=⟨fun f hm=>by have:=hr.2.2.1 f hm;unfold zD at this;simp at this;exact this.1.2,hf.len,hf.fit⟩
  have hev:z4A c vals e=(z1V c.fs vals 8 e,0):=by
   unfold z4A;rw[h0,hf.chk];rfl
  show zJ (z4A c vals e).1 t=true;unfold z2H at h0 h1;split at h0
  ·rename_i hre;split at h0
   ·rename_i hrc;split at h0
    ·rename_i hty;have e1:(zm c.fs 8 e).1=t:=by
      generalize(zm c.fs 8 e).1=u at h1;obtain⟨k,o⟩:=u;obtain⟨k',o'⟩:=t
      grind [z0g]
     unfold z15 at hre
     grind [z5I]
    ·cases h0
   ·cases h0
  ·cases h0
 ·cases h
theorem zcJ{c:Cls}{s b:zB}(h:z2B c.fs s b=true){j:Nat}{f:Fld}(hj:c.fs[j]?=some f)(hne:f.n≠b):f.n≠s:=by
 rintro rfl;unfold z2B at h
 grind [fieldAt,z5f,List.mem_of_getElem?]
theorem has_at{c:Cls}{s:zB}(h:z0G c.fs s=true):∃f,c.fs[atV c.fs s]?=some f∧f.n=s:=by
 unfold z0G at h;simp at h;unfold atV;unfold fieldAt at*;obtain⟨k,hk⟩:=Int.eq_ofNat_of_zero_le (show 0≤z0N (fun f:Fld=>f.n==s) c.fs by omega);obtain⟨f,h1,h2⟩:=z2W (fun f:Fld=>f.n==s) c.fs k hk
 grind
theorem z7A(g:Fld):z6P [g]:=fun a b f h ha hb _=>by
 grind
theorem znn{g k:Fld}(hne:g.n≠k.n):z6P [g,k]:=fun a b f h ha hb he=>by
 match a,b with
 |0,0=>rfl
 |1,1=>rfl
 |0,1=>grind
 |1,0=>grind
 |0,b+2=>simp at hb
 |1,b+2=>simp at hb
 |a+2,_=>simp at ha
theorem zjR{n:zB}{t:Ty}(hn:zb n=true)(ht:zi t=true):zD ⟨n,t,false⟩=true:=by grind [zD]
theorem zm0{c:Cls}{h:Chg}{vals:List V}(hf:FitC c vals)(ho:okV c h=true):∃i gs ws,Put c h vals i gs ws∧
  ((h.k=1∨h.k=5)→gs[0]?=some ⟨h.n,h.t,false⟩∧ws[0]?=some ((zz c h.x h.t).val c h.t vals))∧(h.k=4→gs[0]?=some ⟨h.f,h.t,false⟩∧ws[0]?=some ((zz c h.x h.t).val c h.t vals)):=by
 have hr:=(z0X c).1 hf.r;have hlen:=hf.len;unfold okV at ho;simp at ho;obtain⟨⟨_,hw⟩,hm⟩:=ho;have hd:=hr.2.2.2;have hsame:∀{j:Nat} {f:Fld},c.fs[j]?=some f→j≠atV c.fs h.f→z0G c.fs h.f=true→f.n≠h.f:=fun {j f} hj hne hh e=>by
  obtain⟨g,hg,he⟩:=has_at hh;exact hne (hd j _ f g hj hg (by rw[e,he]))
 have hk:h.k=1∨h.k=2∨h.k=3∨h.k=4∨h.k=5∨h.k=6:=by
  grind [z04,z0A]
 unfold z04 at hw;rcases hk with k|k|k|k|k|k
 ·simp only[k,z0A,z0H,if_true,z1C,Bool.and_eq_true,decide_eq_true_eq]at hw hm;obtain⟨⟨h8,hfr⟩,hx⟩:=hm;refine⟨c.fs.length,[⟨h.n,h.t,false⟩],[(zz c h.x h.t).val c h.t vals],⟨Nat.le_refl _,?_,?_,rfl,?_,fun j f hj hne g hg=> ?_,z7A _,fun g hg=> ?_,fun j g w hj hw'=> ?_,fun f hj=> ?_⟩,fun _=>⟨rfl,rfl⟩,fun h4=>by omega⟩
  ·simp[z0s,k,z14]
  ·simp[z1F,k,z14,←hlen]
  ·rw[z4a (Nat.le_refl _),if_neg (by omega)];simp;omega
  ·obtain rfl:=List.mem_singleton.1 hg;refine zcJ hfr hj fun e=> ?_;have:=(z86 hf.r hj).1;rw[e]at this;exact absurd this (by decide)
  ·grind [List.mem_singleton,zjR]
  ·grind [z6H]
  ·grind
 ·simp only[k,z0H,show ¬(2:Int)=1 by decide,if_false,if_true]at hm;obtain⟨f,ef,en⟩:=has_at hm;have hlt:=(gJ ef).1;refine⟨atV c.fs h.f,[],[],⟨by omega,by simp[z0s,k],by simp[z1F,k],rfl,?_,fun j f hj hne g hg=>by simp at hg,fun a b f g ha=>by simp at ha,fun g hg=>by simp at hg,fun j g w hj=>by simp at hj,fun y hy=> ?_⟩,fun h4=>by omega,fun h4=>by omega⟩
  ·grind [z4a]
  ·grind
 ·simp only[k,z0A,z0H,show ¬(3:Int)=1 by decide,show ¬(3:Int)=2 by decide,show ¬(3:Int)=6 by decide,false_or,if_false,if_true,z1C,Bool.and_eq_true]at hw hm;obtain⟨hh,hfr⟩:=hm;obtain⟨f,ef,en⟩:=has_at hh;have hlt:=(gJ ef).1;obtain⟨v,ev⟩:∃v,vals[atV c.fs h.f]?=some v:=⟨_,gE (by omega)⟩
  have h3:=(z86 hf.r ef).2.2.1;refine⟨atV c.fs h.f,[⟨h.n,f.t,f.ix⟩],[v],⟨by omega,by simp[z0s,k,ef],?_,rfl,?_,fun j y hj hne g hg=> ?_,z7A _,fun g hg=> ?_,fun j g w hj hw'=> ?_,fun y hy=> ?_⟩,fun h4=>by omega,fun h4=>by omega⟩
  ·grind [zfV,atV,List.getElem?_eq_some_iff,List.set_getElem_self,z1F]
  ·grind [z4a]
  ·obtain rfl:=List.mem_singleton.1 hg;refine zcJ hfr hj fun e=> ?_;have:=(z86 hf.r hj).1;rw[e]at this;exact absurd this (by decide)
  ·grind [List.mem_singleton,zD]
  ·cases j with
   |zero=>simp at hj hw';subst hj;subst hw';exact(show zJ _ f.t=true from hf.fit _ _ _ ef ev)
   |succ j=>simp at hj
  ·grind
 ·simp only[k,z0A,z0H,show ¬(4:Int)=1 by decide,show ¬(4:Int)=2 by decide,show ¬(4:Int)=6 by decide,show ¬(4:Int)=3 by decide,false_or,if_false,if_true,z1C,Bool.and_eq_true]at hw hm;obtain⟨hh,hx⟩:=hm;obtain⟨f,ef,en⟩:=has_at hh;have hlt:=(gJ ef).1;refine⟨atV c.fs h.f,[⟨f.n,h.t,false⟩],[(zz c h.x h.t).val c h.t vals],⟨by omega,by simp[z0s,k,ef],by simp[z1F,k],rfl,?_,fun j y hj hne g hg=> ?_,z7A _,fun g hg=> ?_,fun j g w hj hw'=> ?_,fun y hy=> ?_⟩,fun h4=>by omega,fun _=>⟨by rw[en];rfl,rfl⟩⟩
  ·grind [z4a]
  ·grind
  ·grind [List.mem_singleton,zjR]
  ·grind [z6H]
  ·grind
 ·simp only[k,z0A,z0H,show ¬(5:Int)=1 by decide,show ¬(5:Int)=2 by decide,show ¬(5:Int)=6 by decide,show ¬(5:Int)=3 by decide,show ¬(5:Int)=4 by decide,false_or,if_false,if_true,z1C,Bool.and_eq_true,decide_eq_true_eq]at hw hm;obtain⟨⟨⟨⟨⟨⟨hh,h8⟩,hnm⟩,hfr⟩,hfr2⟩,hx⟩,hx2⟩:=hm;have hnm:h.n≠h.m:=by grind
  obtain⟨f,ef,en⟩:=has_at hh;have hlt:=(gJ ef).1;refine⟨atV c.fs h.f,[⟨h.n,h.t,false⟩,⟨h.m,h.t,false⟩],[(zz c h.x h.t).val c h.t vals,(zz c h.o h.t).val c h.t vals],⟨by omega,by simp[z0s,k],by simp[z1F,k],rfl,?_,fun j y hj hne g hg=> ?_,znn hnm,fun g hg=> ?_,fun j g w hj hw'=> ?_,fun y hy=> ?_⟩,fun _=>⟨rfl,rfl⟩,fun h4=>by omega⟩
  ·grind [z4a]
  ·simp at hg
   grind [zcJ]
  ·simp at hg
   grind [zjR]
  ·match j with
   |0=>grind [z6H]
   |1=>grind [z6H]
   |j+2=>simp at hj
  ·grind
 ·simp only[k,z0H,show ¬(6:Int)=1 by decide,show ¬(6:Int)=2 by decide,show ¬(6:Int)=3 by decide,show ¬(6:Int)=4 by decide,show ¬(6:Int)=5 by decide,if_false,Bool.and_eq_true,decide_eq_true_eq]at hm;obtain⟨hh,hk3⟩:=hm;obtain⟨f,ef,en⟩:=has_at hh;have hlt:=(gJ ef).1;obtain⟨v,ev⟩:∃v,vals[atV c.fs h.f]?=some v:=⟨_,gE (by omega)⟩
  have h3:=(z86 hf.r ef).2.2.1;refine⟨atV c.fs h.f,[⟨f.n,f.t, !f.ix⟩],[v],⟨by omega,by simp[z0s,k,ef],?_,rfl,?_,fun j y hj hne g hg=> ?_,z7A _,fun g hg=> ?_,fun j g w hj hw'=> ?_,fun y hy=> ?_⟩,fun h4=>by omega,fun h4=>by omega⟩
  ·grind [zfV,atV,List.getElem?_eq_some_iff,List.set_getElem_self,z1F]
  ·grind [z4a]
  ·grind
  ·grind [List.mem_singleton,zD]
  ·cases j with
   |zero=>simp at hj hw';subst hj;subst hw';exact(show zJ _ f.t=true from hf.fit _ _ _ ef ev)
   |succ j=>simp at hj
  ·grind
structure Ln where
 c:Cls
 hs:List Chg
def zez(r:Cls×Int)(h:Chg):Cls×Int:=if r.2=0 then z0h r.1 h else r
theorem z4c{r:Cls×Int}(h:Chg)(h0:r.2=0):zez r h=z0h r.1 h:=if_pos h0
theorem zia{r:Cls×Int}(h:Chg)(h0:r.2≠0):zez r h=r:=if_neg h0
def z3h(l:Ln):Cls×Int:=(l.c,if zd l.c then 0 else 40)
def zp(l:Ln)(k:Nat):Cls×Int:=(l.hs.take k).foldl zez (z3h l)
def zY(l:Ln):Bool:=Nat.ble l.hs.length 12&&(zp l l.hs.length).2==0
theorem z3r(l:Ln):zp l 0=z3h l:=by simp[zp]
theorem z3q{l:Ln}{k:Nat}{h:Chg}(hk:l.hs[k]?=some h):zp l (k+1)=zez (zp l k) h:=by
 unfold zp;rw[List.take_add_one,hk,List.foldl_append];rfl
theorem zaa{l:Ln}{k:Nat}(hk:l.hs.length≤k):zp l k=zp l l.hs.length:=by
 unfold zp;rw[List.take_of_length_le hk,List.take_length]
theorem z8e{l:Ln}{k:Nat}(hk:(zp l k).2≠0):∀{n:Nat},k≤n→zp l n=zp l k
 |0,hn=>by rw[Nat.le_zero.1 hn]
 |n+1,hn=>by
  rcases Nat.lt_or_ge n k with h1|h1
  ·rw[show n+1=k by omega]
  ·have ih:=z8e hk h1;cases hx:l.hs[n]? with
   |none=>
    have:=List.getElem?_eq_none_iff.1 hx;rw[zaa (show l.hs.length≤n+1 by omega),←zaa this,ih]
   |some x=>rw[z3q hx,ih,zia x hk]
theorem zgE{l:Ln}(h:(z3h l).2=0):zd l.c=true:=by
 unfold z3h at h;by_cases hc:zd l.c=true
 ·exact hc
 ·simp[hc]at h
theorem ze0{c:Cls}(h:zd c=true):FitC c (c.fs.map fun f=>z41 f.t):=by
 refine⟨h,List.length_map _,fun i f v hf hv=> ?_⟩;rw[List.getElem?_map,hf]at hv;cases hv;have:=((z0X c).1 h).2.2.1 f (gM hf);refine z6s _ ?_;unfold zD at this;simp only[Bool.and_eq_true]at this
 grind
theorem z3P{c:Cls}{h:Chg}(h0:(z0h c h).2=0):zd c=true∧okV c h=true∧zd (z0h c h).1=true:=by
 unfold z0h at h0;by_cases hr:zd c=true
 ·by_cases ho:okV c h=true
  ·obtain⟨i,gs,ws,hp,_⟩:=zm0 (ze0 hr) ho;refine⟨hr,ho,?_⟩;unfold z0h;simp only[hr,ho,Bool.not_true,Bool.false_eq_true,if_false];exact(hp.fits (ze0 hr)).r
  ·simp[hr,ho]at h0
 ·simp[hr]at h0
theorem z1O{l:Ln}:∀{k:Nat},(zp l k).2=0→zd (zp l k).1=true
 |0,h=>by rw[z3r]at*;exact zgE h
 |k+1,h=>by
  cases hk:l.hs[k]? with
  |none=>
   have:=List.getElem?_eq_none_iff.1 hk;rw[zaa (show l.hs.length≤k+1 by omega),←zaa this]at*;exact z1O h
  |some x=>
   rw[z3q hk]at*;by_cases h0:(zp l k).2=0
   ·rw[z4c x h0]at*;exact(z3P h).2.2
   ·rw[zia x h0]at h;exact absurd h h0
theorem z0r{l:Ln}(h:zY l=true){k:Nat}(hk:k≤l.hs.length):(zp l k).2=0:=by
 unfold zY at h;simp only[Bool.and_eq_true,beq_iff_eq]at h;by_cases h0:(zp l k).2=0
 ·exact h0
 ·have:=z8e h0 hk;rw[this]at h;exact h.2
def ch0:Chg:=⟨0,[],[],[],ty0,[],[]⟩
def z8s(l:Ln)(i:Nat)(vals:List V):Nat→List V
 |0=>vals
 |n+1=>z1F (zp l (i+n)).1 (l.hs.getD (i+n) ch0) (z8s l i vals n)
theorem zeP{l:Ln}(hr:zY l=true){k:Nat}{h:Chg}(hk:l.hs[k]?=some h){vals:List V}(hf:FitC (zp l k).1 vals):
  okV (zp l k).1 h=true∧FitC (zp l (k+1)).1 (z1F (zp l k).1 h vals)∧z6M (zp l k).1 h vals=(z1F (zp l k).1 h vals,0):=by
 have hi:=(gJ hk).1;have h0:=z0r hr (k:=k) (by omega);have h1:=z0r hr (k:=k+1) (by omega);have hn:=z3q hk;rw[z4c h h0]at hn;rw[hn]at h1;obtain⟨a1,a2,_⟩:=z3P h1;obtain⟨i,gs,ws,hp,_⟩:=zm0 hf a2;refine⟨a2,?_,?_⟩
 ·have:=hp.fits hf;rw[hn];unfold z0h;simpa [a1,a2]using this
 ·unfold z6M;rw[hf.chk,a2];rfl
theorem zeO{l:Ln}(hr:zY l=true){i:Nat}{vals:List V}(hf:FitC (zp l i).1 vals):∀n,i+n≤l.hs.length→FitC (zp l (i+n)).1 (z8s l i vals n)
 |0,_=>hf
 |n+1,h=>by
  have ih:=zeO hr hf n (by omega);have hk:l.hs[i+n]?=some l.hs[i+n]:=gE (by omega);have:=(zeP hr hk ih).2.1;unfold z8s;rw[List.getD_eq_getElem?_getD,hk];exact this
def z0E(ls:List Ln)(n:zB):Nat×Bool:=match ls.findIdx? (fun l=>l.c.n==n)with|some i=>(i,true)|none=>(0,false)
theorem zcH{ls:List Ln}{n:zB}{k:Nat}{x:Ln}(hx:ls[k]?=some x)(hp:(x.c.n==n)=true)(h:∀(i:Nat) y,i<k→ls[i]?=some y→(y.c.n==n)=false):z0E ls n=(k,true):=by
 have:ls.findIdx? (fun l=>l.c.n==n)=some k:=by
  grind [List.findIdx?_eq_some_iff_getElem]
 simp[z0E,this]
theorem z8z{ls:List Ln}{n:zB}(h:∀x∈ls,(x.c.n==n)=false):z0E ls n=(0,false):=by
 have:ls.findIdx? (fun l=>l.c.n==n)=none:=by
  grind [List.findIdx?_eq_none_iff]
 simp[z0E,this]
def zbo(ls:List Ln)(i:Nat)(l:Ln):Bool:=decide ((z0E ls l.c.n).1<i)|| !zY l
def z9s(ls:List Ln):Nat→List Ln→Int×Int
 |_,[]=>(0,0)
 |i,l::r=>if zbo ls i l then(i,80)else z9s ls (i+1) r
def z5x(ls:List Ln):Int×Int:=if 8<ls.length then(8,80)else z9s ls 0 ls
theorem zeR(ls:List Ln)(i:Nat){l:Ln}(h:ls[i]?=some l):z9s ls i (ls.drop i)=if zbo ls i l then((i:Int),80)else z9s ls (i+1) (ls.drop (i+1)):=by
 obtain⟨h1,h2⟩:=gJ h;rw[List.drop_eq_getElem_cons h1,h2];rfl
structure RightS(ls:List Ln):Prop where
 len:ls.length≤8
 line:∀l∈ls,zY l=true
 own:∀(i j:Nat) a b,ls[i]?=some a→ls[j]?=some b→a.c.n=b.c.n→i=j
theorem RightS.find{ls:List Ln}(h:RightS ls){k:Nat}{x:Ln}(hx:ls[k]?=some x):z0E ls x.c.n=(k,true):=
 zcH hx (beq_self_eq_true _) fun i y hi hy=>by
  rw[beq_eq_false_iff_ne];intro e;have:=h.own i k y x hy hx e;omega
theorem RightS.good{ls:List Ln}(h:RightS ls){k:Nat}{x:Ln}(hx:ls[k]?=some x):zbo ls k x=false:=by
 unfold zbo;rw[h.find hx,h.line x (gM hx)];simp
theorem RightS.check{ls:List Ln}(h:RightS ls):z5x ls=(0,0):=by
 unfold z5x;rw[if_neg (by have:=h.len;omega)]
 suffices ∀n i,ls.length-i=n→z9s ls i (ls.drop i)=(0,0) from by
  have:=this _ 0 rfl
  rwa [List.drop_zero]at this
 intro n
 induction n with
 |zero=>intro i hi;rw[List.drop_eq_nil_of_le (by omega)];rfl
 |succ n ih=>
  intro i hi;rw[zeR ls i (gE (show i<ls.length by omega)),h.good (gE (by omega)),if_neg (by simp)];exact ih (i+1) (by omega)
def z1E(f:Fld)(h:Chg):List Fld:=
 if h.k=1∨f.n≠h.f then [f]
 else if h.k=2 then []
 else if h.k=3 then [⟨h.n,f.t,f.ix⟩]
 else if h.k=4 then [⟨f.n,h.t,false⟩]
 else if h.k=5 then [⟨h.n,h.t,false⟩,⟨h.m,h.t,false⟩]
 else [⟨f.n,f.t, !f.ix⟩]
theorem z9z{α:Type}{F:α→List α}:∀{l:List α},(∀x∈l,F x=[x])→l.flatMap F=l
 |[],_=>rfl
 |x::l,h=>by
  rw[List.flatMap_cons,h x (List.mem_cons_self ..),z9z fun y hy=>h y (List.mem_cons_of_mem _ hy)];rfl
theorem z79{α:Type}{F:α→List α}{l:List α}{i:Nat}{x:α}(hx:l[i]?=some x)(h:∀(j:Nat) y,l[j]?=some y→j≠i→F y=[y]):l.flatMap F=z14 l i (F x):=by
 obtain⟨hi,rfl⟩:=gJ hx;have e:l=l.take i++l[i]::l.drop (i+1):=by rw[←List.drop_eq_getElem_cons hi,List.take_append_drop]
 have h1:(l.take i).flatMap F=l.take i:=z9z fun y hy=>by
  obtain⟨j,hj⟩:=List.getElem?_of_mem hy;rw[List.getElem?_take]at hj;split at hj
  ·exact h j y hj (by omega)
  ·cases hj
 have h2:(l.drop (i+1)).flatMap F=l.drop (i+1):=z9z fun y hy=>by
  obtain⟨j,hj⟩:=List.getElem?_of_mem hy;rw[List.getElem?_drop]at hj;exact h _ y hj (by omega)
 unfold z14
 conv=>lhs;rw[e]
 rw[List.flatMap_append,List.flatMap_cons,h1,h2,List.append_assoc]
theorem zdR{c:Cls}{h:Chg}(ho:okV c h=true):c.fs.flatMap (z1E · h)++(if h.k=1 then [⟨h.n,h.t,false⟩] else [])=z0s c h:=by
 unfold okV at ho;simp only[Bool.and_eq_true]at ho;obtain⟨⟨hr,hw⟩,hm⟩:=ho;have hd:=((z0X c).1 hr).2.2.2;by_cases h1:h.k=1
 ·rw[z9z (fun x _=>by unfold z1E;rw[if_pos (.inl h1)])];unfold z0s;simp[h1]
 ·have hh:z0G c.fs h.f=true:=by
   cases hv:z0G c.fs h.f
   ·simp[z0H,h1,hv]at hm
   ·rfl
  have hf:¬fieldAt c.fs h.f<0:=by
   unfold z0G at hh;simpa using hh
  obtain⟨i,hi⟩:=Int.eq_ofNat_of_zero_le (show 0≤fieldAt c.fs h.f by omega);obtain⟨x,hx,hp⟩:=z2W _ _ _ hi;have hxn:x.n=h.f:=by simpa using hp
  have hat:atV c.fs h.f=i:=by unfold atV;rw[hi];rfl
  rw[z79 hx (fun j y hy hj=>by
   unfold z1E;rw[if_pos (.inr fun e=>hj (hd j i y x hy hx (by rw[e,hxn])))]),if_neg h1,List.append_nil]
  unfold z0s z1E;simp only[hat,h1,hxn,if_false,ne_eq,not_true_eq_false,or_self,List.getD_eq_getElem?_getD,hx,Option.getD_some]
  repeat' split
  all_goals first|rfl|trace_state
end Go.Mor
end

section
namespace Go.Sh
open Go Go.RowKit
def znP:Int→Int→Bool
 | .ofNat a,.ofNat b=>Nat.beq a b
 | .negSucc a,.negSucc b=>Nat.beq a b
 |_,_=>false
theorem intB_eq:∀{a b:Int},znP a b=true→a=b
 | .ofNat a,.ofNat b,h=>congrArg Int.ofNat (Nat.eq_of_beq_eq_true h)
 | .negSucc a,.negSucc b,h=>congrArg Int.negSucc (Nat.eq_of_beq_eq_true h)
 | .ofNat _,.negSucc _,h=>by cases h
 | .negSucc _,.ofNat _,h=>by cases h
theorem zgz{cs ds:List TV}(hl:cs.length=ds.length)(h:∀(j:Nat) c d,cs[j]?=some c→ds[j]?=some d→Wk c d):Wk (.tuple cs) (.tuple ds):=by
 intro w E r v hr;cases hr with
 |tuple _ vs hl' h'=>
  refine .tuple ds vs (by omega) fun j d v hd hv=> ?_;have hj:=(gJ hd).1;have hc:=gE (show j<cs.length by omega);exact h j _ d hc hd w E r v (h' j _ v hc hv)
end Go.Sh
end

section
namespace Go.Mor
open Go Go.Sh
def zro(e:zB):Bool:=Nat.ble 1 e.length&&Nat.ble e.length 100&&match z2P 1000 e with
 |some r=>znP r.2.2 0&&znP r.2.1 0
 |none=>false
theorem zrn:exL.all zro=true:=by kernel_rfl
end Go.Mor
end
