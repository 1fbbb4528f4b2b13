/- Merged texts: WrapB Open0 RawD OpenR Pk4 RawHD OpenH Pv1 Pk2 Pk5 Ln1 Ln2. No statement of the program is proved here. -/
import Derived.Test.YtpmlapgbmgbilaaGreatDoorQ28
import Derived.Test.YtpmlapgbmgbilaaGreatDoorCards
import Derived.Test.YtpmlapgbmgbilaaGreatDoorTie
import Derived.Lib.LaidIn
import Derived.Lib.LaidU8T
import Derived.Deep.DeepHandedRow
import Derived.Deep.DeepWitnessRowRef
import Derived.ProofKit
import Derived.SizedLaws
import Derived.OpenShut
import Derived.Stop.LaidTwo
import Derived.Deep.Slices
import Derived.Deep.Fields
import Derived.ChangeSame
import Derived.SevenTiedAt
import Derived.PinnedBridge
import Derived.Shelf.Vars
set_option linter.unusedSimpArgs false
set_option linter.unusedVariables false
set_option maxRecDepth 100000
set_option maxHeartbeats 8000000
section
namespace Go.Proofs.YtpmlapgbmgbilaaGreatDoor
open Go.ChangeShapes Go.WideShapes Go.ChangeAt Go.RowKit Go.Lib Go.Mor Go.Deep
open Go.ChangeMaps (open_string shut_string)
theorem own:ownKnob Tryz.prog.godebug=none:=by kernel_rfl
theorem zoJ:Rows.laid_unicode_utf8_acceptRanges=Lib.acceptData:=by kernel_rfl
theorem zqp{W:World}(h:W.ShapedOpen Tryz.prog):10≤W.heap.size:=by
 obtain⟨o,o0,h1,_⟩:=h.2 10 (of_decide_eq_true (by kernel_rfl)) (of_decide_eq_true (by kernel_rfl));exact Nat.le_of_lt (gA h1).1
theorem zlz{W:World}{L:List (String×DataW Unit)}(hL:laidMet Tryz.prog L W)(h1:("unicode/utf8.first",Rows.laid_unicode_utf8_first)∈L)(h2:("unicode/utf8.acceptRanges",Rows.laid_unicode_utf8_acceptRanges)∈L):GlobU W:=
 ⟨utf8Tabs_of_readsT (U8Types.of196 Tryz.laysValid) ⟨by kernel_rfl,by kernel_rfl,by kernel_rfl,by kernel_rfl,by kernel_rfl,by kernel_rfl,by kernel_rfl⟩ (by rw[←Pinned.utf8First_eq];exact Lib.laidMet.reads hL h1) (by rw[←zoJ];exact Lib.laidMet.reads hL h2)⟩
def ze8:DataW Unit→List Value
 | .agg l=>l.map fun x=>match x with| .lit y=>y.value|_=>undef
 |_=>[]
def zbi:DataW Unit→zB
 | .iface _ (.ptr (.agg [.lit (.string l)]))=>l
 |_=>[]
noncomputable def z63(os:Os):World:=
 let N:=(World.settled Tryz.prog os).heap.size
 let w0:=World.holding Tryz.prog os ⟨#[.cells #[.string ⟨(zbi Rows.laid_moraine_wire_errEnd).toArray⟩] 336,.cells #[.string ⟨(zbi Rows.laid_moraine_wire_errForm).toArray⟩] 336,.cells #[.string ⟨(zbi Rows.laid_strconv_ErrRange).toArray⟩] 336,.cells #[.string ⟨(zbi Rows.laid_strconv_ErrSyntax).toArray⟩] 336],#[],[]⟩
 let put (h:Array Obj) (g:Nat) (cs:Array Value):Array Obj:=h.modify g fun
  | .cells _ t frozen=> .cells cs t frozen
  |o=>o
 let h:=w0.heap
 let h:=put h 8 (ze8 Rows.laid_math_bits_deBruijn32tab).toArray
 let h:=put h 9 (ze8 Rows.laid_math_bits_deBruijn64tab).toArray
 let h:=put h 5 (ze8 Rows.laid_internal_strconv_uint64pow10).toArray
 let h:=put h 3 ((List.range 16).flatMap fun i=>[Value.int .u8 (Lib.accLo i),Value.int .u8 (Lib.accHi i)]).toArray
 let h:=put h 7 #[.iface 334 (.pointer (some ⟨N+2,0,none⟩))]
 let h:=put h 6 #[.iface 334 (.pointer (some ⟨N+3,0,none⟩))]
 let h:=put h 2 (Lib.firstTab.map fun z=>Value.int .u8 z).toArray
 let h:=put h 1 #[.iface 334 (.pointer (some ⟨N,0,none⟩))]
 let h:=put h 0 #[.iface 334 (.pointer (some ⟨N+1,0,none⟩))]
 { w0 with heap:=h }
noncomputable abbrev N0:Nat:=(World.settled Tryz.prog default).heap.size
theorem znW:laidOutB Tryz.prog=true:=by kernel_rfl
section
variable{H:Type}{enc:TypeId×Value→H}
theorem zd1{W W':World}(hb:Below W.heap.size W W'){sp:Nat→Bool}:∀{ts:List TypeId} {vs:List Value} {ds:List (DataW H)} {ps:List MemPlace},
  (ts.all fun t=>Tryz.prog.readableRec t&&decide (t<Tryz.prog.types.size))=true→DataW.TrodAll enc Tryz.prog W 0 (fun _=>true) true ts vs ds ps→(∀x∈ps,x.block<W.heap.size)→(∀x∈ps,sp x.block=true)→
  DataW.TrodAll enc Tryz.prog W' 0 sp true ts vs ds ps:=by
 intro ts
 induction ts with
 |nil=>
  intro vs ds ps _ h _ _;obtain⟨rfl,rfl,rfl⟩:=trodAll_nil h;exact trodAll_mk0
 |cons t ts ih=>
  intro vs ds ps hr h hlt hsp;obtain⟨v,vs',d,ds',p,q,rfl,rfl,rfl,h1,h2⟩:=trodAll_cons h;simp only[List.all_cons,Bool.and_eq_true,decide_eq_true_iff]at hr;refine trodAll_cons_mk (WideElems.Trod_stays znW hr.1.1 hr.1.2 h1 (fun x hx=>hb.same (hlt x (by simp[hx]))) (fun x hx=>hsp x (by simp[hx]))) (ih hr.2 h2 (fun x hx=>hlt x (by simp[hx])) (fun x hx=>hsp x (by simp[hx])))
theorem zcR{P:Program}{f:Func}{s:ChangeSpec}{z2k fresh handsOn again:Bool}{W W':World}{args:Array Value}{v:Value}{ds gs:List (DataW H)}{before pa pv:List MemPlace}
  (hW:DataW.Whole enc P f.params.toList s.vars z2k W args.toList ds gs before)
  (hres:∀(b:Nat) (sp:Nat→Bool) (hd:Bool),DataW.TrodAll enc P W' b sp hd f.resultTypes.toList (v.resultList f.resultTypes.size) (s.fn H (ds++gs)).results [])
  (hargs:∀sp:Nat→Bool,(∀p∈before,sp p.block=true)→DataW.TrodAll enc P W' 0 sp true f.params.toList args.toList (s.fn H (ds++gs)).args pa)
  (hvars:∀sp:Nat→Bool,(∀p∈before,sp p.block=true)→DataW.TrodVars enc P W' sp s.vars (s.fn H (ds++gs)).vars pv)
  (hps:before=pa++pv) (hb:Below W.heap.size W W')
  (hok:∀(j:Nat) (t:TypeId) (r:Value),f.resultTypes[j]?=some t→(v.resultList f.resultTypes.size)[j]?=some r→Value.okWide P W' .any 0 t r):
  s.post enc P f z2k fresh handsOn again W args v W':=by
 have hlt:∀p∈before,p.block<W.heap.size:=fun p hp=>hW.lt p hp;have hold:∀p∈before,(fun b=>decide (b<W.heap.size)) p.block=true:=fun p hp=>by simpa using hlt p hp
 refine⟨ds,gs,before,[],pa,pv,hW,hres _ _ _,hargs _ hold,hvars _ hold,World.keptBut_mono (fun p hp=>⟨hp,?_⟩) (hb.frame (·∈before)),fun _=> ?_⟩
 ·rw[hps,List.mem_append]at hp;exact Or.inr hp
 ·obtain⟨_,_,_,_,_,hz,hn⟩:=hW;refine⟨hok,_,_,([]++pa)++pv,⟨[]++pa,pv,trodAll_append (hargs _ (fun _ _=>rfl)) (hres _ _ _),hvars _ (fun _ _=>rfl),rfl,?_,?_⟩,?_⟩
  ·intro b off hp;have hin:MemPlace.cell b off∈before:=by rw[hps];simpa using hp
   rw[hb.frozen (hlt _ hin)];exact hz b off hin
  ·intro ha;have:=hn ha;rw[hps]at this;simpa using this
  ·intro p hp _;rw[hps];simpa using hp
theorem zqs(f:FuncId)(fn:Func)(sp:ChangeSpec){W W':World}{args:Array Value}{ds gs:List (DataW H)}{before:List MemPlace}{fresh handsOn again:Bool}
  (hv:sp.vars=[]) (hr:(fn.params.toList.all fun t=>Tryz.prog.readableRec t&&decide (t<Tryz.prog.types.size))=true) (hres:fn.resultTypes= #[4])
  (hfn:sp.fn H (ds++[])={ results:=[.lit (.bool true)],args:=ds })
  (hW:DataW.Whole enc Tryz.prog fn.params.toList sp.vars false W args.toList ds gs before) (hb:Below W.heap.size W W'):
  sp.post enc Tryz.prog fn false fresh handsOn again W args (.bool true) W':=by
 have hW':=hW;obtain⟨p,q,hA,hV,rfl,_,_⟩:=hW;rw[hv]at hV;obtain⟨rfl,rfl⟩:=trodVars_none hV;have hlt:∀x∈p,x.block<W.heap.size:=fun x hx=>hW'.lt x (by simp[hx]);refine zcR (pa:=p) (pv:=[]) hW' (fun b sp' hd=> ?_) (fun sp' hsp=> ?_) (fun sp' hsp=> ?_) rfl hb ?_
 ·rw[hfn,hres];exact trodAll_mk1 (shut_bool Tryz.underlying4 _)
 ·rw[hfn];exact zd1 hb hr hA hlt (fun x hx=>hsp x (by simp[hx]))
 ·rw[hfn,hv];rfl
 ·exact ok_one hres rfl (okWide_bool_mk Tryz.underlying4 _)
end
end Go.Proofs.YtpmlapgbmgbilaaGreatDoor
end

section
namespace Go.Proofs.YtpmlapgbmgbilaaGreatDoor
open Go.ChangeShapes Go.WideShapes Go.ChangeAt Go.RowKit Go.Lib Go.Mor Go.Deep Go.Joins
open Go.Sh (RelT RelV TV PV SCalls Env MSim z0p zA z1Y Low)
open Go.ChangeMaps (open_string shut_string)
def z1i(w:World):Env:=⟨fun k _=>k<w.heap.size,fun _=>0,fun _=>none,fun _=>0⟩
theorem z35(d:Nat):z0p [] d=none:=by simp[z0p]
theorem z4A(d:Nat):zA [] d=none:=by simp[zA]
theorem zfk{P:Program}{f:Nat}{xs:List TV}{vs:List Value}{w:World}{g:Go.Sh.Glob}{b:Value}(h:SCalls P g f xs [] (.pv (.v b)) [])(hG:g.G w)(hl:xs.length=vs.length)
  (hr:∀(j:Nat) x v,xs[j]?=some x→vs[j]?=some v→RelT w (z1i w) (zA []) x v):Calls P f vs.toArray w fun e w'=>e=.returned b∧Below w.heap.size w w':=by
 have hX:∀d k,¬z1Y (z1i w) [] d k:=by
  rintro d k (⟨cs,h1,_⟩|⟨q,cap,h1,_⟩)
  ·rw[z35]at h1;cases h1
  ·rw[z4A]at h1;cases h1
 refine(h.2 w (z1i w) vs hG ?_ (fun d k hd=>absurd hd (hX d k)) hl hr).mono ?_
 ·refine⟨fun d cs hd=> ?_,fun d e W n hd=> ?_,fun d d' cs cs' hd=> ?_,fun d d' cs q k cap hd=> ?_,fun d d' q q' k cap cap' hd=> ?_,fun k o hk=>hk,⟨rfl,rfl,rfl,Nat.le_refl _,fun _ _ _=>rfl⟩,fun k o u hk hu=>⟨hk,hu⟩,fun k o hk=> .inl hk,?_⟩
  ·rw[z35]at hd;cases hd
  ·rw[z4A]at hd;cases hd
  ·rw[z35]at hd;cases hd
  ·rw[z35]at hd;cases hd
  ·rw[z4A]at hd;cases hd
  ·have hold:∀d,¬(Go.Sh.start w (z1i w) [] 0).old d:=fun d h=>by have h1:1000≤d∧d<1000+0:=h;omega
   constructor<;>(intros;first|(exfalso;apply hold;assumption)|rfl)
 ·rintro e w' ⟨v,E',rfl,hm,hv,_⟩;obtain rfl:=Go.Sh.val_rel (y:=b) hv rfl;exact⟨rfl,hm.low.os,hm.low.tape,hm.low.output,hm.low.size,fun k hk=>hm.low.block k hk (fun d=>hX d k)⟩
end Go.Proofs.YtpmlapgbmgbilaaGreatDoor
end

section
namespace Go.Proofs.YtpmlapgbmgbilaaGreatDoor
open Go Go.RowKit Go.Mor Go.Sh
def z7s(r:RawF):List PV:=[.v (.int .i64 r.n),.v (.int .i64 r.k),.v (.int .i64 r.o),.v (.bool r.ix)]
def rfR(l:List RawF):List (List PV):=l.map z7s
def z5K(x:Raw):TV:=.agg [.pv (.v (.int .i64 x.n)),.pv (.sl 4 (rfR x.fs))]
structure RawOk(x:Raw):Prop where
 n:I64 x.n
 fs:∀r∈x.fs,I64 r.n∧I64 r.k∧I64 r.o
 len:x.fs.length≤9223372036854775807
theorem zi4(l:List RawF)(k:Nat):(rfR l)[k]?=(l[k]?).map z7s:=by unfold rfR;rw[List.getElem?_map]
theorem zb1(l:List RawF):(rfR l).length=l.length:=by unfold rfR;rw[List.length_map]
theorem zay(l:List RawF)(i:Nat)(r:RawF)(h:l[i]?=some r):(l.take (i+1)).foldl z1J []=z1J ((l.take i).foldl z1J []) r:=by
 rw[List.take_add_one,h];simp only[Option.toList_some,List.foldl_append,List.foldl_cons,List.foldl_nil]
theorem ziS(l:List RawF)(i:Nat):((l.take i).foldl z1J []).length≤i:=by
 induction i with
 |zero=>simp
 |succ i ih=>
  cases h:l[i]? with
  |none=>
   have h1:l.take (i+1)=l.take i:=by rw[List.take_add_one,h];simp
   rw[h1];omega
  |some r=>
   rw[zay l i r h];generalize(l.take i).foldl z1J []=acc at ih ⊢;unfold z1J;split
   ·rw[List.length_append,List.length_singleton];omega
   ·omega
theorem zpo{i:Nat}(h:i<6):([[PV.v (.string ⟨#[97]⟩)],[.v (.string ⟨#[98,50]⟩)],[.v (.string ⟨#[110,97,109,101]⟩)],[.v (.string ⟨#[110,101,120,116,95,111,110,101]⟩)],[.v (.string ⟨#[107,105,100,115]⟩)],[.v (.string ⟨#[120]⟩)]]:List (List PV))[i]?=some [.v (.string (str (nmF (i:Int))))]:=by
 have:i=0∨i=1∨i=2∨i=3∨i=4∨i=5:=by omega
 rcases this with rfl|rfl|rfl|rfl|rfl|rfl<;>rfl
theorem zpn{i:Nat}(h:i<6):([[PV.v (.string ⟨#[110,111,100,101]⟩)],[.v (.string ⟨#[105,116,101,109]⟩)],[.v (.string ⟨#[117,115,101,114]⟩)],[.v (.string ⟨#[112,97,103,101,95,49]⟩)],[.v (.string ⟨#[108,101,97,102]⟩)],[.v (.string ⟨#[113]⟩)]]:List (List PV))[i]?=some [.v (.string (str (nmC (i:Int))))]:=by
 have:i=0∨i=1∨i=2∨i=3∨i=4∨i=5:=by omega
 rcases this with rfl|rfl|rfl|rfl|rfl|rfl<;>rfl
end Go.Proofs.YtpmlapgbmgbilaaGreatDoor
end

section
namespace Go.Proofs.YtpmlapgbmgbilaaGreatDoor.OpR
open Go.ChangeShapes Go.WideShapes Go.ChangeAt Go.RowKit Go.Lib Go.Mor Go.Deep Go.Joins
open Go.ChangeMaps (open_string shut_string)
theorem zgj{α:Type}{n:Nat}{Q:Nat→α→Prop}(h:∀i,i<n→∃r,Q i r):∃l:List α,l.length=n∧∀(i:Nat) r,l[i]?=some r→Q i r:=by
 induction n with
 |zero=>exact⟨[],rfl,by simp⟩
 |succ n ih=>
  obtain⟨l,hl,hq⟩:=ih fun i hi=>h i (by omega);obtain⟨r,hr⟩:=h n (by omega);refine⟨l++[r],by simp[hl],fun i x hx=> ?_⟩;rw[List.getElem?_append]at hx;split at hx
  ·exact hq i x hx
  ·rw[List.getElem?_singleton]at hx;split at hx
   ·injection hx with hx;subst hx
    obtain rfl:i=n:=by omega
    exact hr
   ·cases hx
section
variable{H:Type}{enc:TypeId×Value→H}{P:Program}{w:World}{base:Nat}{spare:Nat→Bool}{held:Bool}
theorem zfx{t e:TypeId}{fs:Array Field}{fuel:Nat}{cs:List Value}{x:DataW H×List MemPlace}(ht:P.underlying t=some (.slice e))(he:P.underlying e=some (.struct fs))
  (hone:oneCellFields P fs=true) (hC:P.cellsOf e=fs.size) (h:DataW.trod enc P w base spare held fuel t cs=some x):
  (cs=[.slice none 0 0])∨
  ∃(a:Addr) (len cap:Nat),cs=[.slice (some a) len cap]∧len≤cap∧cap≤maxLen∧
   ∀i,i<len→∃n,∀(j:Nat) (f:Field),fs[j]?=some f→∃(v:Value) (y:DataW H×List MemPlace),w.cell? (a.add (i*fs.size+j))=some v∧DataW.trod enc P w base spare held n f.type [v]=some y:=by
 rcases open_slice ht h with h0|⟨a,len,cap,m,n,D,Pl,hcs,hb,hl,hm,hmm,hx,hi⟩
 ·exact .inl h0.1
 ·refine .inr ⟨a,len,cap,hcs,hl,hm,fun i him=> ?_⟩;obtain⟨cs',hc,ht'⟩:=hi i (by rw[hmm];split<;>omega);rw[hC]at hc;obtain⟨ys,n',hn',hy,hlen,hyl,hf⟩:=DataW.trod_struct he ht';obtain⟨_,hcl,hat⟩:=World.cells?_some hc;refine⟨n',fun j f hj=> ?_⟩;obtain⟨ho,hk⟩:=hone_of hone j f hj;have hjl:j<fs.size:=(gA hj).1;have hcell:=hat j hjl;have hv:cs'[j]?=some (cs'[j]'(by omega)):=gE (by omega);have h1:=hf j f hj;rw[ho,hk]at h1;have hone':(cs'.drop j).take 1=[cs'[j]'(by omega)]:=by
   rw[List.drop_eq_getElem_cons (by omega)];rfl
  rw[hone']at h1;have hys:ys[j]?=some (ys[j]'(by omega)):=gE (by omega);refine⟨_,_,?_,h1.trans hys⟩;rw[←Go.Deep.add_add,hcell,hv]
end
theorem z6R{a:Addr}{w:World}{k:Nat}{v:Value}(h0:w.cell? a=some v):a=⟨a.block,a.off,none⟩∧a.add k=⟨a.block,a.off+k,none⟩:=by
 have:=World.cell?_spot h0;obtain⟨b,off,spot⟩:=a;simp at this;subst this;exact⟨rfl,Go.WideShapes.add_plain ..⟩
end Go.Proofs.YtpmlapgbmgbilaaGreatDoor.OpR
namespace Go.Proofs.YtpmlapgbmgbilaaGreatDoor
open Go.ChangeShapes Go.WideShapes Go.ChangeAt Go.RowKit Go.Lib Go.Mor Go.Deep Go.Joins
open Go.Sh (RelT RelV TV PV SCalls Env MSim z0p zA z1Y Low)
open Go.ChangeMaps (open_string shut_string)
open Go.Proofs.YtpmlapgbmgbilaaGreatDoor.OpR
section
variable{H:Type}{enc:TypeId×Value→H}
theorem zel{W:World}{base:Nat}{spare:Nat→Bool}{held:Bool}{fuel:Nat}{c:Value}{y:DataW H×List MemPlace}(h:DataW.trod enc Tryz.prog W base spare held fuel 23 [c]=some y):
  ∃l:List RawF,(∀r∈l,I64 r.n∧I64 r.k∧I64 r.o)∧l.length≤9223372036854775807∧RelV W (z1i W).K (.sl 4 (rfR l)) c:=by
 rcases zfx Tryz.underlying23 Tryz.underlying84 (by kernel_rfl) (by kernel_rfl) h with h0|⟨a,len,cap,hcs,hl,hm,hi⟩
 ·obtain rfl:c=.slice none 0 0:=by simpa using h0
  exact⟨[],by simp,by simp,.sl 4 [] 0 0 0 none (fun _ _=>undef) (by simp) (by simp) (by simp) (by simp) (by simp) (by simp)⟩
 ·obtain rfl:c=.slice (some a) len cap:=by simpa using hcs
  have key:∀i,i<len→∃r:RawF,(I64 r.n∧I64 r.k∧I64 r.o)∧a=⟨a.block,a.off,none⟩∧W.cell? ⟨a.block,a.off+i*4,none⟩=some (.int .i64 r.n)∧W.cell? ⟨a.block,a.off+i*4+1,none⟩=some (.int .i64 r.k)
    ∧W.cell? ⟨a.block,a.off+i*4+2,none⟩=some (.int .i64 r.o)∧W.cell? ⟨a.block,a.off+i*4+3,none⟩=some (.bool r.ix):=by
   intro i hlt;obtain⟨n0,hf0⟩:=hi 0 (by omega);obtain⟨v,y,hc0,_⟩:=hf0 0 _ rfl;have ha:a=⟨a.block,a.off,none⟩:=(z6R (k:=0) (by simpa [Addr.add]using hc0)).1;have hadd:∀k,a.add k=⟨a.block,a.off+k,none⟩:=fun k=>(z6R (k:=k) (by simpa [Addr.add]using hc0)).2;obtain⟨n,hf⟩:=hi i hlt;obtain⟨v0,y0,c0,t0⟩:=hf 0 _ rfl;obtain⟨v1,y1,c1,t1⟩:=hf 1 _ rfl;obtain⟨v2,y2,c2,t2⟩:=hf 2 _ rfl;obtain⟨v3,y3,c3,t3⟩:=hf 3 _ rfl;obtain⟨z0,e0,_,w0⟩:=DataW.trod_int Tryz.underlying3 t0;obtain⟨z1,e1,_,w1⟩:=DataW.trod_int Tryz.underlying3 t1;obtain⟨z2,e2,_,w2⟩:=DataW.trod_int Tryz.underlying3 t2;obtain⟨z3,e3,_⟩:=DataW.trod_bool Tryz.underlying4 t3;simp at e0 e1 e2 e3;subst e0 e1 e2 e3;rw[hadd]at c0 c1 c2 c3;exact⟨⟨z0,z1,z2,z3⟩,⟨bounds_i64 w0,bounds_i64 w1,bounds_i64 w2⟩,ha,c0,c1,c2,c3⟩
  obtain⟨l,hlen,hq⟩:=zgj key;refine⟨l,fun r hr=> ?_,by unfold maxLen at hm;omega,?_⟩
  ·obtain⟨i,hi⟩:=List.getElem?_of_mem hr;exact(hq i r hi).1
  ·have hL:(rfR l).length=len:=by rw[zb1,hlen]
   rw[←hL];have cell:∀(i j:Nat) cs q,(rfR l)[i]?=some cs→cs[j]?=some q→∃u,q=.v u∧W.cell? ⟨a.block,a.off+i*4+j,none⟩=some u∧Go.Sh.one u:=by
    intro i j cs q h1 h2;rw[zi4,Option.map_eq_some_iff]at h1;obtain⟨r,hr,rfl⟩:=h1;obtain⟨_,_,c0,c1,c2,c3⟩:=hq i r hr
    match j with
    |0=>simp[z7s]at h2;subst h2;exact⟨_,rfl,c0,rfl⟩
    |1=>simp[z7s]at h2;subst h2;exact⟨_,rfl,c1,rfl⟩
    |2=>simp[z7s]at h2;subst h2;exact⟨_,rfl,c2,rfl⟩
    |3=>simp[z7s]at h2;subst h2;exact⟨_,rfl,c3,rfl⟩
    |j+4=>simp[z7s]at h2
   refine .sl 4 (rfR l) a.block a.off cap (some a) (fun i j=>(W.cell? ⟨a.block,a.off+i*4+j,none⟩).getD undef) (fun hne=> ?_) (by omega) hm (fun cs hcs=> ?_) (fun i j cs q h1 h2=> ?_) (fun i j cs q h1 h2=> ?_)
   ·obtain⟨r,hr⟩:∃r,l[0]?=some r:=by
     cases l with
     |nil=>exact absurd rfl hne
     |cons r q=>exact⟨r,rfl⟩
    rw[(hq 0 r hr).2.1]
   ·obtain⟨r,_,rfl⟩:=List.mem_map.1 hcs;rfl
   ·obtain⟨u,_,hu,ho⟩:=cell i j cs q h1 h2;rw[hu];exact⟨z0S (a:=⟨a.block,a.off+i*4+j,none⟩) hu,rfl,ho⟩
   ·obtain⟨u,rfl,hu,ho⟩:=cell i j cs q h1 h2;rw[hu];exact .v u
theorem zjX{W:World}{b0 base:Nat}{spare:Nat→Bool}{held:Bool}{v:Value}{d:DataW H}{p:List MemPlace}(hok:Value.okWide Tryz.prog W .any b0 25 v)(h:DataW.Trod enc Tryz.prog W base spare held 25 v d p):
  ∃x:Raw,RawOk x∧∀r,RelT W (z1i W) r (z5K x) v:=by
 obtain⟨c0,c1,y0,y1,m,rfl,_,_,hy0,hy1⟩:=open_agg2 Tryz.underlying25 (by kernel_rfl) (by kernel_rfl) hok h;obtain⟨z0,e0,_,w0⟩:=DataW.trod_int Tryz.underlying3 hy0;obtain rfl:c0=_:=by simpa using e0
 obtain⟨l,hl,hlen,hr⟩:=zel hy1;refine⟨⟨z0,l⟩,⟨bounds_i64 w0,hl,hlen⟩,fun r=> ?_⟩;unfold z5K;refine .agg _ [_,c1] rfl (fun j q u hq hu=> ?_) (fun u hu=> ?_)
 ·match j with
  |0=>simp at hq hu;subst hq;subst hu;exact .pv (.v _)
  |1=>simp at hq hu;subst hq;subst hu;exact .pv hr
  |j+2=>simp at hq
 ·simp at hu;rcases hu with rfl|rfl
  ·rfl
  ·cases hr;rfl
end
end Go.Proofs.YtpmlapgbmgbilaaGreatDoor
end

section
namespace Go.Mor
open Go
def z78(fs:List Fld)(n:Nat)(t:Ty):Nat→Nat→Option (zB)
 |0,_=>none
 |k+1,i=>if z0f (fs.getD ((n+i)%fs.length) z4a).t t then some (fs.getD ((n+i)%fs.length) z4a).n else z78 fs n t k (i+1)
def z3v(c:Cls)(n:Int)(t:Ty):Option (zB):=z78 c.fs (pick n 100).toNat t c.fs.length 0
def zeh(a b:zB):List (zB):=[[],[51],a,a++[32,42,32,50,32,45,32,49],[108,101,110,40]++b++[41],[105,102,40]++a++[32,62,32,50,44,32]++a++[44,32,48,32,45,32]++a++[41],[102,105,110,100,40,34,98,34,44,32]++b++[41],a++[32,47,32]++a]
def zf3(a b:zB):List (zB):=[[],[34,120,34],b,b++[32,38,32,34,45,34,32,38,32]++b,[116,101,120,116,40]++a++[41],[108,101,102,116,40]++b++[44,32,50,41],[102,114,111,109,40]++b++[44,32,51,41],[105,102,40]++a++[32,61,32,49,44,32]++b++[44,32,34,110,111,34,41]]
def z8b(c:Cls)(n:Int):zB:=(z3v c n ⟨1,0⟩).getD [55]
def z8E(c:Cls)(n:Int):zB:=(z3v c (n.tdiv 2) ⟨2,0⟩).getD [34,97,32,98,34]
def z4L(n:Int)(t:Ty)(c:Cls):zB:=
 if t.k=1 then(zeh (z8b c n) (z8E c n)).getD (pick n 8).toNat []
 else if t.k=2 then(zf3 (z8b c n) (z8E c n)).getD (pick n 8).toNat []
 else match z3v c n t with
  |some s=>if 0<pick n 3 then s else []
  |none=>[]
structure RawH where
 k:Int
 f:Int
 n:Int
 m:Int
 t:Ty
 x:Int
 o:Int
def nmH(i:Int):zB:=([[110,101,119,95,49],[109,111,114,101],[122,57],[97],[110,97,109,101],[107,105,100,115]]:List (zB)).getD i.toNat []
def tyH(t:Ty):Ty:=⟨1+pick t.k 5,if pick t.k 5=4 then 1+pick t.o 4 else 0⟩
def z2W(x:RawH)(c:Cls):Chg:=
 let f:=if c.fs=[] then [] else(c.fs.getD (pick x.f c.fs.length).toNat z4a).n
 let k:=1+pick x.k 6
 let t:=tyH x.t
 let e:=z4L x.x t c
 if k=1 then⟨k,[],nmH (pick x.n 6),[],t,e,[]⟩
 else if k=3 then⟨k,f,nmH (pick x.n 6),[],ty0,[],[]⟩
 else if k=4 then⟨k,f,[],[],t,e,[]⟩
 else if k=5 then⟨k,f,nmH (pick x.n 6),nmH (pick x.m 6),t,e,z4L x.o t c⟩
 else⟨k,f,[],[],ty0,[],[]⟩
def nmL:List (zB):=[[97],[98,50],[110,97,109,101],[110,101,120,116,95,111,110,101],[107,105,100,115],[120],[110,101,119,95,49],[109,111,114,101],[122,57],[113,117,105,116,101,95,110,101,119]]
def numL:List (zB):=[55]::nmL
def txtL:List (zB):=[34,97,32,98,34]::nmL
def exA(a:zB):List (zB):=[a++[32,42,32,50,32,45,32,49],[105,102,40]++a++[32,62,32,50,44,32]++a++[44,32,48,32,45,32]++a++[41],a++[32,47,32]++a,[116,101,120,116,40]++a++[41]]
def exB(b:zB):List (zB):=[[108,101,110,40]++b++[41],[102,105,110,100,40,34,98,34,44,32]++b++[41],b++[32,38,32,34,45,34,32,38,32]++b,[108,101,102,116,40]++b++[44,32,50,41],[102,114,111,109,40]++b++[44,32,51,41]]
def exC(a b:zB):zB:=[105,102,40]++a++[32,61,32,49,44,32]++b++[44,32,34,110,111,34,41]
def exN:List (zB):=[55]::[34,97,32,98,34]::nmL++[[51],[34,120,34]]
def exL:List (zB):=exN++numL.flatMap exA++txtL.flatMap exB++numL.flatMap fun a=>txtL.map (exC a)
theorem zn5{a:zB}(h:a∈numL):a∈exL:=by
 refine List.mem_append_left _ (List.mem_append_left _ (List.mem_append_left _ ?_))
 grind [exN,numL]
theorem zqn{b:zB}(h:b∈txtL):b∈exL:=by
 refine List.mem_append_left _ (List.mem_append_left _ (List.mem_append_left _ ?_))
 grind [exN,txtL]
theorem zn6{e:zB}(h:e∈exN):e∈exL:=List.mem_append_left _ (List.mem_append_left _ (List.mem_append_left _ h))
theorem zd4{a e:zB}(h:a∈numL)(he:e∈exA a):e∈exL:=List.mem_append_left _ (List.mem_append_left _ (List.mem_append_right _ (List.mem_flatMap.2 ⟨a,h,he⟩)))
theorem zaE{b e:zB}(h:b∈txtL)(he:e∈exB b):e∈exL:=List.mem_append_left _ (List.mem_append_right _ (List.mem_flatMap.2 ⟨b,h,he⟩))
theorem zqm{a b:zB}(ha:a∈numL)(hb:b∈txtL):exC a b∈exL:=List.mem_append_right _ (List.mem_flatMap.2 ⟨a,ha,List.mem_map.2 ⟨b,hb,rfl⟩⟩)
theorem zo5{a b:zB}(ha:a∈numL)(hb:b∈txtL){e:zB}(he:e∈zeh a b):e=[]∨e∈exL:=by
 unfold zeh at he;simp only[List.mem_cons,List.not_mem_nil,or_false]at he;rcases he with rfl|rfl|rfl|rfl|rfl|rfl|rfl|rfl
 ·simp
 ·exact .inr (zn6 (by decide))
 ·grind [zn5]
 ·grind [zd4,exA]
 ·grind [zaE,exB]
 ·grind [zd4,exA]
 ·grind [zaE,exB]
 ·grind [zd4,exA]
theorem zow{a b:zB}(ha:a∈numL)(hb:b∈txtL){e:zB}(he:e∈zf3 a b):e=[]∨e∈exL:=by
 unfold zf3 at he;simp only[List.mem_cons,List.not_mem_nil,or_false]at he;rcases he with rfl|rfl|rfl|rfl|rfl|rfl|rfl|rfl
 ·simp
 ·exact .inr (zn6 (by decide))
 ·grind [zqn]
 ·grind [zaE,exB]
 ·exact .inr (zd4 ha (by simp[exA]))
 ·exact .inr (zaE hb (by simp[exB]))
 ·exact .inr (zaE hb (by simp[exB]))
 ·exact .inr (zqm ha hb)
theorem zcf{fs:List Fld}(hne:fs≠[]){n:Nat}{t:Ty}:∀{k i:Nat} {s:zB},z78 fs n t k i=some s→∃f∈fs,f.n=s∧z0f f.t t=true
 |0,_,s,h=>by cases h
 |k+1,i,s,h=>by
  rw[z78]at h;split at h
  ·grind [Nat.mod_lt,List.length_pos_iff,List.getElem_mem,List.getElem?_eq_getElem]
  ·exact zcf hne h
theorem z9V{c:Cls}{n:Int}{t:Ty}{s:zB}(h:z3v c n t=some s):∃f∈c.fs,f.n=s∧z0f f.t t=true:=by
 unfold z3v at h;refine zcf (fun e=> ?_) h;rw[e]at h;cases h
theorem za4{c:Cls}(hc:∀f∈c.fs,f.n∈nmL)(n:Int):z8b c n∈numL:=by
 unfold z8b;cases h:z3v c n ⟨1,0⟩ with
 |none=>exact List.mem_cons_self ..
 |some s=>
  obtain⟨f,hf,rfl,_⟩:=z9V h;exact List.mem_cons_of_mem _ (hc f hf)
theorem zai{c:Cls}(hc:∀f∈c.fs,f.n∈nmL)(n:Int):z8E c n∈txtL:=by
 unfold z8E;cases h:z3v c (n.tdiv 2) ⟨2,0⟩ with
 |none=>exact List.mem_cons_self ..
 |some s=>
  obtain⟨f,hf,rfl,_⟩:=z9V h;exact List.mem_cons_of_mem _ (hc f hf)
theorem zc5{c:Cls}(hc:∀f∈c.fs,f.n∈nmL)(n:Int)(t:Ty):z4L n t c=[]∨z4L n t c∈exL:=by
 unfold z4L;split
 ·grind [zeh,z8b,z8E,pick,zo5,za4,zai]
 split
 ·grind [zf3,z8b,z8E,pick,zow,za4,zai]
 cases h:z3v c n t with
 |none=>simp
 |some s=>
  obtain⟨f,hf,rfl,_⟩:=z9V h
  dsimp only
  split
  ·exact .inr (zn5 (List.mem_cons_of_mem _ (hc f hf)))
  ·simp
end Go.Mor
end

section
namespace Go.Proofs.YtpmlapgbmgbilaaGreatDoor
open Go Go.RowKit Go.Mor Go.Sh
structure RawHOk(r:RawH):Prop where
 k:I64 r.k
 f:I64 r.f
 n:I64 r.n
 m:I64 r.m
 tk:I64 r.t.k
 ot:I64 r.t.o
 x:I64 r.x
 o:I64 r.o
def z5m(x:RawH):TV:=.agg [I x.k,I x.f,I x.n,I x.m,I x.t.k,I x.t.o,I x.x,I x.o]
end Go.Proofs.YtpmlapgbmgbilaaGreatDoor
end

section
namespace Go.Proofs.YtpmlapgbmgbilaaGreatDoor
open Go.ChangeShapes Go.WideShapes Go.ChangeAt Go.RowKit Go.Lib Go.Mor Go.Deep Go.Joins
open Go.Sh (RelT RelV TV PV SCalls Env MSim z0p zA z1Y Low)
open Go.ChangeMaps (open_string shut_string)
section
variable{H:Type}{enc:TypeId×Value→H}
theorem zda{α:Type}{l:List α}(h:l.length=2):∃a b,l=[a,b]:=by
 match l,h with
 |[a,b],_=>exact⟨a,b,rfl⟩
theorem znd{α:Type}{l:List α}(h:l.length=7):∃a b c d e f g,l=[a,b,c,d,e,f,g]:=by
 match l,h with
 |[a,b,c,d,e,f,g],_=>exact⟨a,b,c,d,e,f,g,rfl⟩
theorem zne{α:Type}{l:List α}(h:l.length=8):∃a b c d e f g i,l=[a,b,c,d,e,f,g,i]:=by
 match l,h with
 |[a,b,c,d,e,f,g,i],_=>exact⟨a,b,c,d,e,f,g,i,rfl⟩
theorem zem{W:World}{base:Nat}{spare:Nat→Bool}{held:Bool}{n:Nat}{cs:List Value}{y:DataW H×List MemPlace}(h:DataW.trod enc Tryz.prog W base spare held n 27 cs=some y):
  ∃t:Ty,cs=[.int .i64 t.k,.int .i64 t.o]∧I64 t.k∧I64 t.o:=by
 obtain⟨xs,n',rfl,_,hlen,hxl,hf⟩:=DataW.trod_struct Tryz.underlying27 h;obtain⟨c0,c1,rfl⟩:=zda (hlen.trans (by kernel_rfl));obtain⟨x0,x1,rfl⟩:=zda hxl;have k0:Tryz.prog.cellsOf 3=1:=by kernel_rfl
 have h0:DataW.trod enc Tryz.prog W base spare held n' 3 [c0]=some x0:=by have:=hf 0 _ rfl;simpa [k0]using this
 have h1:DataW.trod enc Tryz.prog W base spare held n' 3 [c1]=some x1:=by have:=hf 1 _ rfl;simpa [k0]using this
 obtain⟨z0,e0,_,w0⟩:=DataW.trod_int Tryz.underlying3 h0;obtain⟨z1,e1,_,w1⟩:=DataW.trod_int Tryz.underlying3 h1;simp at e0 e1;subst e0 e1;exact⟨⟨z0,z1⟩,rfl,bounds_i64 w0,bounds_i64 w1⟩
theorem zjY{W:World}{b0 base:Nat}{spare:Nat→Bool}{held:Bool}{v:Value}{d:DataW H}{p:List MemPlace}(hok:Value.okWide Tryz.prog W .any b0 29 v)(h:DataW.Trod enc Tryz.prog W base spare held 29 v d p):
  ∃x:RawH,RawHOk x∧∀r,RelT W (z1i W) r (z5m x) v:=by
 obtain⟨cs,rfl,hsz⟩:=okWide_struct Tryz.underlying29 hok;obtain⟨cs⟩:=cs;obtain⟨c0,c1,c2,c3,c4,c5,c6,c7,rfl⟩:=zne (show cs.length=8 from hsz.trans (by kernel_rfl));obtain⟨fuel,hf⟩:=h;obtain⟨xs,n',_,_,hlen,hxl,hf⟩:=DataW.trod_struct Tryz.underlying29 hf;obtain⟨x0,x1,x2,x3,x4,x5,x6,rfl⟩:=znd hxl;have k0:Tryz.prog.cellsOf 3=1:=by kernel_rfl
 have k1:Tryz.prog.cellsOf 27=2:=by kernel_rfl
 have h0:DataW.trod enc Tryz.prog W base spare held n' 3 [c0]=some x0:=by have:=hf 0 _ rfl;simpa [k0,Value.cells]using this
 have h1:DataW.trod enc Tryz.prog W base spare held n' 3 [c1]=some x1:=by have:=hf 1 _ rfl;simpa [k0,Value.cells]using this
 have h2:DataW.trod enc Tryz.prog W base spare held n' 3 [c2]=some x2:=by have:=hf 2 _ rfl;simpa [k0,Value.cells]using this
 have h3:DataW.trod enc Tryz.prog W base spare held n' 3 [c3]=some x3:=by have:=hf 3 _ rfl;simpa [k0,Value.cells]using this
 have h4:DataW.trod enc Tryz.prog W base spare held n' 27 [c4,c5]=some x4:=by have:=hf 4 _ rfl;simpa [k1,Value.cells]using this
 have h5:DataW.trod enc Tryz.prog W base spare held n' 3 [c6]=some x5:=by have:=hf 5 _ rfl;simpa [k0,Value.cells]using this
 have h6:DataW.trod enc Tryz.prog W base spare held n' 3 [c7]=some x6:=by have:=hf 6 _ rfl;simpa [k0,Value.cells]using this
 obtain⟨z0,e0,_,w0⟩:=DataW.trod_int Tryz.underlying3 h0;obtain⟨z1,e1,_,w1⟩:=DataW.trod_int Tryz.underlying3 h1;obtain⟨z2,e2,_,w2⟩:=DataW.trod_int Tryz.underlying3 h2;obtain⟨z3,e3,_,w3⟩:=DataW.trod_int Tryz.underlying3 h3;obtain⟨t,e4,w4,w4'⟩:=zem h4;obtain⟨z5,e5,_,w5⟩:=DataW.trod_int Tryz.underlying3 h5;obtain⟨z6,e6,_,w6⟩:=DataW.trod_int Tryz.underlying3 h6;simp at e0 e1 e2 e3 e4 e5 e6;obtain⟨rfl,rfl⟩:=e4;subst e0 e1 e2 e3 e5 e6;refine⟨⟨z0,z1,z2,z3,t,z5,z6⟩,⟨bounds_i64 w0,bounds_i64 w1,bounds_i64 w2,bounds_i64 w3,w4,w4',bounds_i64 w5,bounds_i64 w6⟩,fun r=> ?_⟩;unfold z5m;refine .agg _ [_,_,_,_,_,_,_,_] rfl (fun j q u hq hu=> ?_) (fun u hu=> ?_)
 ·match j with
  |0=>simp at hq hu;subst hq;subst hu;exact .pv (.v _)
  |1=>simp at hq hu;subst hq;subst hu;exact .pv (.v _)
  |2=>simp at hq hu;subst hq;subst hu;exact .pv (.v _)
  |3=>simp at hq hu;subst hq;subst hu;exact .pv (.v _)
  |4=>simp at hq hu;subst hq;subst hu;exact .pv (.v _)
  |5=>simp at hq hu;subst hq;subst hu;exact .pv (.v _)
  |6=>simp at hq hu;subst hq;subst hu;exact .pv (.v _)
  |7=>simp at hq hu;subst hq;subst hu;exact .pv (.v _)
  |j+8=>simp at hq
 ·simp at hu;rcases hu with rfl|rfl|rfl|rfl|rfl|rfl|rfl|rfl<;>rfl
end
end Go.Proofs.YtpmlapgbmgbilaaGreatDoor
end

section
namespace Go.Mor
open Go
section
open Go.RowKit
theorem GoodC.type{c:Cls}(h:GoodC c){f:Fld}(hf:f∈c.fs):zi f.t=true:=by
 have:=(h.fs f hf).1;unfold zE at this
 grind
end
structure FitC(c:Cls)(vals:List V):Prop where
 r:zd c=true
 len:vals.length=c.fs.length
 fit:∀(i:Nat) f v,c.fs[i]?=some f→vals[i]?=some v→zI v f.t=true
theorem FitC.chk{c:Cls}{vals:List V}(h:FitC c vals):check c vals=(0,0):=zla h.r h.len h.fit
theorem zor{c:Cls}{vals:List V}{h:Chg}(hf:FitC c vals)(hw:z0c h=true)(hm:z0G c h=true):z03 c h=(⟨c.n,z0q c h⟩,0)∧z6h c h vals=(z1x c h vals,0):=by
 have ho:okV c h=true:=by unfold okV;rw[hf.r,hw,hm];rfl
 unfold z03 z6h;rw[hf.chk,ho,hf.r];simp
theorem zex{α:Type}{l:List α}{i:Nat}(h:i<l.length)(x:α):z0W l i [x]=l.set i x:=by
 grind [z0W,List.set_eq_take_append_cons_drop,List.append_assoc]
theorem zjc(f g:Fld):z8N f g=true ↔ f=g:=by
 obtain⟨n,⟨k,o⟩,ix⟩:=f;obtain⟨n',⟨k',o'⟩,ix'⟩:=g
 grind [z8N]
theorem zaC:∀(l q:List Fld),z1N l q=true ↔ l=q
 |[],[]=>by simp[z1N]
 |[],_::_=>by simp[z1N]
 |_::_,[]=>by simp[z1N]
 |f::l,g::q=>by rw[z1N,Bool.and_eq_true,zjc,zaC l q,List.cons.injEq]
def z9X(q:zB)(t:Ty):Chg:=⟨1,[],q,[],t,[],[]⟩
theorem z7t{c:Cls}(h:zd c=true){i:Nat}{f:Fld}(hi:c.fs[i]?=some f):zb f.n=true∧fieldAt c.fs f.n=i∧zE f=true∧i<c.fs.length:=by
 have:=(z16 c).1 h;have hf:=this.2.2.1 f (gM hi);unfold zE at hf
 grind [zgc,List.getElem?_eq_some_iff]
theorem zjo{l:List Fld}{s:zB}(h:fieldAt l s<0)(b:zB):z2l l s b=true:=by grind [z2l]
theorem zpp{l:List Fld}{s:zB}(h:∀f∈l,f.n≠s):fieldAt l s<0:=(z4M _ _).2 fun f hf=>by simpa using h f hf
theorem getD_of{l:List Fld}{i:Nat}{f:Fld}(h:l[i]?=some f):l.getD i z4a=f:=by grind
theorem ziF{c:Cls}{vals:List V}(h:FitC c vals){q:zB}{t:Ty}(hq:zb q=true)(hn:∀g∈c.fs,g.n≠q)(ht:zi t=true)(hl:c.fs.length<8):
  z03 c (z9X q t)=(⟨c.n,c.fs++[⟨q,t,false⟩]⟩,0)∧z6h c (z9X q t) vals=(vals++[z3H t],0)∧FitC ⟨c.n,c.fs++[⟨q,t,false⟩]⟩ (vals++[z3H t]):=by
 have hr:=(z16 c).1 h.r;have hne:=zpp hn;have:=zor (h:=z9X q t) h (by grind [z0c,z0A,z9X,z1u,z3i]) (by grind [z0G,z9X,zjo,zz,Tl.is]);rw[this.1,this.2];refine⟨by simp[z0q,z9X],by simp[z1x,z9X,zz,Tl.val],(z16 _).2 ⟨hr.1,by simp;omega,fun f hf=> ?_,zc2 hr.2.2.2 hne⟩,by simp[h.len],fun i f v hi hv=> ?_⟩
 ·grind [List.mem_singleton,zE]
 ·dsimp only at hi
  have hl:=h.len;rw[List.getElem?_append]at hi hv;split at hi
  ·rw[if_pos (by omega)]at hv;exact h.fit _ _ _ hi hv
  ·grind [z60]
theorem z3N{α:Type}{l gs:List α}{i:Nat}(h:i≤l.length):(z0W l i gs).length=l.length+gs.length-(if i<l.length then 1 else 0):=by
 unfold z0W
 grind
theorem z7l{α:Type}{l gs:List α}{i:Nat}(h:i≤l.length)(j:Nat):(z0W l i gs)[j]?=if j<i then l[j]? else if j<i+gs.length then gs[j-i]? else l[j-gs.length+1]?:=by
 grind [List.length_take,z0W,List.append_assoc]
structure Put(c:Cls)(h:Chg)(vals:List V)(i:Nat)(gs:List Fld)(ws:List V):Prop where
 le:i≤c.fs.length
 fs:z0q c h=z0W c.fs i gs
 vs:z1x c h vals=z0W vals i ws
 len:gs.length=ws.length
 few:(z0W c.fs i gs).length≤8
 new:∀(j:Nat) f,c.fs[j]?=some f→j≠i→∀g∈gs,f.n≠g.n
 dist:z6j gs
 right:∀g∈gs,zE g=true
 fit:∀(j:Nat) g w,gs[j]?=some g→ws[j]?=some w→zI w g.t=true
 own:∀f,c.fs[i]?=some f→f.n=h.f
theorem Put.fits{c:Cls}{h:Chg}{vals:List V}{i:Nat}{gs:List Fld}{ws:List V}(hp:Put c h vals i gs ws)(hf:FitC c vals):FitC ⟨c.n,z0q c h⟩ (z1x c h vals):=by
 have hr:=(z16 c).1 hf.r;have hle:=hp.le;have hl:=hf.len;have hln:=hp.len;rw[hp.fs,hp.vs];refine⟨(z16 _).2 ⟨hr.1,hp.few,fun f hm=> ?_,fun a b f g ha hb he=> ?_⟩,?_,fun j f v hj hv=> ?_⟩
 ·unfold z0W at hm;simp only[List.mem_append]at hm;rcases hm with(hm|hm)|hm
  ·grind
  ·exact hp.right f hm
  ·grind
 ·dsimp only at ha hb
  rw[z7l hle]at ha hb;have hd:=hr.2.2.2;split at ha
  ·split at hb
   ·exact hd a b f g ha hb he
   ·split at hb
    ·exact absurd he (hp.new a f ha (by omega) g (gM hb))
    ·have:=hd _ _ f g ha hb he;omega
  ·split at ha
   ·split at hb
    ·exact absurd he.symm (hp.new b g hb (by omega) f (gM ha))
    ·split at hb
     ·have:=hp.dist _ _ f g ha hb he;omega
     ·exact absurd he.symm (hp.new _ g hb (by omega) f (gM ha))
   ·split at hb
    ·have:=hd _ _ f g ha hb he;omega
    ·split at hb
     ·exact absurd he (hp.new _ f ha (by omega) g (gM hb))
     ·have:=hd _ _ f g ha hb he;omega
 ·dsimp only
  grind [z3N]
 ·dsimp only at hj
  rw[z7l hle]at hj;rw[z7l (by omega)]at hv;split at hj
  ·rw[if_pos (by assumption)]at hv;exact hf.fit _ _ _ hj hv
  ·rw[if_neg (by assumption)]at hv;split at hj
   ·rw[if_pos (by omega)]at hv;exact hp.fit _ _ _ hj hv
   ·rw[if_neg (by omega),←hln]at hv;exact hf.fit _ _ _ hj hv
theorem Put.news{c:Cls}{h:Chg}{vals:List V}{i:Nat}{gs:List Fld}{ws:List V}(hp:Put c h vals i gs ws)(hf:FitC c vals){j:Nat}{f:Fld}{v:V}(hj:gs[j]?=some f)(hv:ws[j]?=some v):
  (z0q c h)[i+j]?=some f∧(z1x c h vals)[i+j]?=some v:=by
 have hle:=hp.le;have hl:=hf.len;rw[hp.fs,hp.vs]
 grind [z7l,Nat.add_sub_cancel_left]
theorem z6d{c:Cls}{vals:List V}(hf:FitC c vals){s:zB}{t:Ty}(ht:zi t=true)(h:(zz c s t).is=true):zI ((zz c s t).val c t vals) t=true:=by
 unfold zz at h ⊢;split at h
 ·rw[if_pos (by assumption)];exact z60 t ht
 rename_i hs;rw[if_neg hs];split at h
 ·cases h
 rename_i he;rw[if_neg he];split at h
 ·rename_i hT;rw[if_pos hT];obtain⟨h0,h1⟩:=hT;generalize(rdV s).1=e at*;have hr:=(z16 c).1 hf.r;have hfa:z5x c.fs vals:=⟨fun f hm=>by have:=hr.2.2.1 f hm;unfold zE at this;simp at this;exact this.1.2,hf.len,hf.fit⟩
  have hev:z49 c vals e=(z1Q c.fs vals 8 e,0):=by
   unfold z49;rw[h0,hf.chk];rfl
  show zI (z49 c vals e).1 t=true;unfold z2p at h0 h1;split at h0
  ·rename_i hre;split at h0
   ·rename_i hrc;split at h0
    ·rename_i hty;have e1:(zm c.fs 8 e).1=t:=by
      generalize(zm c.fs 8 e).1=u at h1;obtain⟨k,o⟩:=u;obtain⟨k',o'⟩:=t
      grind [z0f]
     unfold z0X at hre
     grind [z5f]
    ·cases h0
   ·cases h0
  ·cases h0
 ·cases h
theorem zbz{c:Cls}{s b:zB}(h:z2l c.fs s b=true){j:Nat}{f:Fld}(hj:c.fs[j]?=some f)(hne:f.n≠b):f.n≠s:=by
 rintro rfl;unfold z2l at h
 grind [fieldAt,z4M,List.mem_of_getElem?]
theorem has_at{c:Cls}{s:zB}(h:z0F c.fs s=true):∃f,c.fs[atV c.fs s]?=some f∧f.n=s:=by
 unfold z0F at h;simp at h;unfold atV;unfold fieldAt at*;obtain⟨k,hk⟩:=Int.eq_ofNat_of_zero_le (show 0≤z0K (fun f:Fld=>f.n==s) c.fs by omega);obtain⟨f,h1,h2⟩:=z2F (fun f:Fld=>f.n==s) c.fs k hk
 grind
theorem z6Z(g:Fld):z6j [g]:=fun a b f h ha hb _=>by
 grind
theorem zlg{g k:Fld}(hne:g.n≠k.n):z6j [g,k]:=fun a b f h ha hb he=>by
 match a,b with
 |0,0=>rfl
 |1,1=>rfl
 |0,1=>grind
 |1,0=>grind
 |0,b+2=>simp at hb
 |1,b+2=>simp at hb
 |a+2,_=>simp at ha
theorem zi5{n:zB}{t:Ty}(hn:zb n=true)(ht:zi t=true):zE ⟨n,t,false⟩=true:=by grind [zE]
theorem zk4{c:Cls}{h:Chg}{vals:List V}(hf:FitC c vals)(ho:okV c h=true):∃i gs ws,Put c h vals i gs ws∧
  ((h.k=1∨h.k=5)→gs[0]?=some ⟨h.n,h.t,false⟩∧ws[0]?=some ((zz c h.x h.t).val c h.t vals))∧(h.k=4→gs[0]?=some ⟨h.f,h.t,false⟩∧ws[0]?=some ((zz c h.x h.t).val c h.t vals)):=by
 have hr:=(z16 c).1 hf.r;have hlen:=hf.len;unfold okV at ho;simp at ho;obtain⟨⟨_,hw⟩,hm⟩:=ho;have hd:=hr.2.2.2;have hsame:∀{j:Nat} {f:Fld},c.fs[j]?=some f→j≠atV c.fs h.f→z0F c.fs h.f=true→f.n≠h.f:=fun {j f} hj hne hh e=>by
  obtain⟨g,hg,he⟩:=has_at hh;exact hne (hd j _ f g hj hg (by rw[e,he]))
 have hk:h.k=1∨h.k=2∨h.k=3∨h.k=4∨h.k=5∨h.k=6:=by
  grind [z0c,z0A]
 unfold z0c at hw;rcases hk with k|k|k|k|k|k
 ·simp only[k,z0A,z0G,if_true,z1u,Bool.and_eq_true,decide_eq_true_eq]at hw hm;obtain⟨⟨h8,hfr⟩,hx⟩:=hm;refine⟨c.fs.length,[⟨h.n,h.t,false⟩],[(zz c h.x h.t).val c h.t vals],⟨Nat.le_refl _,?_,?_,rfl,?_,fun j f hj hne g hg=> ?_,z6Z _,fun g hg=> ?_,fun j g w hj hw'=> ?_,fun f hj=> ?_⟩,fun _=>⟨rfl,rfl⟩,fun h4=>by omega⟩
  ·simp[z0q,k,z0W]
  ·simp[z1x,k,z0W,←hlen]
  ·rw[z3N (Nat.le_refl _),if_neg (by omega)];simp;omega
  ·obtain rfl:=List.mem_singleton.1 hg;refine zbz hfr hj fun e=> ?_;have:=(z7t hf.r hj).1;rw[e]at this;exact absurd this (by decide)
  ·grind [List.mem_singleton,zi5]
  ·grind [z6d]
  ·grind
 ·simp only[k,z0G,show ¬(2:Int)=1 by decide,if_false,if_true]at hm;obtain⟨f,ef,en⟩:=has_at hm;have hlt:=(gJ ef).1;refine⟨atV c.fs h.f,[],[],⟨by omega,by simp[z0q,k],by simp[z1x,k],rfl,?_,fun j f hj hne g hg=>by simp at hg,fun a b f g ha=>by simp at ha,fun g hg=>by simp at hg,fun j g w hj=>by simp at hj,fun y hy=> ?_⟩,fun h4=>by omega,fun h4=>by omega⟩
  ·grind [z3N]
  ·grind
 ·simp only[k,z0A,z0G,show ¬(3:Int)=1 by decide,show ¬(3:Int)=2 by decide,show ¬(3:Int)=6 by decide,false_or,if_false,if_true,z1u,Bool.and_eq_true]at hw hm;obtain⟨hh,hfr⟩:=hm;obtain⟨f,ef,en⟩:=has_at hh;have hlt:=(gJ ef).1;obtain⟨v,ev⟩:∃v,vals[atV c.fs h.f]?=some v:=⟨_,gE (by omega)⟩
  have h3:=(z7t hf.r ef).2.2.1;refine⟨atV c.fs h.f,[⟨h.n,f.t,f.ix⟩],[v],⟨by omega,by simp[z0q,k,ef],?_,rfl,?_,fun j y hj hne g hg=> ?_,z6Z _,fun g hg=> ?_,fun j g w hj hw'=> ?_,fun y hy=> ?_⟩,fun h4=>by omega,fun h4=>by omega⟩
  ·grind [zex,atV,List.getElem?_eq_some_iff,List.set_getElem_self,z1x]
  ·grind [z3N]
  ·obtain rfl:=List.mem_singleton.1 hg;refine zbz hfr hj fun e=> ?_;have:=(z7t hf.r hj).1;rw[e]at this;exact absurd this (by decide)
  ·grind [List.mem_singleton,zE]
  ·cases j with
   |zero=>simp at hj hw';subst hj;subst hw';exact(show zI _ f.t=true from hf.fit _ _ _ ef ev)
   |succ j=>simp at hj
  ·grind
 ·simp only[k,z0A,z0G,show ¬(4:Int)=1 by decide,show ¬(4:Int)=2 by decide,show ¬(4:Int)=6 by decide,show ¬(4:Int)=3 by decide,false_or,if_false,if_true,z1u,Bool.and_eq_true]at hw hm;obtain⟨hh,hx⟩:=hm;obtain⟨f,ef,en⟩:=has_at hh;have hlt:=(gJ ef).1;refine⟨atV c.fs h.f,[⟨f.n,h.t,false⟩],[(zz c h.x h.t).val c h.t vals],⟨by omega,by simp[z0q,k,ef],by simp[z1x,k],rfl,?_,fun j y hj hne g hg=> ?_,z6Z _,fun g hg=> ?_,fun j g w hj hw'=> ?_,fun y hy=> ?_⟩,fun h4=>by omega,fun _=>⟨by rw[en];rfl,rfl⟩⟩
  ·grind [z3N]
  ·grind
  ·grind [List.mem_singleton,zi5]
  ·grind [z6d]
  ·grind
 ·simp only[k,z0A,z0G,show ¬(5:Int)=1 by decide,show ¬(5:Int)=2 by decide,show ¬(5:Int)=6 by decide,show ¬(5:Int)=3 by decide,show ¬(5:Int)=4 by decide,false_or,if_false,if_true,z1u,Bool.and_eq_true,decide_eq_true_eq]at hw hm;obtain⟨⟨⟨⟨⟨⟨hh,h8⟩,hnm⟩,hfr⟩,hfr2⟩,hx⟩,hx2⟩:=hm;have hnm:h.n≠h.m:=by grind
  obtain⟨f,ef,en⟩:=has_at hh;have hlt:=(gJ ef).1;refine⟨atV c.fs h.f,[⟨h.n,h.t,false⟩,⟨h.m,h.t,false⟩],[(zz c h.x h.t).val c h.t vals,(zz c h.o h.t).val c h.t vals],⟨by omega,by simp[z0q,k],by simp[z1x,k],rfl,?_,fun j y hj hne g hg=> ?_,zlg hnm,fun g hg=> ?_,fun j g w hj hw'=> ?_,fun y hy=> ?_⟩,fun _=>⟨rfl,rfl⟩,fun h4=>by omega⟩
  ·grind [z3N]
  ·simp at hg
   grind [zbz]
  ·simp at hg
   grind [zi5]
  ·match j with
   |0=>grind [z6d]
   |1=>grind [z6d]
   |j+2=>simp at hj
  ·grind
 ·simp only[k,z0G,show ¬(6:Int)=1 by decide,show ¬(6:Int)=2 by decide,show ¬(6:Int)=3 by decide,show ¬(6:Int)=4 by decide,show ¬(6:Int)=5 by decide,if_false,Bool.and_eq_true,decide_eq_true_eq]at hm;obtain⟨hh,hk3⟩:=hm;obtain⟨f,ef,en⟩:=has_at hh;have hlt:=(gJ ef).1;obtain⟨v,ev⟩:∃v,vals[atV c.fs h.f]?=some v:=⟨_,gE (by omega)⟩
  have h3:=(z7t hf.r ef).2.2.1;refine⟨atV c.fs h.f,[⟨f.n,f.t, !f.ix⟩],[v],⟨by omega,by simp[z0q,k,ef],?_,rfl,?_,fun j y hj hne g hg=> ?_,z6Z _,fun g hg=> ?_,fun j g w hj hw'=> ?_,fun y hy=> ?_⟩,fun h4=>by omega,fun h4=>by omega⟩
  ·grind [zex,atV,List.getElem?_eq_some_iff,List.set_getElem_self,z1x]
  ·grind [z3N]
  ·grind
  ·grind [List.mem_singleton,zE]
  ·cases j with
   |zero=>simp at hj hw';subst hj;subst hw';exact(show zI _ f.t=true from hf.fit _ _ _ ef ev)
   |succ j=>simp at hj
  ·grind
structure Ln where
 c:Cls
 hs:List Chg
def zdh(r:Cls×Int)(h:Chg):Cls×Int:=if r.2=0 then z03 r.1 h else r
theorem z3P{r:Cls×Int}(h:Chg)(h0:r.2=0):zdh r h=z03 r.1 h:=if_pos h0
theorem zgH{r:Cls×Int}(h:Chg)(h0:r.2≠0):zdh r h=r:=if_neg h0
def z2s(l:Ln):Cls×Int:=(l.c,if zd l.c then 0 else 40)
def zn(l:Ln)(k:Nat):Cls×Int:=(l.hs.take k).foldl zdh (z2s l)
def zY(l:Ln):Bool:=Nat.ble l.hs.length 12&&(zn l l.hs.length).2==0
theorem z2j(l:Ln):zn l 0=z2s l:=by simp[zn]
theorem z3b{l:Ln}{k:Nat}{h:Chg}(hk:l.hs[k]?=some h):zn l (k+1)=zdh (zn l k) h:=by
 unfold zn;rw[List.take_add_one,hk,List.foldl_append];rfl
theorem z9n{l:Ln}{k:Nat}(hk:l.hs.length≤k):zn l k=zn l l.hs.length:=by
 unfold zn;rw[List.take_of_length_le hk,List.take_length]
theorem z7y{l:Ln}{k:Nat}(hk:(zn l k).2≠0):∀{n:Nat},k≤n→zn l n=zn l k
 |0,hn=>by rw[Nat.le_zero.1 hn]
 |n+1,hn=>by
  rcases Nat.lt_or_ge n k with h1|h1
  ·rw[show n+1=k by omega]
  ·have ih:=z7y hk h1;cases hx:l.hs[n]? with
   |none=>
    have:=List.getElem?_eq_none_iff.1 hx;rw[z9n (show l.hs.length≤n+1 by omega),←z9n this,ih]
   |some x=>rw[z3b hx,ih,zgH x hk]
theorem zfe{l:Ln}(h:(z2s l).2=0):zd l.c=true:=by
 unfold z2s at h;by_cases hc:zd l.c=true
 ·exact hc
 ·simp[hc]at h
theorem zcI{c:Cls}(h:zd c=true):FitC c (c.fs.map fun f=>z3H f.t):=by
 refine⟨h,List.length_map _,fun i f v hf hv=> ?_⟩;rw[List.getElem?_map,hf]at hv;cases hv;have:=((z16 c).1 h).2.2.1 f (gM hf);refine z60 _ ?_;unfold zE at this;simp only[Bool.and_eq_true]at this
 grind
theorem z3x{c:Cls}{h:Chg}(h0:(z03 c h).2=0):zd c=true∧okV c h=true∧zd (z03 c h).1=true:=by
 unfold z03 at h0;by_cases hr:zd c=true
 ·by_cases ho:okV c h=true
  ·obtain⟨i,gs,ws,hp,_⟩:=zk4 (zcI hr) ho;refine⟨hr,ho,?_⟩;unfold z03;simp only[hr,ho,Bool.not_true,Bool.false_eq_true,if_false];exact(hp.fits (zcI hr)).r
  ·simp[hr,ho]at h0
 ·simp[hr]at h0
theorem z17{l:Ln}:∀{k:Nat},(zn l k).2=0→zd (zn l k).1=true
 |0,h=>by rw[z2j]at*;exact zfe h
 |k+1,h=>by
  cases hk:l.hs[k]? with
  |none=>
   have:=List.getElem?_eq_none_iff.1 hk;rw[z9n (show l.hs.length≤k+1 by omega),←z9n this]at*;exact z17 h
  |some x=>
   rw[z3b hk]at*;by_cases h0:(zn l k).2=0
   ·rw[z3P x h0]at*;exact(z3x h).2.2
   ·rw[zgH x h0]at h;exact absurd h h0
theorem z0h{l:Ln}(h:zY l=true){k:Nat}(hk:k≤l.hs.length):(zn l k).2=0:=by
 unfold zY at h;simp only[Bool.and_eq_true,beq_iff_eq]at h;by_cases h0:(zn l k).2=0
 ·exact h0
 ·have:=z7y h0 hk;rw[this]at h;exact h.2
def ch0:Chg:=⟨0,[],[],[],ty0,[],[]⟩
def z7L(l:Ln)(i:Nat)(vals:List V):Nat→List V
 |0=>vals
 |n+1=>z1x (zn l (i+n)).1 (l.hs.getD (i+n) ch0) (z7L l i vals n)
theorem zdw{l:Ln}(hr:zY l=true){k:Nat}{h:Chg}(hk:l.hs[k]?=some h){vals:List V}(hf:FitC (zn l k).1 vals):
  okV (zn l k).1 h=true∧FitC (zn l (k+1)).1 (z1x (zn l k).1 h vals)∧z6h (zn l k).1 h vals=(z1x (zn l k).1 h vals,0):=by
 have hi:=(gJ hk).1;have h0:=z0h hr (k:=k) (by omega);have h1:=z0h hr (k:=k+1) (by omega);have hn:=z3b hk;rw[z3P h h0]at hn;rw[hn]at h1;obtain⟨a1,a2,_⟩:=z3x h1;obtain⟨i,gs,ws,hp,_⟩:=zk4 hf a2;refine⟨a2,?_,?_⟩
 ·have:=hp.fits hf;rw[hn];unfold z03;simpa [a1,a2]using this
 ·unfold z6h;rw[hf.chk,a2];rfl
theorem zdv{l:Ln}(hr:zY l=true){i:Nat}{vals:List V}(hf:FitC (zn l i).1 vals):∀n,i+n≤l.hs.length→FitC (zn l (i+n)).1 (z7L l i vals n)
 |0,_=>hf
 |n+1,h=>by
  have ih:=zdv hr hf n (by omega);have hk:l.hs[i+n]?=some l.hs[i+n]:=gE (by omega);have:=(zdw hr hk ih).2.1;unfold z7L;rw[List.getD_eq_getElem?_getD,hk];exact this
def z0y(ls:List Ln)(n:zB):Nat×Bool:=match ls.findIdx? (fun l=>l.c.n==n)with|some i=>(i,true)|none=>(0,false)
theorem zbx{ls:List Ln}{n:zB}{k:Nat}{x:Ln}(hx:ls[k]?=some x)(hp:(x.c.n==n)=true)(h:∀(i:Nat) y,i<k→ls[i]?=some y→(y.c.n==n)=false):z0y ls n=(k,true):=by
 have:ls.findIdx? (fun l=>l.c.n==n)=some k:=by
  grind [List.findIdx?_eq_some_iff_getElem]
 simp[z0y,this]
theorem zcb{ls:List Ln}{n:zB}(h:∀x∈ls,(x.c.n==n)=false):z0y ls n=(0,false):=by
 have:ls.findIdx? (fun l=>l.c.n==n)=none:=by
  grind [List.findIdx?_eq_none_iff]
 simp[z0y,this]
def zap(ls:List Ln)(i:Nat)(l:Ln):Bool:=decide ((z0y ls l.c.n).1<i)|| !zY l
def z8L(ls:List Ln):Nat→List Ln→Int×Int
 |_,[]=>(0,0)
 |i,l::r=>if zap ls i l then(i,80)else z8L ls (i+1) r
def z54(ls:List Ln):Int×Int:=if 8<ls.length then(8,80)else z8L ls 0 ls
theorem zdy(ls:List Ln)(i:Nat){l:Ln}(h:ls[i]?=some l):z8L ls i (ls.drop i)=if zap ls i l then((i:Int),80)else z8L ls (i+1) (ls.drop (i+1)):=by
 obtain⟨h1,h2⟩:=gJ h;rw[List.drop_eq_getElem_cons h1,h2];rfl
structure RightS(ls:List Ln):Prop where
 len:ls.length≤8
 line:∀l∈ls,zY l=true
 own:∀(i j:Nat) a b,ls[i]?=some a→ls[j]?=some b→a.c.n=b.c.n→i=j
theorem RightS.find{ls:List Ln}(h:RightS ls){k:Nat}{x:Ln}(hx:ls[k]?=some x):z0y ls x.c.n=(k,true):=
 zbx hx (beq_self_eq_true _) fun i y hi hy=>by
  rw[beq_eq_false_iff_ne];intro e;have:=h.own i k y x hy hx e;omega
theorem RightS.good{ls:List Ln}(h:RightS ls){k:Nat}{x:Ln}(hx:ls[k]?=some x):zap ls k x=false:=by
 unfold zap;rw[h.find hx,h.line x (gM hx)];simp
theorem RightS.check{ls:List Ln}(h:RightS ls):z54 ls=(0,0):=by
 unfold z54;rw[if_neg (by have:=h.len;omega)]
 suffices ∀n i,ls.length-i=n→z8L ls i (ls.drop i)=(0,0) from by
  have:=this _ 0 rfl
  rwa [List.drop_zero]at this
 intro n
 induction n with
 |zero=>intro i hi;rw[List.drop_eq_nil_of_le (by omega)];rfl
 |succ n ih=>
  intro i hi;rw[zdy ls i (gE (show i<ls.length by omega)),h.good (gE (by omega)),if_neg (by simp)];exact ih (i+1) (by omega)
end Go.Mor
end
