/- Merged texts: WrapB Open0 OpenS RawD OpenR PFits Pk1 Pk4 RawHD OpenH Wire1 Wire2 Wire3 Wire4 Wire5 Wire6 Pr1 PrA PrX WrapX Zm0 Cd7 Zm1 Zv3 Zm2 S28 S29 Zm3 Zm4 S30 Zm6 Zm7 Zm8 Zm9 Zm10 Zm5 Zm11 Zf5 Sn1 Sy5 Pt0 Cd2 Zt1 Zo5 Ze27 Zo1 Po1 Zo6. No statement of the program is proved here. -/
import Derived.Test.YtcpaleaajdilgaaGreatDoorM1
import Derived.Test.YtcpaleaajdilgaaGreatDoorM2
import Derived.Test.YtcpaleaajdilgaaGreatDoorM3
import Derived.Test.YtcpaleaajdilgaaGreatDoorM4
import Derived.Test.YtcpaleaajdilgaaGreatDoorM5
import Derived.Test.YtcpaleaajdilgaaGreatDoorCards
import Derived.Test.YtcpaleaajdilgaaGreatDoorTie
import Derived.Lib.LaidIn
import Derived.Lib.LaidU8T
import Derived.Deep.DeepHandedRow
import Derived.Deep.DeepWitnessRowRef
import Derived.ProofKit
import Derived.SizedLaws
import Derived.OpenShut
import Derived.Stop.LaidTwo
import Derived.Deep.Slices
import Derived.Deep.Fields
import Derived.ChangeSame
import Derived.SevenTiedAt
import Derived.PinnedBridge
import Derived.Shelf.Vars
import Derived.RangeFuncBound
import Derived.RangeFuncLeaves
import Derived.RangeFuncBox
import Derived.Shelf.Abstract
import Derived.Shelf.RegionOpen
import Derived.OwnWalkIn
import Derived.TacticsInMore
import Derived.LoopNIn
import Derived.LoopIn
import Derived.Maps.AppendAt
import Derived.LaidEql
import Derived.Stop.Asserts
import Derived.RowKitTokens
import Derived.Deep.QuietTactic
import Derived.BigQuiet
import Derived.Laws.OwnMore
import Derived.Shelf.RegionOpenPlain
import Derived.Deep.LoopGhost
import Derived.Lib.Walk
import Derived.Lib.SliceRun
import Derived.Lib.AppendZerosOnto
set_option linter.unusedSimpArgs false
set_option linter.unusedVariables false
section
namespace Go.Proofs.YtcpaleaajdilgaaGreatDoor
open Go.ChangeShapes Go.WideShapes Go.ChangeAt Go.RowKit Go.Lib Go.Mor Go.Deep
open Go.ChangeMaps (open_string shut_string)
theorem own:ownKnob Tryz.prog.godebug=none:=by kernel_rfl
theorem acc_eq:Rows.laid_unicode_utf8_acceptRanges=Lib.acceptData:=by kernel_rfl
theorem hv_of{W:World}(h:W.ShapedOpen Tryz.prog):10≤W.heap.size:=by
 obtain⟨o,o0,h1,_⟩:=h.2 10 (of_decide_eq_true (by kernel_rfl)) (of_decide_eq_true (by kernel_rfl));exact Nat.le_of_lt (gA h1).1
theorem globU_of{W:World}{L:List (String×DataW Unit)}(hL:laidMet Tryz.prog L W)(h1:("unicode/utf8.first",Rows.laid_unicode_utf8_first)∈L)(h2:("unicode/utf8.acceptRanges",Rows.laid_unicode_utf8_acceptRanges)∈L):GlobU W:=
 ⟨utf8Tabs_of_readsT (U8Types.of196 Tryz.laysValid) ⟨by kernel_rfl,by kernel_rfl,by kernel_rfl,by kernel_rfl,by kernel_rfl,by kernel_rfl,by kernel_rfl⟩ (by rw[←Pinned.utf8First_eq];exact Lib.laidMet.reads hL h1) (by rw[←acc_eq];exact Lib.laidMet.reads hL h2)⟩
def litsOf:DataW Unit→List Value
 | .agg l=>l.map fun x=>match x with| .lit y=>y.value|_=>undef
 |_=>[]
def textOf:DataW Unit→List UInt8
 | .iface _ (.ptr (.agg [.lit (.string l)]))=>l
 |_=>[]
noncomputable def laidWorld(os:Os):World:=
 let N:=(World.settled Tryz.prog os).heap.size
 let w0:=World.holding Tryz.prog os ⟨#[.cells #[.string ⟨(textOf Rows.laid_moraine_wire_errEnd).toArray⟩] 354,.cells #[.string ⟨(textOf Rows.laid_moraine_wire_errForm).toArray⟩] 354,.cells #[.string ⟨(textOf Rows.laid_strconv_ErrRange).toArray⟩] 354,.cells #[.string ⟨(textOf Rows.laid_strconv_ErrSyntax).toArray⟩] 354],#[],[]⟩
 let put (h:Array Obj) (g:Nat) (cs:Array Value):Array Obj:=h.modify g fun
  | .cells _ t frozen=> .cells cs t frozen
  |o=>o
 let h:=w0.heap
 let h:=put h 8 (litsOf Rows.laid_math_bits_deBruijn32tab).toArray
 let h:=put h 9 (litsOf Rows.laid_math_bits_deBruijn64tab).toArray
 let h:=put h 5 (litsOf Rows.laid_internal_strconv_uint64pow10).toArray
 let h:=put h 1 ((List.range 16).flatMap fun i=>[Value.int .u8 (Lib.accLo i),Value.int .u8 (Lib.accHi i)]).toArray
 let h:=put h 2 #[.iface 352 (.pointer (some ⟨N,0,none⟩))]
 let h:=put h 3 #[.iface 352 (.pointer (some ⟨N+1,0,none⟩))]
 let h:=put h 0 (Lib.firstTab.map fun z=>Value.int .u8 z).toArray
 let h:=put h 7 #[.iface 352 (.pointer (some ⟨N+2,0,none⟩))]
 let h:=put h 6 #[.iface 352 (.pointer (some ⟨N+3,0,none⟩))]
 { w0 with heap:=h }
noncomputable abbrev N0:Nat:=(World.settled Tryz.prog default).heap.size
theorem laidOut:laidOutB Tryz.prog=true:=by kernel_rfl
section
variable{H:Type}{enc:TypeId×Value→H}
theorem trodAll_stays{W W':World}(hb:Below W.heap.size W W'){sp:Nat→Bool}:∀{ts:List TypeId} {vs:List Value} {ds:List (DataW H)} {ps:List MemPlace},
  (ts.all fun t=>Tryz.prog.readableRec t&&decide (t<Tryz.prog.types.size))=true→DataW.TrodAll enc Tryz.prog W 0 (fun _=>true) true ts vs ds ps→(∀x∈ps,x.block<W.heap.size)→(∀x∈ps,sp x.block=true)→
  DataW.TrodAll enc Tryz.prog W' 0 sp true ts vs ds ps:=by
 intro ts
 induction ts with
 |nil=>
  intro vs ds ps _ h _ _;obtain⟨rfl,rfl,rfl⟩:=trodAll_nil h;exact trodAll_mk0
 |cons t ts ih=>
  intro vs ds ps hr h hlt hsp;obtain⟨v,vs',d,ds',p,q,rfl,rfl,rfl,h1,h2⟩:=trodAll_cons h;simp only[List.all_cons,Bool.and_eq_true,decide_eq_true_iff]at hr;refine trodAll_cons_mk (WideElems.Trod_stays laidOut hr.1.1 hr.1.2 h1 (fun x hx=>hb.same (hlt x (by simp[hx]))) (fun x hx=>hsp x (by simp[hx]))) (ih hr.2 h2 (fun x hx=>hlt x (by simp[hx])) (fun x hx=>hsp x (by simp[hx])))
theorem post_of_below{P:Program}{f:Func}{s:ChangeSpec}{apart fresh handsOn again:Bool}{W W':World}{args:Array Value}{v:Value}{ds gs:List (DataW H)}{before pa pv:List MemPlace}
  (hW:DataW.Whole enc P f.params.toList s.vars apart W args.toList ds gs before)
  (hres:∀(b:Nat) (sp:Nat→Bool) (hd:Bool),DataW.TrodAll enc P W' b sp hd f.resultTypes.toList (v.resultList f.resultTypes.size) (s.fn H (ds++gs)).results [])
  (hargs:∀sp:Nat→Bool,(∀p∈before,sp p.block=true)→DataW.TrodAll enc P W' 0 sp true f.params.toList args.toList (s.fn H (ds++gs)).args pa)
  (hvars:∀sp:Nat→Bool,(∀p∈before,sp p.block=true)→DataW.TrodVars enc P W' sp s.vars (s.fn H (ds++gs)).vars pv)
  (hps:before=pa++pv) (hb:Below W.heap.size W W')
  (hok:∀(j:Nat) (t:TypeId) (r:Value),f.resultTypes[j]?=some t→(v.resultList f.resultTypes.size)[j]?=some r→Value.okWide P W' .any 0 t r):
  s.post enc P f apart fresh handsOn again W args v W':=by
 have hlt:∀p∈before,p.block<W.heap.size:=fun p hp=>hW.lt p hp;have hold:∀p∈before,(fun b=>decide (b<W.heap.size)) p.block=true:=fun p hp=>by simpa using hlt p hp
 refine⟨ds,gs,before,[],pa,pv,hW,hres _ _ _,hargs _ hold,hvars _ hold,World.keptBut_mono (fun p hp=>⟨hp,?_⟩) (hb.frame (·∈before)),fun _=> ?_⟩
 ·rw[hps,List.mem_append]at hp;exact Or.inr hp
 ·obtain⟨_,_,_,_,_,hz,hn⟩:=hW;refine⟨hok,_,_,([]++pa)++pv,⟨[]++pa,pv,trodAll_append (hargs _ (fun _ _=>rfl)) (hres _ _ _),hvars _ (fun _ _=>rfl),rfl,?_,?_⟩,?_⟩
  ·intro b off hp;have hin:MemPlace.cell b off∈before:=by rw[hps];simpa using hp
   rw[hb.frozen (hlt _ hin)];exact hz b off hin
  ·intro ha;have:=hn ha;rw[hps]at this;simpa using this
  ·intro p hp _;rw[hps];simpa using hp
set_option maxRecDepth 100000 in
theorem lifts(f:FuncId)(fn:Func)(sp:ChangeSpec){W W':World}{args:Array Value}{ds gs:List (DataW H)}{before:List MemPlace}{fresh handsOn again:Bool}
  (hv:sp.vars=[]) (hr:(fn.params.toList.all fun t=>Tryz.prog.readableRec t&&decide (t<Tryz.prog.types.size))=true) (hres:fn.resultTypes= #[4])
  (hfn:sp.fn H (ds++[])={ results:=[.lit (.bool true)],args:=ds })
  (hW:DataW.Whole enc Tryz.prog fn.params.toList sp.vars false W args.toList ds gs before) (hb:Below W.heap.size W W'):
  sp.post enc Tryz.prog fn false fresh handsOn again W args (.bool true) W':=by
 have hW':=hW;obtain⟨p,q,hA,hV,rfl,_,_⟩:=hW;rw[hv]at hV;obtain⟨rfl,rfl⟩:=trodVars_none hV;have hlt:∀x∈p,x.block<W.heap.size:=fun x hx=>hW'.lt x (by simp[hx]);refine post_of_below (pa:=p) (pv:=[]) hW' (fun b sp' hd=> ?_) (fun sp' hsp=> ?_) (fun sp' hsp=> ?_) rfl hb ?_
 ·rw[hfn,hres];exact trodAll_mk1 (shut_bool Tryz.underlying4 _)
 ·rw[hfn];exact trodAll_stays hb hr hA hlt (fun x hx=>hsp x (by simp[hx]))
 ·rw[hfn,hv];rfl
 ·exact ok_one hres rfl (okWide_bool_mk Tryz.underlying4 _)
end
end Go.Proofs.YtcpaleaajdilgaaGreatDoor
end

section
namespace Go.Proofs.YtcpaleaajdilgaaGreatDoor
open Go.ChangeShapes Go.WideShapes Go.ChangeAt Go.RowKit Go.Lib Go.Mor Go.Deep Go.Joins
open Go.Sh (RelT RelV TV PV SCalls Env MSim objB objR objX Low)
open Go.ChangeMaps (open_string shut_string)
def envAll(w:World):Env:=⟨fun k _=>k<w.heap.size,fun _=>0,fun _=>none,fun _=>0⟩
theorem objB_nil(d:Nat):objB [] d=none:=by simp[objB]
theorem objR_nil(d:Nat):objR [] d=none:=by simp[objR]
theorem calls_of_sc{P:Program}{f:Nat}{xs:List TV}{vs:List Value}{w:World}{g:Go.Sh.Glob}{b:Value}(h:SCalls P g f xs [] (.pv (.v b)) [])(hG:g.G w)(hl:xs.length=vs.length)
  (hr:∀(j:Nat) x v,xs[j]?=some x→vs[j]?=some v→RelT w (envAll w) (objR []) x v):Calls P f vs.toArray w fun e w'=>e=.returned b∧Below w.heap.size w w':=by
 have hX:∀d k,¬objX (envAll w) [] d k:=by
  rintro d k (⟨cs,h1,_⟩|⟨q,cap,h1,_⟩)
  ·rw[objB_nil]at h1;cases h1
  ·rw[objR_nil]at h1;cases h1
 refine(h.2 w (envAll w) vs hG ?_ (fun d k hd=>absurd hd (hX d k)) hl hr).mono ?_
 ·refine⟨fun d cs hd=> ?_,fun d e W n hd=> ?_,fun d d' cs cs' hd=> ?_,fun d d' cs q k cap hd=> ?_,fun d d' q q' k cap cap' hd=> ?_,fun k o hk=>hk,⟨rfl,rfl,rfl,Nat.le_refl _,fun _ _ _=>rfl⟩,fun k o u hk hu=>⟨hk,hu⟩,fun k o hk=> .inl hk,?_⟩
  ·rw[objB_nil]at hd;cases hd
  ·rw[objR_nil]at hd;cases hd
  ·rw[objB_nil]at hd;cases hd
  ·rw[objB_nil]at hd;cases hd
  ·rw[objR_nil]at hd;cases hd
  ·have hold:∀d,¬(Go.Sh.start w (envAll w) [] 0).old d:=fun d h=>by have h1:1000≤d∧d<1000+0:=h;omega
   constructor<;>(intros;first|(exfalso;apply hold;assumption)|rfl)
 ·rintro e w' ⟨v,E',rfl,hm,hv,_⟩;obtain rfl:=Go.Sh.val_rel (y:=b) hv rfl;exact⟨rfl,hm.low.os,hm.low.tape,hm.low.output,hm.low.size,fun k hk=>hm.low.block k hk (fun d=>hX d k)⟩
end Go.Proofs.YtcpaleaajdilgaaGreatDoor
end

section
namespace Go.Proofs.YtcpaleaajdilgaaGreatDoor
open Go.RowKit Go.Lib
theorem str_len{s:ByteArray}(h:s.size≤maxLen):s.data.toList.length≤9223372036854775807:=by
 have:s.data.toList.length=s.size:=Array.length_toList;unfold maxLen at h;omega
end Go.Proofs.YtcpaleaajdilgaaGreatDoor
end

section
namespace Go.Proofs.YtcpaleaajdilgaaGreatDoor
open Go Go.RowKit Go.Mor Go.Sh
def rfR1(r:RawF):List PV:=[.v (.int .i64 r.n),.v (.int .i64 r.k),.v (.int .i64 r.o),.v (.bool r.ix)]
def rfR(l:List RawF):List (List PV):=l.map rfR1
def rawT(x:Raw):TV:=.agg [.pv (.v (.int .i64 x.n)),.pv (.sl 4 (rfR x.fs))]
structure RawOk(x:Raw):Prop where
 n:I64 x.n
 fs:∀r∈x.fs,I64 r.n∧I64 r.k∧I64 r.o
 len:x.fs.length≤9223372036854775807
theorem rfGet(l:List RawF)(k:Nat):(rfR l)[k]?=(l[k]?).map rfR1:=by unfold rfR;rw[List.getElem?_map]
theorem rfLen(l:List RawF):(rfR l).length=l.length:=by unfold rfR;rw[List.length_map]
theorem class_step(l:List RawF)(i:Nat)(r:RawF)(h:l[i]?=some r):(l.take (i+1)).foldl addF []=addF ((l.take i).foldl addF []) r:=by
 rw[List.take_add_one,h];simp only[Option.toList_some,List.foldl_append,List.foldl_cons,List.foldl_nil]
theorem class_len(l:List RawF)(i:Nat):((l.take i).foldl addF []).length≤i:=by
 induction i with
 |zero=>simp
 |succ i ih=>
  cases h:l[i]? with
  |none=>
   have h1:l.take (i+1)=l.take i:=by rw[List.take_add_one,h];simp
   rw[h1];omega
  |some r=>
   rw[class_step l i r h];generalize(l.take i).foldl addF []=acc at ih ⊢;unfold addF;split
   ·rw[List.length_append,List.length_singleton];omega
   ·omega
theorem nmF_at{i:Nat}(h:i<6):([[PV.v (.string ⟨#[97]⟩)],[.v (.string ⟨#[98,50]⟩)],[.v (.string ⟨#[110,97,109,101]⟩)],[.v (.string ⟨#[110,101,120,116,95,111,110,101]⟩)],[.v (.string ⟨#[107,105,100,115]⟩)],[.v (.string ⟨#[120]⟩)]]:List (List PV))[i]?=some [.v (.string (str (nmF (i:Int))))]:=by
 have:i=0∨i=1∨i=2∨i=3∨i=4∨i=5:=by omega
 rcases this with rfl|rfl|rfl|rfl|rfl|rfl<;>rfl
theorem nmC_at{i:Nat}(h:i<6):([[PV.v (.string ⟨#[110,111,100,101]⟩)],[.v (.string ⟨#[105,116,101,109]⟩)],[.v (.string ⟨#[117,115,101,114]⟩)],[.v (.string ⟨#[112,97,103,101,95,49]⟩)],[.v (.string ⟨#[108,101,97,102]⟩)],[.v (.string ⟨#[113]⟩)]]:List (List PV))[i]?=some [.v (.string (str (nmC (i:Int))))]:=by
 have:i=0∨i=1∨i=2∨i=3∨i=4∨i=5:=by omega
 rcases this with rfl|rfl|rfl|rfl|rfl|rfl<;>rfl
end Go.Proofs.YtcpaleaajdilgaaGreatDoor
end

section
namespace Go.Proofs.YtcpaleaajdilgaaGreatDoor.OpR
open Go.ChangeShapes Go.WideShapes Go.ChangeAt Go.RowKit Go.Lib Go.Mor Go.Deep Go.Joins
open Go.ChangeMaps (open_string shut_string)
theorem list_of{α:Type}{n:Nat}{Q:Nat→α→Prop}(h:∀i,i<n→∃r,Q i r):∃l:List α,l.length=n∧∀(i:Nat) r,l[i]?=some r→Q i r:=by
 induction n with
 |zero=>exact⟨[],rfl,by simp⟩
 |succ n ih=>
  obtain⟨l,hl,hq⟩:=ih fun i hi=>h i (by omega);obtain⟨r,hr⟩:=h n (by omega);refine⟨l++[r],by simp[hl],fun i x hx=> ?_⟩;rw[List.getElem?_append]at hx;split at hx
  ·exact hq i x hx
  ·rw[List.getElem?_singleton]at hx;split at hx
   ·injection hx with hx;subst hx
    obtain rfl:i=n:=by omega
    exact hr
   ·cases hx
section
variable{H:Type}{enc:TypeId×Value→H}{P:Program}{w:World}{base:Nat}{spare:Nat→Bool}{held:Bool}
theorem open_fields{t e:TypeId}{fs:Array Field}{fuel:Nat}{cs:List Value}{x:DataW H×List MemPlace}(ht:P.underlying t=some (.slice e))(he:P.underlying e=some (.struct fs))
  (hone:oneCellFields P fs=true) (hC:P.cellsOf e=fs.size) (h:DataW.trod enc P w base spare held fuel t cs=some x):
  (cs=[.slice none 0 0])∨
  ∃(a:Addr) (len cap:Nat),cs=[.slice (some a) len cap]∧len≤cap∧cap≤maxLen∧
   ∀i,i<len→∃n,∀(j:Nat) (f:Field),fs[j]?=some f→∃(v:Value) (y:DataW H×List MemPlace),w.cell? (a.add (i*fs.size+j))=some v∧DataW.trod enc P w base spare held n f.type [v]=some y:=by
 rcases open_slice ht h with h0|⟨a,len,cap,m,n,D,Pl,hcs,hb,hl,hm,hmm,hx,hi⟩
 ·exact .inl h0.1
 ·refine .inr ⟨a,len,cap,hcs,hl,hm,fun i him=> ?_⟩;obtain⟨cs',hc,ht'⟩:=hi i (by rw[hmm];split<;>omega);rw[hC]at hc;obtain⟨ys,n',hn',hy,hlen,hyl,hf⟩:=DataW.trod_struct he ht';obtain⟨_,hcl,hat⟩:=World.cells?_some hc;refine⟨n',fun j f hj=> ?_⟩;obtain⟨ho,hk⟩:=hone_of hone j f hj;have hjl:j<fs.size:=(gA hj).1;have hcell:=hat j hjl;have hv:cs'[j]?=some (cs'[j]'(by omega)):=gE (by omega);have h1:=hf j f hj;rw[ho,hk]at h1;have hone':(cs'.drop j).take 1=[cs'[j]'(by omega)]:=by
   rw[List.drop_eq_getElem_cons (by omega)];rfl
  rw[hone']at h1;have hys:ys[j]?=some (ys[j]'(by omega)):=gE (by omega);refine⟨_,_,?_,h1.trans hys⟩;rw[←Go.Deep.add_add,hcell,hv]
end
theorem add_form{a:Addr}{w:World}{k:Nat}{v:Value}(h0:w.cell? a=some v):a=⟨a.block,a.off,none⟩∧a.add k=⟨a.block,a.off+k,none⟩:=by
 have:=World.cell?_spot h0;obtain⟨b,off,spot⟩:=a;simp at this;subst this;exact⟨rfl,Go.WideShapes.add_plain ..⟩
end Go.Proofs.YtcpaleaajdilgaaGreatDoor.OpR
namespace Go.Proofs.YtcpaleaajdilgaaGreatDoor
open Go.ChangeShapes Go.WideShapes Go.ChangeAt Go.RowKit Go.Lib Go.Mor Go.Deep Go.Joins
open Go.Sh (RelT RelV TV PV SCalls Env MSim objB objR objX Low)
open Go.ChangeMaps (open_string shut_string)
open Go.Proofs.YtcpaleaajdilgaaGreatDoor.OpR
section
variable{H:Type}{enc:TypeId×Value→H}
theorem open_rfs{W:World}{base:Nat}{spare:Nat→Bool}{held:Bool}{fuel:Nat}{c:Value}{y:DataW H×List MemPlace}(h:DataW.trod enc Tryz.prog W base spare held fuel 22 [c]=some y):
  ∃l:List RawF,(∀r∈l,I64 r.n∧I64 r.k∧I64 r.o)∧l.length≤9223372036854775807∧RelV W (envAll W).K (.sl 4 (rfR l)) c:=by
 rcases open_fields Tryz.underlying22 Tryz.underlying95 (by kernel_rfl) (by kernel_rfl) h with h0|⟨a,len,cap,hcs,hl,hm,hi⟩
 ·obtain rfl:c=.slice none 0 0:=by simpa using h0
  exact⟨[],by simp,by simp,.sl 4 [] 0 0 0 none (fun _ _=>undef) (by simp) (by simp) (by simp) (by simp) (by simp) (by simp)⟩
 ·obtain rfl:c=.slice (some a) len cap:=by simpa using hcs
  have key:∀i,i<len→∃r:RawF,(I64 r.n∧I64 r.k∧I64 r.o)∧a=⟨a.block,a.off,none⟩∧W.cell? ⟨a.block,a.off+i*4,none⟩=some (.int .i64 r.n)∧W.cell? ⟨a.block,a.off+i*4+1,none⟩=some (.int .i64 r.k)
    ∧W.cell? ⟨a.block,a.off+i*4+2,none⟩=some (.int .i64 r.o)∧W.cell? ⟨a.block,a.off+i*4+3,none⟩=some (.bool r.ix):=by
   intro i hlt;obtain⟨n0,hf0⟩:=hi 0 (by omega);obtain⟨v,y,hc0,_⟩:=hf0 0 _ rfl;have ha:a=⟨a.block,a.off,none⟩:=(add_form (k:=0) (by simpa [Addr.add]using hc0)).1;have hadd:∀k,a.add k=⟨a.block,a.off+k,none⟩:=fun k=>(add_form (k:=k) (by simpa [Addr.add]using hc0)).2;obtain⟨n,hf⟩:=hi i hlt;obtain⟨v0,y0,c0,t0⟩:=hf 0 _ rfl;obtain⟨v1,y1,c1,t1⟩:=hf 1 _ rfl;obtain⟨v2,y2,c2,t2⟩:=hf 2 _ rfl;obtain⟨v3,y3,c3,t3⟩:=hf 3 _ rfl;obtain⟨z0,e0,_,w0⟩:=DataW.trod_int Tryz.underlying3 t0;obtain⟨z1,e1,_,w1⟩:=DataW.trod_int Tryz.underlying3 t1;obtain⟨z2,e2,_,w2⟩:=DataW.trod_int Tryz.underlying3 t2;obtain⟨z3,e3,_⟩:=DataW.trod_bool Tryz.underlying4 t3;simp at e0 e1 e2 e3;subst e0 e1 e2 e3;rw[hadd]at c0 c1 c2 c3;exact⟨⟨z0,z1,z2,z3⟩,⟨bounds_i64 w0,bounds_i64 w1,bounds_i64 w2⟩,ha,c0,c1,c2,c3⟩
  obtain⟨l,hlen,hq⟩:=list_of key;refine⟨l,fun r hr=> ?_,by unfold maxLen at hm;omega,?_⟩
  ·obtain⟨i,hi⟩:=List.getElem?_of_mem hr;exact(hq i r hi).1
  ·have hL:(rfR l).length=len:=by rw[rfLen,hlen]
   rw[←hL];have cell:∀(i j:Nat) cs q,(rfR l)[i]?=some cs→cs[j]?=some q→∃u,q=.v u∧W.cell? ⟨a.block,a.off+i*4+j,none⟩=some u∧Go.Sh.one u:=by
    intro i j cs q h1 h2;rw[rfGet,Option.map_eq_some_iff]at h1;obtain⟨r,hr,rfl⟩:=h1;obtain⟨_,_,c0,c1,c2,c3⟩:=hq i r hr
    match j with
    |0=>simp[rfR1]at h2;subst h2;exact⟨_,rfl,c0,rfl⟩
    |1=>simp[rfR1]at h2;subst h2;exact⟨_,rfl,c1,rfl⟩
    |2=>simp[rfR1]at h2;subst h2;exact⟨_,rfl,c2,rfl⟩
    |3=>simp[rfR1]at h2;subst h2;exact⟨_,rfl,c3,rfl⟩
    |j+4=>simp[rfR1]at h2
   refine .sl 4 (rfR l) a.block a.off cap (some a) (fun i j=>(W.cell? ⟨a.block,a.off+i*4+j,none⟩).getD undef) (fun hne=> ?_) (by omega) hm (fun cs hcs=> ?_) (fun i j cs q h1 h2=> ?_) (fun i j cs q h1 h2=> ?_)
   ·obtain⟨r,hr⟩:∃r,l[0]?=some r:=by
     cases l with
     |nil=>exact absurd rfl hne
     |cons r q=>exact⟨r,rfl⟩
    rw[(hq 0 r hr).2.1]
   ·obtain⟨r,_,rfl⟩:=List.mem_map.1 hcs;rfl
   ·obtain⟨u,_,hu,ho⟩:=cell i j cs q h1 h2;rw[hu];exact⟨z68 (a:=⟨a.block,a.off+i*4+j,none⟩) hu,rfl,ho⟩
   ·obtain⟨u,rfl,hu,ho⟩:=cell i j cs q h1 h2;rw[hu];exact .v u
set_option maxRecDepth 100000 in
theorem open_raw4{W:World}{b0 base:Nat}{spare:Nat→Bool}{held:Bool}{v:Value}{d:DataW H}{p:List MemPlace}(hok:Value.okWide Tryz.prog W .any b0 24 v)(h:DataW.Trod enc Tryz.prog W base spare held 24 v d p):
  ∃x:Raw,RawOk x∧∀r,RelT W (envAll W) r (rawT x) v:=by
 obtain⟨c0,c1,y0,y1,m,rfl,_,_,hy0,hy1⟩:=open_agg2 Tryz.underlying24 (by kernel_rfl) (by kernel_rfl) hok h;obtain⟨z0,e0,_,w0⟩:=DataW.trod_int Tryz.underlying3 hy0;obtain rfl:c0=_:=by simpa using e0
 obtain⟨l,hl,hlen,hr⟩:=open_rfs hy1;refine⟨⟨z0,l⟩,⟨bounds_i64 w0,hl,hlen⟩,fun r=> ?_⟩;unfold rawT;refine .agg _ [_,c1] rfl (fun j q u hq hu=> ?_) (fun u hu=> ?_)
 ·match j with
  |0=>simp at hq hu;subst hq;subst hu;exact .pv (.v _)
  |1=>simp at hq hu;subst hq;subst hu;exact .pv hr
  |j+2=>simp at hq
 ·simp at hu;rcases hu with rfl|rfl
  ·rfl
  ·cases hr;rfl
end
end Go.Proofs.YtcpaleaajdilgaaGreatDoor
end

section
namespace Go.Mor
open Go Go.RowKit
set_option maxHeartbeats 1000000
theorem fits_zero(t:Ty)(ht:z17 t=true):fitsV (zeroV t) t=true:=by
 obtain⟨k,o⟩:=t;by_cases h5:k=5
 ·subst h5;simp[zeroV,ht,fitsV,rightV,ofKind,V.k,V.n,V.s,V.l]
 ·have hk:(1≤k∧k≤4)∧o=0:=by simp[z17,h5]at ht;omega
  obtain⟨hk,rfl⟩:=hk;have:k=1∨k=2∨k=3∨k=4:=by omega
  rcases this with rfl|rfl|rfl|rfl<;>rfl
def other:List UInt8:=[111,116,104,101,114]
end Go.Mor
end

section
namespace Go.Mor
open Go
structure Chg where
 k:Int
 f:List UInt8
 n:List UInt8
 m:List UInt8
 t:Ty
 x:List UInt8
 o:List UInt8
def rdV(s:List UInt8):V×Int×Int:=(parseV 1000 s).getD (V.nil,0,50)
structure Nd where
 f:Bool
 n:Bool
 m:Bool
 t:Bool
 x:Bool
 o:Bool
 ok:Bool
def needV(k:Int):Nd:=
 if k=1 then⟨false,true,false,true,true,false,true⟩
 else if k=2∨k=6 then⟨true,false,false,false,false,false,true⟩
 else if k=3 then⟨true,true,false,false,false,false,true⟩
 else if k=4 then⟨true,false,false,true,true,false,true⟩
 else if k=5 then⟨true,true,true,true,true,true,true⟩
 else⟨false,false,false,false,false,false,false⟩
def nameV(s:List UInt8)(b:Bool):Bool:=if b then z11 s else s==[]
def formV(s:List UInt8)(b:Bool):Bool:=if s==[] then true else if b then decide ((rdV s).2.2=0)else false
def wellV(h:Chg):Bool:=
 (needV h.k).ok&&nameV h.f (needV h.k).f&&nameV h.n (needV h.k).n&&nameV h.m (needV h.k).m&&(if(needV h.k).t then z17 h.t else eqTy h.t ty0)&&formV h.x (needV h.k).x&&formV h.o (needV h.k).o
inductive Tl where
 |no
 |zero
 |ev (e:V)
def tellV(c:Cls)(s:List UInt8)(t:Ty):Tl:=
 if s=[] then .zero else if(rdV s).2.2≠0 then .no else if(typeA c (rdV s).1).2=0∧eqTy (typeA c (rdV s).1).1 t=true then .ev (rdV s).1 else .no
def Tl.is:Tl→Bool
 | .no=>false
 |_=>true
def Tl.val(c:Cls)(t:Ty)(vals:List V):Tl→V
 | .no=>V.nil
 | .zero=>zeroV t
 | .ev e=>(evalA c vals e).1
def hasV(fs:List Fld)(s:List UInt8):Bool:= !decide (fieldAt fs s<0)
def freeV(fs:List Fld)(s but:List UInt8):Bool:=decide (fieldAt fs s<0)||s==but
def atV(fs:List Fld)(s:List UInt8):Nat:=(fieldAt fs s).toNat
def fld0:Fld:=⟨[],ty0,false⟩
def mayV(c:Cls)(h:Chg):Bool:=
 if h.k=1 then decide (c.fs.length<8)&&freeV c.fs h.n []&&(tellV c h.x h.t).is
 else if h.k=2 then hasV c.fs h.f
 else if h.k=3 then hasV c.fs h.f&&freeV c.fs h.n []
 else if h.k=4 then hasV c.fs h.f&&(tellV c h.x h.t).is
 else if h.k=5 then hasV c.fs h.f&&decide (c.fs.length<8)&& !(h.n==h.m)&&freeV c.fs h.n h.f&&freeV c.fs h.m h.f&&(tellV c h.x h.t).is&&(tellV c h.o h.t).is
 else hasV c.fs h.f&&decide ((c.fs.getD (atV c.fs h.f) fld0).t.k≤3)
def putL{α:Type}(l:List α)(i:Nat)(xs:List α):List α:=l.take i++xs++l.drop (i+1)
def fieldsV(c:Cls)(h:Chg):List Fld:=
 let i:=atV c.fs h.f
 let f:=c.fs.getD i fld0
 if h.k=1 then c.fs++[⟨h.n,h.t,false⟩]
 else if h.k=2 then putL c.fs i []
 else if h.k=3 then putL c.fs i [⟨h.n,f.t,f.ix⟩]
 else if h.k=4 then putL c.fs i [⟨f.n,h.t,false⟩]
 else if h.k=5 then putL c.fs i [⟨h.n,h.t,false⟩,⟨h.m,h.t,false⟩]
 else putL c.fs i [⟨f.n,f.t, !f.ix⟩]
def valsV(c:Cls)(h:Chg)(vals:List V):List V:=
 let i:=atV c.fs h.f
 let a:=(tellV c h.x h.t).val c h.t vals
 let b:=(tellV c h.o h.t).val c h.t vals
 if h.k=1 then vals++[a]
 else if h.k=2 then putL vals i []
 else if h.k=4 then putL vals i [a]
 else if h.k=5 then putL vals i [a,b]
 else vals
def okV(c:Cls)(h:Chg):Bool:=z23 c&&wellV h&&mayV c h
def applyV(c:Cls)(h:Chg):Cls×Int:=if !z23 c then(⟨[],[]⟩,40)else if !okV c h then(⟨[],[]⟩,70)else(⟨c.n,fieldsV c h⟩,0)
def valsA(c:Cls)(h:Chg)(vals:List V):List V×Int:=if(check c vals).2≠0 then([],(check c vals).2)else if !okV c h then([],70)else(valsV c h vals,0)
def fldGo(fs:List Fld)(n:Nat)(t:Ty):Nat→Nat→Option (List UInt8)
 |0,_=>none
 |k+1,i=>if eqTy (fs.getD ((n+i)%fs.length) fld0).t t then some (fs.getD ((n+i)%fs.length) fld0).n else fldGo fs n t k (i+1)
def fldH(c:Cls)(n:Int)(t:Ty):Option (List UInt8):=fldGo c.fs (pick n 100).toNat t c.fs.length 0
def numX(a b:List UInt8):List (List UInt8):=[[],[51],a,a++[32,42,32,50,32,45,32,49],[108,101,110,40]++b++[41],[105,102,40]++a++[32,62,32,50,44,32]++a++[44,32,48,32,45,32]++a++[41],[102,105,110,100,40,34,98,34,44,32]++b++[41],a++[32,47,32]++a]
def txtX(a b:List UInt8):List (List UInt8):=[[],[34,120,34],b,b++[32,38,32,34,45,34,32,38,32]++b,[116,101,120,116,40]++a++[41],[108,101,102,116,40]++b++[44,32,50,41],[102,114,111,109,40]++b++[44,32,51,41],[105,102,40]++a++[32,61,32,49,44,32]++b++[44,32,34,110,111,34,41]]
def numH(c:Cls)(n:Int):List UInt8:=(fldH c n ⟨1,0⟩).getD [55]
def txtH(c:Cls)(n:Int):List UInt8:=(fldH c (n.tdiv 2) ⟨2,0⟩).getD [34,97,32,98,34]
def exprH(n:Int)(t:Ty)(c:Cls):List UInt8:=
 if t.k=1 then(numX (numH c n) (txtH c n)).getD (pick n 8).toNat []
 else if t.k=2 then(txtX (numH c n) (txtH c n)).getD (pick n 8).toNat []
 else match fldH c n t with
  |some s=>if 0<pick n 3 then s else []
  |none=>[]
structure RawH where
 k:Int
 f:Int
 n:Int
 m:Int
 t:Ty
 x:Int
 o:Int
def nmH(i:Int):List UInt8:=([[110,101,119,95,49],[109,111,114,101],[122,57],[97],[110,97,109,101],[107,105,100,115]]:List (List UInt8)).getD i.toNat []
def tyH(t:Ty):Ty:=⟨1+pick t.k 5,if pick t.k 5=4 then 1+pick t.o 4 else 0⟩
def chgOf(x:RawH)(c:Cls):Chg:=
 let f:=if c.fs=[] then [] else(c.fs.getD (pick x.f c.fs.length).toNat fld0).n
 let k:=1+pick x.k 6
 let t:=tyH x.t
 let e:=exprH x.x t c
 if k=1 then⟨k,[],nmH (pick x.n 6),[],t,e,[]⟩
 else if k=3 then⟨k,f,nmH (pick x.n 6),[],ty0,[],[]⟩
 else if k=4 then⟨k,f,[],[],t,e,[]⟩
 else if k=5 then⟨k,f,nmH (pick x.n 6),nmH (pick x.m 6),t,e,exprH x.o t c⟩
 else⟨k,f,[],[],ty0,[],[]⟩
def nmL:List (List UInt8):=[[97],[98,50],[110,97,109,101],[110,101,120,116,95,111,110,101],[107,105,100,115],[120]]
def numL:List (List UInt8):=[55]::nmL
def txtL:List (List UInt8):=[34,97,32,98,34]::nmL
def exA(a:List UInt8):List (List UInt8):=[a++[32,42,32,50,32,45,32,49],[105,102,40]++a++[32,62,32,50,44,32]++a++[44,32,48,32,45,32]++a++[41],a++[32,47,32]++a,[116,101,120,116,40]++a++[41]]
def exB(b:List UInt8):List (List UInt8):=[[108,101,110,40]++b++[41],[102,105,110,100,40,34,98,34,44,32]++b++[41],b++[32,38,32,34,45,34,32,38,32]++b,[108,101,102,116,40]++b++[44,32,50,41],[102,114,111,109,40]++b++[44,32,51,41]]
def exC(a b:List UInt8):List UInt8:=[105,102,40]++a++[32,61,32,49,44,32]++b++[44,32,34,110,111,34,41]
def exN:List (List UInt8):=[55]::[34,97,32,98,34]::nmL++[[51],[34,120,34]]
def exL:List (List UInt8):=exN++numL.flatMap exA++txtL.flatMap exB++numL.flatMap fun a=>txtL.map (exC a)
theorem exN_a{a:List UInt8}(h:a∈numL):a∈exL:=by
 refine List.mem_append_left _ (List.mem_append_left _ (List.mem_append_left _ ?_))
 grind [exN,numL]
theorem exN_b{b:List UInt8}(h:b∈txtL):b∈exL:=by
 refine List.mem_append_left _ (List.mem_append_left _ (List.mem_append_left _ ?_))
 grind [exN,txtL]
theorem exN_n{e:List UInt8}(h:e∈exN):e∈exL:=List.mem_append_left _ (List.mem_append_left _ (List.mem_append_left _ h))
theorem exL_a{a e:List UInt8}(h:a∈numL)(he:e∈exA a):e∈exL:=List.mem_append_left _ (List.mem_append_left _ (List.mem_append_right _ (List.mem_flatMap.2 ⟨a,h,he⟩)))
theorem exL_b{b e:List UInt8}(h:b∈txtL)(he:e∈exB b):e∈exL:=List.mem_append_left _ (List.mem_append_right _ (List.mem_flatMap.2 ⟨b,h,he⟩))
theorem exL_c{a b:List UInt8}(ha:a∈numL)(hb:b∈txtL):exC a b∈exL:=List.mem_append_right _ (List.mem_flatMap.2 ⟨a,ha,List.mem_map.2 ⟨b,hb,rfl⟩⟩)
theorem numX_ex{a b:List UInt8}(ha:a∈numL)(hb:b∈txtL){e:List UInt8}(he:e∈numX a b):e=[]∨e∈exL:=by
 unfold numX at he;simp only[List.mem_cons,List.not_mem_nil,or_false]at he;rcases he with rfl|rfl|rfl|rfl|rfl|rfl|rfl|rfl
 ·simp
 ·exact .inr (exN_n (by decide))
 ·grind [exN_a]
 ·grind [exL_a,exA]
 ·grind [exL_b,exB]
 ·grind [exL_a,exA]
 ·grind [exL_b,exB]
 ·grind [exL_a,exA]
theorem txtX_ex{a b:List UInt8}(ha:a∈numL)(hb:b∈txtL){e:List UInt8}(he:e∈txtX a b):e=[]∨e∈exL:=by
 unfold txtX at he;simp only[List.mem_cons,List.not_mem_nil,or_false]at he;rcases he with rfl|rfl|rfl|rfl|rfl|rfl|rfl|rfl
 ·simp
 ·exact .inr (exN_n (by decide))
 ·grind [exN_b]
 ·grind [exL_b,exB]
 ·exact .inr (exL_a ha (by simp[exA]))
 ·exact .inr (exL_b hb (by simp[exB]))
 ·exact .inr (exL_b hb (by simp[exB]))
 ·exact .inr (exL_c ha hb)
theorem fldGo_mem{fs:List Fld}(hne:fs≠[]){n:Nat}{t:Ty}:∀{k i:Nat} {s:List UInt8},fldGo fs n t k i=some s→∃f∈fs,f.n=s∧eqTy f.t t=true
 |0,_,s,h=>by cases h
 |k+1,i,s,h=>by
  rw[fldGo]at h;split at h
  ·grind [Nat.mod_lt,List.length_pos_iff,List.getElem_mem,List.getElem?_eq_getElem]
  ·exact fldGo_mem hne h
theorem fldH_mem{c:Cls}{n:Int}{t:Ty}{s:List UInt8}(h:fldH c n t=some s):∃f∈c.fs,f.n=s∧eqTy f.t t=true:=by
 unfold fldH at h;refine fldGo_mem (fun e=> ?_) h;rw[e]at h;cases h
theorem numH_mem{c:Cls}(hc:∀f∈c.fs,f.n∈nmL)(n:Int):numH c n∈numL:=by
 unfold numH;cases h:fldH c n ⟨1,0⟩ with
 |none=>exact List.mem_cons_self ..
 |some s=>
  obtain⟨f,hf,rfl,_⟩:=fldH_mem h;exact List.mem_cons_of_mem _ (hc f hf)
theorem txtH_mem{c:Cls}(hc:∀f∈c.fs,f.n∈nmL)(n:Int):txtH c n∈txtL:=by
 unfold txtH;cases h:fldH c (n.tdiv 2) ⟨2,0⟩ with
 |none=>exact List.mem_cons_self ..
 |some s=>
  obtain⟨f,hf,rfl,_⟩:=fldH_mem h;exact List.mem_cons_of_mem _ (hc f hf)
theorem exprH_mem{c:Cls}(hc:∀f∈c.fs,f.n∈nmL)(n:Int)(t:Ty):exprH n t c=[]∨exprH n t c∈exL:=by
 unfold exprH;split
 ·grind [numX,numH,txtH,pick,numX_ex,numH_mem,txtH_mem]
 split
 ·grind [txtX,numH,txtH,pick,txtX_ex,numH_mem,txtH_mem]
 cases h:fldH c n t with
 |none=>simp
 |some s=>
  obtain⟨f,hf,rfl,_⟩:=fldH_mem h
  dsimp only
  split
  ·exact .inr (exN_a (List.mem_cons_of_mem _ (hc f hf)))
  ·simp
end Go.Mor
end

section
namespace Go.Proofs.YtcpaleaajdilgaaGreatDoor
open Go Go.RowKit Go.Mor Go.Sh
structure RawHOk(r:RawH):Prop where
 k:I64 r.k
 f:I64 r.f
 n:I64 r.n
 m:I64 r.m
 tk:I64 r.t.k
 ot:I64 r.t.o
 x:I64 r.x
 o:I64 r.o
def rawHT(x:RawH):TV:=.agg [I x.k,I x.f,I x.n,I x.m,I x.t.k,I x.t.o,I x.x,I x.o]
end Go.Proofs.YtcpaleaajdilgaaGreatDoor
end

section
namespace Go.Proofs.YtcpaleaajdilgaaGreatDoor
open Go.ChangeShapes Go.WideShapes Go.ChangeAt Go.RowKit Go.Lib Go.Mor Go.Deep Go.Joins
open Go.Sh (RelT RelV TV PV SCalls Env MSim objB objR objX Low)
open Go.ChangeMaps (open_string shut_string)
section
variable{H:Type}{enc:TypeId×Value→H}
theorem lenH2{α:Type}{l:List α}(h:l.length=2):∃a b,l=[a,b]:=by
 match l,h with
 |[a,b],_=>exact⟨a,b,rfl⟩
theorem lenH7{α:Type}{l:List α}(h:l.length=7):∃a b c d e f g,l=[a,b,c,d,e,f,g]:=by
 match l,h with
 |[a,b,c,d,e,f,g],_=>exact⟨a,b,c,d,e,f,g,rfl⟩
theorem lenH8{α:Type}{l:List α}(h:l.length=8):∃a b c d e f g i,l=[a,b,c,d,e,f,g,i]:=by
 match l,h with
 |[a,b,c,d,e,f,g,i],_=>exact⟨a,b,c,d,e,f,g,i,rfl⟩
theorem open_tyH{W:World}{base:Nat}{spare:Nat→Bool}{held:Bool}{n:Nat}{cs:List Value}{y:DataW H×List MemPlace}(h:DataW.trod enc Tryz.prog W base spare held n 46 cs=some y):
  ∃t:Ty,cs=[.int .i64 t.k,.int .i64 t.o]∧I64 t.k∧I64 t.o:=by
 obtain⟨xs,n',rfl,_,hlen,hxl,hf⟩:=DataW.trod_struct Tryz.underlying46 h;obtain⟨c0,c1,rfl⟩:=lenH2 (hlen.trans (by kernel_rfl));obtain⟨x0,x1,rfl⟩:=lenH2 hxl;have k0:Tryz.prog.cellsOf 3=1:=by kernel_rfl
 have h0:DataW.trod enc Tryz.prog W base spare held n' 3 [c0]=some x0:=by have:=hf 0 _ rfl;simpa [k0]using this
 have h1:DataW.trod enc Tryz.prog W base spare held n' 3 [c1]=some x1:=by have:=hf 1 _ rfl;simpa [k0]using this
 obtain⟨z0,e0,_,w0⟩:=DataW.trod_int Tryz.underlying3 h0;obtain⟨z1,e1,_,w1⟩:=DataW.trod_int Tryz.underlying3 h1;simp at e0 e1;subst e0 e1;exact⟨⟨z0,z1⟩,rfl,bounds_i64 w0,bounds_i64 w1⟩
set_option maxRecDepth 100000 in
theorem open_rawH{W:World}{b0 base:Nat}{spare:Nat→Bool}{held:Bool}{v:Value}{d:DataW H}{p:List MemPlace}(hok:Value.okWide Tryz.prog W .any b0 48 v)(h:DataW.Trod enc Tryz.prog W base spare held 48 v d p):
  ∃x:RawH,RawHOk x∧∀r,RelT W (envAll W) r (rawHT x) v:=by
 obtain⟨cs,rfl,hsz⟩:=okWide_struct Tryz.underlying48 hok;obtain⟨cs⟩:=cs;obtain⟨c0,c1,c2,c3,c4,c5,c6,c7,rfl⟩:=lenH8 (show cs.length=8 from hsz.trans (by kernel_rfl));obtain⟨fuel,hf⟩:=h;obtain⟨xs,n',_,_,hlen,hxl,hf⟩:=DataW.trod_struct Tryz.underlying48 hf;obtain⟨x0,x1,x2,x3,x4,x5,x6,rfl⟩:=lenH7 hxl;have k0:Tryz.prog.cellsOf 3=1:=by kernel_rfl
 have k1:Tryz.prog.cellsOf 46=2:=by kernel_rfl
 have h0:DataW.trod enc Tryz.prog W base spare held n' 3 [c0]=some x0:=by have:=hf 0 _ rfl;simpa [k0,Value.cells]using this
 have h1:DataW.trod enc Tryz.prog W base spare held n' 3 [c1]=some x1:=by have:=hf 1 _ rfl;simpa [k0,Value.cells]using this
 have h2:DataW.trod enc Tryz.prog W base spare held n' 3 [c2]=some x2:=by have:=hf 2 _ rfl;simpa [k0,Value.cells]using this
 have h3:DataW.trod enc Tryz.prog W base spare held n' 3 [c3]=some x3:=by have:=hf 3 _ rfl;simpa [k0,Value.cells]using this
 have h4:DataW.trod enc Tryz.prog W base spare held n' 46 [c4,c5]=some x4:=by have:=hf 4 _ rfl;simpa [k1,Value.cells]using this
 have h5:DataW.trod enc Tryz.prog W base spare held n' 3 [c6]=some x5:=by have:=hf 5 _ rfl;simpa [k0,Value.cells]using this
 have h6:DataW.trod enc Tryz.prog W base spare held n' 3 [c7]=some x6:=by have:=hf 6 _ rfl;simpa [k0,Value.cells]using this
 obtain⟨z0,e0,_,w0⟩:=DataW.trod_int Tryz.underlying3 h0;obtain⟨z1,e1,_,w1⟩:=DataW.trod_int Tryz.underlying3 h1;obtain⟨z2,e2,_,w2⟩:=DataW.trod_int Tryz.underlying3 h2;obtain⟨z3,e3,_,w3⟩:=DataW.trod_int Tryz.underlying3 h3;obtain⟨t,e4,w4,w4'⟩:=open_tyH h4;obtain⟨z5,e5,_,w5⟩:=DataW.trod_int Tryz.underlying3 h5;obtain⟨z6,e6,_,w6⟩:=DataW.trod_int Tryz.underlying3 h6;simp at e0 e1 e2 e3 e4 e5 e6;obtain⟨rfl,rfl⟩:=e4;subst e0 e1 e2 e3 e5 e6;refine⟨⟨z0,z1,z2,z3,t,z5,z6⟩,⟨bounds_i64 w0,bounds_i64 w1,bounds_i64 w2,bounds_i64 w3,w4,w4',bounds_i64 w5,bounds_i64 w6⟩,fun r=> ?_⟩;unfold rawHT;refine .agg _ [_,_,_,_,_,_,_,_] rfl (fun j q u hq hu=> ?_) (fun u hu=> ?_)
 ·match j with
  |0=>simp at hq hu;subst hq;subst hu;exact .pv (.v _)
  |1=>simp at hq hu;subst hq;subst hu;exact .pv (.v _)
  |2=>simp at hq hu;subst hq;subst hu;exact .pv (.v _)
  |3=>simp at hq hu;subst hq;subst hu;exact .pv (.v _)
  |4=>simp at hq hu;subst hq;subst hu;exact .pv (.v _)
  |5=>simp at hq hu;subst hq;subst hu;exact .pv (.v _)
  |6=>simp at hq hu;subst hq;subst hu;exact .pv (.v _)
  |7=>simp at hq hu;subst hq;subst hu;exact .pv (.v _)
  |j+8=>simp at hq
 ·simp at hu;rcases hu with rfl|rfl|rfl|rfl|rfl|rfl|rfl|rfl<;>rfl
end
end Go.Proofs.YtcpaleaajdilgaaGreatDoor
end

section
namespace Go.Proofs.YtcpaleaajdilgaaGreatDoor
open Go Go.RowKit Go.Mor Go.Shelf
attribute [local go_sem] Oper.semAt_some
set_option maxRecDepth 100000 in
set_option maxHeartbeats 1000000 in
theorem groups1_in(F:Fence)(n:Nat)(h6:F.fn 181)(hro:F.round=none)(hn:1≤n)(l Bn:Nat)(x:Int)(hx0: -9223372036854775808≤x)(hx1:x≤9223372036854775807)(Kp:World→World→Prop)(J Jx:List UInt8→World→Prop)
  (hY:∀pre (g:UInt8) W,J pre W→pre.length<10→YieldAt F (n-1) Tryz.prog l #[.int .u8 g.toNat] W fun e W'=>
   (e=.returned (.bool true)∧J (pre++[g]) W'∧Kp W W')∨(e=.returned (.bool false)∧Jx (pre++[g]) W'))
  (W:World) (hBn:W.cell? ⟨Bn,0,none⟩=some (.int .i64 x)) (h0:J [] W):
  CallsIn F n Tryz.prog 181 #[.func (.yield l) #[] #[],.pointer (some ⟨Bn,0,none⟩)] W fun e W'=>(∃v,e=.returned v)∧
   ((∃ys,ys=groups x∧J ys W')∨(∃pre,True∧Jx pre W')):=by
 refine callsIn_of_wp Tryz.func181 rfl h6 ?_ hro;simp only[Tryz.ntmps181,List.size_toArray,List.length_cons,List.length_nil,Nat.reduceAdd,Nat.reduceSub,Array.replicate_succ,Array.replicate_zero,List.push_toArray,List.append_toArray,List.nil_append,List.cons_append];obtain⟨fn,tmps,assign,body,hy,hR⟩:=hY [] (UInt8.ofNat (mag x%64*2+sgn x)) W h0 (by simp);by_cases hneg:x<0;all_goals
  first|rw[first_neg x hneg]at hy|rw[first_pos x hneg]at hy
  have HY:=Lib.hid hY;clear hY
  gi_wp2
  refine hR.mono ?_;clear hR hy;rintro e W1 (⟨rfl,hJ1,_⟩|⟨rfl,hx1⟩)
  ·gi_wp2
   gi_loopw [3] (fun p wr=>∃(pre:List UInt8) (m f:Nat),p=.int .u64 m∧Hid (groups x=pre++tailN f m)∧Hid (m<128 ^ f)∧m<9223372036854775808∧Hid (pre.length+f=10)∧J pre wr)
    (fun p _=>(intOf p).toNat)
   case atStart=>
    have hml:=mag_lt x hx0 hx1;have hme:=mag_eq x;refine⟨[UInt8.ofNat (mag x%64*2+sgn x)],mag x / 64,9,?_,rfl,?_,by omega,rfl,hJ1⟩
    ·congr 1;split at hme<;>omega
    ·show _<9223372036854775808;omega
   case round=>
    obtain⟨pre,m,f,rfl,hg,hlt,hm,hl,hJs⟩:=hrel;by_cases hm0:m=0
    ·subst hm0
     gi_wp2
     go_end0
     exact⟨⟨_,rfl⟩,.inl ⟨pre,by rw[hg.out,tailN_zero];simp,hJs⟩⟩
    ·have hne:((m:Int)==0)=false:=by simpa using hm0
     have hne':((m:Int) !=0)=true:=by simpa using hm0
     cases f with
     |zero=>exact absurd hlt.out (by simp;omega)
     |succ f=>
     obtain⟨fn,tmps,assign,body,hy,hR⟩:=HY.out pre (UInt8.ofNat (m%128)) wr hJs (by have:=hl.out;omega);rw[next_byte]at hy
     gi_wp2
     refine hR.mono ?_;clear hR hy;rintro e W3 (⟨rfl,hJ3,_⟩|⟨rfl,hJx3⟩)
     ·gi_wp2
      go_roundw
      case rel=>
       refine⟨pre++[UInt8.ofNat (m%128)],m / 128,f,by simp,?_,?_,by omega,?_,hJ3⟩
       ·show _=_;rw[hg.out];simp[tailN,hm0]
       ·show _<_;have:=hlt.out;rw[Nat.pow_succ]at this;exact Nat.div_lt_of_lt_mul (by rw[Nat.mul_comm];exact this)
       ·show _=_;have:=hl.out;simp;omega
      case measure=>simp[intOf];omega
     ·gi_wp2
      refine bodyPost_ret (results_none rfl _ _ _) rfl ?_;exact⟨⟨_,rfl⟩,.inr ⟨_,trivial,hJx3⟩⟩
  ·gi_wp2
   refine bodyPost_ret (results_none rfl _ _ _) rfl ?_;exact⟨⟨_,rfl⟩,.inr ⟨_,trivial,hx1⟩⟩
theorem groups_in(F:Fence)(n:Nat)(h5:F.fn 123)(hro:F.round=none)(x:Int)(w:World):
  CallsIn F n Tryz.prog 123 #[.int .i64 x] w fun e w'=>e=.returned (.func (.func 181) #[] #[.pointer (some ⟨w.heap.size,0,none⟩)])∧w'=w.alloc (.cells #[.int .i64 x] 3):=by
 refine callsIn_of_wp Tryz.func123 rfl h5 ?_ hro;simp only[Tryz.ntmps123,List.size_toArray,List.length_cons,List.length_nil,Nat.reduceAdd,Nat.reduceSub,Array.replicate_succ,Array.replicate_zero,List.push_toArray,List.append_toArray,List.nil_append,List.cons_append]
 gi_wp2
 go_ret
 exact⟨rfl,rfl⟩
theorem groups_stops(F:Fence)(n:Nat)(Kp:World→World→Prop)(h6:F.fn 181)(hro:F.round=none)(hn:1≤n)(Bn:Nat)(x:Int)(hx0: -9223372036854775808≤x)(hx1:x≤9223372036854775807)(w:World)(hBn:Bn<w.heap.size)
  (hc:w.cell? ⟨Bn,0,none⟩=some (.int .i64 x)):
  SeqStopsK F n Tryz.prog 181 #[.pointer (some ⟨Bn,0,none⟩)] (fun g:UInt8=> #[Value.int .u8 g.toNat]) Kp (fun ys=>ys=groups x) (fun _=>True) 10 w:=fun l J Jx W hW _ _ hY h0=>
 groups1_in F n h6 hro hn l Bn x hx0 hx1 Kp J Jx hY W ((hW.cell (p:=⟨Bn,0,none⟩) hBn).trans hc) h0
attribute [local go_sem] Oper.semAt_some
def u8(b:UInt8):Value:=.int .u8 b.toNat
theorem conv_row{P:Program}{W:World}{base src dst e:Nat}{v:Value}{l:List UInt8}(hs:P.underlying src=some (.slice e))(he:P.underlying e=some (.int .u8))(hd:P.underlying dst=some .string)
  (h:W.ownsRow base e 1 v l.length (l.map u8)):(convert src dst v).run P W=.ok (.string (str l)) W:=by
 have h':=h;rcases h.2 with⟨rfl,h0⟩|⟨g,cap,cur,rfl,_,_,_⟩
 ·obtain rfl:l=[]:=List.eq_nil_of_length_eq_zero h0;exact run_convert_bytes_nil W src e hs he 0 0 dst hd
 ·refine run_convert_bytes_back W src dst e ⟨g,0,none⟩ cap l hs he hd (fun j hj=> ?_);exact h'.cells (g:=g) rfl j _ (by simp[u8,gE hj])
theorem infoU8:(Tryz.prog.info? 5).map (fun i=>(i.zero,i.size,i.bytes))=some (some (.int .u8 0),1,1):=by kernel_rfl
theorem make10(w:World):(Instr.makeSlice 98 (.int .i64 0) (.int .i64 10)).run Tryz.prog w=.ok (.slice (some ⟨w.heap.size,0,none⟩) 0 10) (w.alloc (.cells (Array.replicate 10 (.int .u8 0)) 5)):=by kernel_rfl
set_option maxRecDepth 100000 in
set_option maxHeartbeats 2000000 in
theorem Num_in(F:Fence)(n:Nat)(h3:F.fn 64)(h4:F.fn 123)(h5:F.fn 181)(hro:F.round=none)(hn:3≤n)(x:Int)(hx0: -9223372036854775808≤x)(hx1:x≤9223372036854775807)(w:World):
  CallsIn F n Tryz.prog 64 #[.int .i64 x] w fun e W'=>e=.returned (.string (str (num x)))∧Below w.heap.size w W':=by
 have h1:1≤n:=by omega
 obtain⟨i0,hi,hz0,hz1,hz2⟩:=info_parts infoU8;have hmk:=make10;refine callsIn_of_wp_marks Tryz.func64 rfl h3 ?_ hro;simp only[Tryz.ntmps64,List.size_toArray,List.length_cons,List.length_nil,Nat.reduceAdd,Nat.reduceSub,Array.replicate_succ,Array.replicate_zero,List.push_toArray,List.append_toArray,List.nil_append,List.cons_append]
 gi_wp2_with (gi_at_call 123;refine(groups_in F (n-1) h4 hro _ _).mono ?_;rintro e w' ⟨rfl,rfl⟩)
 have bL0:=Boxed.new (w.alloc (.cells (Array.replicate 10 (.int .u8 0)) 5)) 98 (.slice (some ⟨w.heap.size,0,none⟩) 0 10);rw[World.size_alloc]at bL0;have bL:=bL0.alloc (.cells #[.int .i64 x] 3);have bN:=Boxed.new ((w.alloc (.cells (Array.replicate 10 (.int .u8 0)) 5)).alloc (.cells #[.slice (some ⟨w.heap.size,0,none⟩) 0 10] 98)) 3 (.int .i64 x);rw[World.size_alloc,World.size_alloc]at bN;have hB0:Below w.heap.size w (((w.alloc (.cells (Array.replicate 10 (.int .u8 0)) 5)).alloc (.cells #[.slice (some ⟨w.heap.size,0,none⟩) 0 10] 98)).alloc (.cells #[.int .i64 x] 3)):=
  (((Below.refl _ w).alloc (Nat.le_refl _) _).alloc (by simp) _).alloc (by simp;omega) _
 have hrow0:(((w.alloc (.cells (Array.replicate 10 (.int .u8 0)) 5)).alloc (.cells #[.slice (some ⟨w.heap.size,0,none⟩) 0 10] 98)).alloc (.cells #[.int .i64 x] 3)).ownsRow w.heap.size 5 1 (.slice (some ⟨w.heap.size,0,none⟩) 0 10) 0 []:=
  ((World.ownsRow_made w (Array.replicate 10 (.int .u8 0)) 10 (Nat.le_refl _) (by decide) (by simp)).alloc _).alloc _
 refine wpIn_rangeFunc_ownG hro h1 (gf:=181) (lb:= #[.pointer (some ⟨w.heap.size+1+1,0,none⟩)]) rfl h5 (enters_of Tryz.func181 (by kernel_rfl) rfl)
  (groups_stops F (n-1) (Below w.heap.size) h5 hro (by omega) (w.heap.size+1+1) x hx0 hx1 _ (by simp) bN.cell) belowK_t (belowK_b (by simp;omega)) (Below.refl _ _) (fun _=>rfl)
  (fun pre W=>(∃v,Boxed W (w.heap.size+1) 98 v∧W.ownsRow w.heap.size 5 1 v (pack pre).length ((pack pre).map u8)∧v≠ .slice none 0 0)∧Below w.heap.size w W)
  (fun _ _ _=>False)
  (OwnFrom.and (Own.from (holdsRow_own w.heap.size (w.heap.size+1) 98 5 1 (fun pre=>(pack pre).length) (fun pre=>(pack pre).map u8) (fun _ v=>v≠ .slice none 0 0)) _) (ownFrom_below (Nat.le_refl _) (by simp;omega)))
  (fun _ _ _ _ _ hs _ _=>hs)
  ⟨⟨_,bL,hrow0,by simp⟩,hB0⟩
  (fun g=>{ tmps:= #[.int .i64 x,undef,.string ⟨#[]⟩,.pointer (some ⟨w.heap.size+1,0,none⟩),.int .u8 g.toNat,undef,.slice (some ⟨w.heap.size,0,none⟩) 0 10,.int .i64 x,.func (.func 181) #[] #[.pointer (some ⟨w.heap.size+1+1,0,none⟩)],.int .u8 g.toNat,undef,undef,undef,undef,undef,undef,undef,undef,undef,undef,undef,undef,undef,undef,undef,undef,undef],defers:=[] }) ?assign ?body ?done ?stop
 case assign=>
  intro l x W K hK
  gi_wp2
  exact hK
 case body=>
  rintro l pre g W ⟨⟨v,hv,hrow,hnil⟩,hB⟩ hlt;have hc:=hv.cell;have hpl:(pack pre).length=pre.length:=z150 pre;obtain⟨P0,hP0⟩:∃P0,pack pre=P0:=⟨_,rfl⟩
  have HP:=Lib.hid hP0;rw[hP0]at hrow hpl;clear hP0;rcases hrow.2 with⟨rfl,_⟩|⟨gg,cap,cur,rfl,_,_,hcap,hcap2,_⟩
  ·exact absurd rfl hnil
  have hk:P0.length≤10:=by omega
  clear hpl hmk hx0 hx1 hlt;by_cases hl:P0=[]
  ·subst hl;simp only[List.length_nil,List.map_nil]at hrow
   gi_wp2_with (gi_at_builtin;refine wpListIn_append_own _ rfl _ _ 98 rfl w.heap.size 5 i0 (.int .u8 0) 1 1 Tryz.underlying98 hi hz0 hz1 hz2 rfl (by decide) _ _ _ rfl (hrow.alloc _) ⟨W.heap.size,0,none⟩ 1 1 [.int .u8 g.toNat] rfl rfl (cell_one_new _ _ _) (by simp[Value.oneCell']) (by decide) (by omega) (by have:=hB.size;simp;omega) ?_;intro v' w1 hown' hgrow _;obtain⟨g',cap',rfl⟩:=ownsRow_succ hown';obtain⟨hv1,hv2,hr2,hk2,hb2⟩:=hv.appended (by decide) hrow hB.size (by omega) hown' hgrow;have hc1:=hv1.cell;have hf1:=hv1.frozen)
   exact⟨hk2.from _,hb2,⟨_,hv2,by rw[pack_snoc,HP.out,bump_nil];exact hr2,by simp⟩,hB.trans hb2⟩
  ·obtain⟨Q,b,rfl⟩:=snoc_of P0 hl;have hcell:=hrow.cellAt Q.length (by simp);have hfz:=hrow.frozenAt Q.length;have hst:=hrow.stored Q.length (.int .u8 (((b.toNat:Int)+128)%256));have hle:w.heap.size≤gg:=by rcases hrow.2 with⟨h,_⟩|⟨g2,c2,cur2,h,hb2,_⟩;cases h;cases h;exact hb2
   have hne:=hv.not_row (by decide) hrow;simp only[List.length_append,List.length_cons,List.length_nil,Nat.zero_add,List.map_append,List.map_cons,List.map_nil]at hrow hcell hst hcap hk hv hc hne ⊢;rw[List.set_append_right _ _ (by simp)]at hst;simp only[List.length_map,Nat.sub_self,List.set_cons_zero]at hst;simp[u8]at hcell;obtain⟨hst1,hst2⟩:=hst;have hst3:=Lib.hid hst1;have hv':=hv.kept hst2 (by simpa [Value.ownBlock]using hne);have hcW:=hv'.cell;have hKO:KeepsOthers W (W.setCell ⟨gg,Q.length,none⟩ (.int .u8 (((b.toNat:Int)+128)%256))):=KeepsOthers.setCell _ _ _;have hBW:=(Below.refl w.heap.size W).setCell (p:=⟨gg,Q.length,none⟩) hle (.int .u8 (((b.toNat:Int)+128)%256));clear hst1 hst2 hrow hne hcap hcap2
   gi_wp2_with (gi_at_builtin;go_must (refine wpListIn_append_own _ rfl _ _ 98 rfl w.heap.size 5 i0 (.int .u8 0) 1 1 Tryz.underlying98 hi hz0 hz1 hz2 rfl (by decide) _ _ _ rfl (hst3.out.alloc _) ⟨W.heap.size,0,none⟩ 1 1 [.int .u8 g.toNat] rfl rfl (by have:=cell_one_new (W.setCell ⟨gg,Q.length,none⟩ (.int .u8 (((b.toNat:Int)+128)%256))) (.int .u8 g.toNat) 5;rwa [World.size_setCell]at this) (by simp[Value.oneCell']) (by unfold maxLen;omega) (by omega) (by have:=hB.size;simp;omega) ?_;intro v' w1 hown' hgrow _;obtain⟨g',cap',rfl⟩:=ownsRow_succ hown';obtain⟨hv1,hv2,hr2,hk2,hb2⟩:=hv'.appended (by decide) hst3.out (by have:=hB.size;simp;omega) (by omega) hown' hgrow;have hc1:=hv1.cell;have hf1:=hv1.frozen))
   exact⟨(hKO.trans hk2).from _,hBW.trans hb2,⟨_,hv2,by rw[pack_snoc,HP.out,bump_snoc];simpa [u8,add128]using hr2,by simp⟩,hB.trans (hBW.trans hb2)⟩
 case done=>
  rintro D ys W hD rfl ⟨⟨v,hv,hrow,hnil⟩,hB⟩ hK;have hc:=hv.cell;have hcv:=conv_row (P:=Tryz.prog) Tryz.underlying98 Tryz.underlying5 Tryz.underlying9 hrow
  gi_wp2
  refine⟨by simp,.inl ⟨_,_,rfl,run_takeDeferred hK,?_⟩⟩;exact⟨_,results_tmp rfl _ _ _,rfl,hB.trans (belowK_b (w:=w) (Nat.le_refl _) W D _ _ (by simp at hD;omega) hK rfl rfl)⟩
 case stop=>
  rintro D c pre W _ _ h _;exact h.elim
theorem Num_any(x:Int)(hx0: -9223372036854775808≤x)(hx1:x≤9223372036854775807)(w:World):
  Calls Tryz.prog 64 #[.int .i64 x] w fun e W'=>e=.returned (.string (str (num x)))∧Below w.heap.size w W':=
 (callsIn_wide (n:=3)).1 (Num_in Fence.wide 3 trivial trivial trivial rfl (by omega) x hx0 hx1 w)
end Go.Proofs.YtcpaleaajdilgaaGreatDoor
end

section
namespace Go.Proofs.YtcpaleaajdilgaaGreatDoor
open Go Go.RowKit Go.Mor Go.Stop Go.Extern
structure Glob(w:World)(a0 a1:Addr):Prop extends GlobU w where
 e0:w.cell? ⟨2,0,none⟩=some (.iface 352 (.pointer (some a0)))
 e1:w.cell? ⟨3,0,none⟩=some (.iface 352 (.pointer (some a1)))
 ne:a0≠a1
 b0:∃ca ta,w.heap[a0.block]?=some (.cells ca ta (0,0))
 b1:∃ca ta,w.heap[a1.block]?=some (.cells ca ta (0,0))
theorem heap_lt{w:World}{b:Nat}{o:Obj}(h:w.heap[b]?=some o):b<w.heap.size:=(gA h).1
theorem Glob.ext{w w':World}{a0 a1:Addr}(h:Glob w a0 a1)(hb:Below w.heap.size w w'):Glob w' a0 a1 where
 toGlobU:=h.toGlobU.ext hb
 e0:=(hb.cell (z68 h.e0)).trans h.e0
 e1:=(hb.cell (z68 h.e1)).trans h.e1
 ne:=h.ne
 b0:=by obtain⟨ca,ta,h0⟩:=h.b0;exact⟨ca,ta,(hb.block _ (heap_lt h0)).trans h0⟩
 b1:=by obtain⟨ca,ta,h0⟩:=h.b1;exact⟨ca,ta,(hb.block _ (heap_lt h0)).trans h0⟩
theorem isTypeOf(v:Value)(w:World):(callFunc 278 #[.iface 352 v]).run Tryz.prog w=.ok (.value (.iface 334 (.agg #[.pointer (some ⟨10,352,none⟩)]))) w:=by kernel_rfl
theorem isComparable(w:World):(callFunc 346 #[.agg #[.pointer (some ⟨10,352,none⟩)]]).run Tryz.prog w=.ok (.value (.bool true)) w:=by kernel_rfl
theorem isComp:(Tryz.prog.info? 352).map (·.comparable)=some true:=by kernel_rfl
theorem isSize:(Tryz.prog.info? 354).map (·.size)=some 1:=by kernel_rfl
theorem noIsE(v:Value)(xT:TypeId)(w:World):(Instr.typeAssert (.iface 352 v) xT 336 true).run Tryz.prog w=.ok (.tuple #[.nilIface,.bool false]) w:=run_typeAssert_lacksB Tryz.underlying336 (by kernel_rfl) (by kernel_rfl) v xT w
theorem noUnwrapE(v:Value)(xT:TypeId)(w:World):(Instr.typeAssert (.iface 352 v) xT 338 true).run Tryz.prog w=.ok (.tuple #[.nilIface,.bool false]) w:=run_typeAssert_lacksB Tryz.underlying338 (by kernel_rfl) (by kernel_rfl) v xT w
theorem noUnwrapsE(v:Value)(xT:TypeId)(w:World):(Instr.typeAssert (.iface 352 v) xT 340 true).run Tryz.prog w=.ok (.tuple #[.nilIface,.bool false]) w:=run_typeAssert_lacksB Tryz.underlying340 (by kernel_rfl) (by kernel_rfl) v xT w
theorem is_same(a:Addr)(w:World):
  Calls Tryz.prog 238 #[.iface 352 (.pointer (some a)),.iface 352 (.pointer (some a))] w fun e w'=>e=.returned (.bool true)∧w=w':=by
 obtain⟨i,hi,hcmp⟩:=gO isComp;obtain⟨j,hj,hjs⟩:=gO isSize;have tT:=isTypeOf;have cT:=isComparable;have heq:=run_eql_iface_ptr_same (P:=Tryz.prog) w a Tryz.underlying242 Tryz.underlying352 hi hcmp hj
 go_enter Tryz.func238,Tryz.ntmps238
 go_wp2
 refine wp_loop_rounds 1 ?_;rw[rounds_succ]
 go_wp2
 go_ret
 exact⟨rfl,rfl⟩
theorem is_nil(b:Addr)(w:World):
  Calls Tryz.prog 238 #[.nilIface,.iface 352 (.pointer (some b))] w fun e w'=>e=.returned (.bool false)∧w=w':=by
 have hn:=run_eql_iface_nil_left (P:=Tryz.prog) w 352 (.pointer (some b)) Tryz.underlying242
 go_enter Tryz.func238,Tryz.ntmps238
 go_wp2
 go_ret
 exact⟨rfl,rfl⟩
theorem is_other(a b:Addr)(ca cb:Array Value)(ta tb:TypeId)(w:World)(hne:a≠b)(ha:w.heap[a.block]?=some (.cells ca ta (0,0)))(hb:w.heap[b.block]?=some (.cells cb tb (0,0))):
  Calls Tryz.prog 238 #[.iface 352 (.pointer (some a)),.iface 352 (.pointer (some b))] w fun e w'=>e=.returned (.bool false)∧w=w':=by
 obtain⟨i,hi,hcmp⟩:=gO isComp;obtain⟨j,hj,hjs⟩:=gO isSize;have tT:=isTypeOf;have cT:=isComparable;have nE:=noIsE;have uE:=noUnwrapE;have vE:=noUnwrapsE;have heq:=run_eql_iface_ptr_other (P:=Tryz.prog) w Tryz.underlying242 Tryz.underlying352 hi hcmp hj (by rw[hjs];decide) hne ha hb
 go_enter Tryz.func238,Tryz.ntmps238
 go_wp2
 refine wp_loop_rounds 1 ?_;rw[rounds_succ]
 go_wp2
 go_ret
 exact⟨rfl,rfl⟩
theorem wrong_nil(w:World)(a0 a1:Addr)(hG:Glob w a0 a1):
  Calls Tryz.prog 183 #[.nilIface] w fun e w'=>e=.returned (.bool false)∧w=w':=by
 have e0:=hG.e0;have e1:=hG.e1;clear hG
 go_enter Tryz.func183,Tryz.ntmps183
 go_wp2_with fail
 refine(is_nil _ _).mono ?_;rintro e w' ⟨rfl,rfl⟩
 go_wp2_with fail
 refine(is_nil _ _).mono ?_;rintro e w' ⟨rfl,rfl⟩
 go_wp2_with fail
 go_ret
 exact⟨rfl,rfl⟩
theorem wrong_end(w:World)(a0 a1:Addr)(hG:Glob w a0 a1):
  Calls Tryz.prog 183 #[.iface 352 (.pointer (some a0))] w fun e w'=>e=.returned (.bool true)∧w=w':=by
 have e0:=hG.e0;have e1:=hG.e1;clear hG
 go_enter Tryz.func183,Tryz.ntmps183
 go_wp2_with fail
 refine(is_same _ _).mono ?_;rintro e w' ⟨rfl,rfl⟩
 go_wp2_with fail
 go_ret
 exact⟨rfl,rfl⟩
theorem wrong_form(w:World)(a0 a1:Addr)(hG:Glob w a0 a1):
  Calls Tryz.prog 183 #[.iface 352 (.pointer (some a1))] w fun e w'=>e=.returned (.bool true)∧w=w':=by
 have e0:=hG.e0;have e1:=hG.e1;obtain⟨c0,t0,h0⟩:=hG.b0;obtain⟨c1,t1,h1⟩:=hG.b1;have H:=Lib.hid (is_other a1 a0 c1 c0 t1 t0 w hG.ne.symm h1 h0);clear hG h0 h1
 go_enter Tryz.func183,Tryz.ntmps183
 go_wp2_with fail
 refine H.out.mono ?_;rintro e w' ⟨rfl,rfl⟩
 go_wp2_with fail
 refine(is_same _ _).mono ?_;rintro e w' ⟨rfl,rfl⟩
 go_wp2_with fail
 go_ret
 exact⟨rfl,rfl⟩
end Go.Proofs.YtcpaleaajdilgaaGreatDoor
end

section
namespace Go.Proofs.YtcpaleaajdilgaaGreatDoor
open Go Go.RowKit Go.Mor Go.Shelf
attribute [local go_sem] Oper.semAt_some
theorem bretw{a b:Bool}(h:a=b):Ending.returned (.bool a)=.returned (.bool b):=by rw[h]
def Keep2(Ba Bt:Nat)(W W':World):Prop:=W'.heap[Ba]?=W.heap[Ba]?∧W'.heap[Bt]?=W.heap[Bt]?
set_option maxRecDepth 100000 in
set_option maxHeartbeats 1000000 in
theorem from1_in(n:Nat)(l Ba Bt:Nat)(s:List UInt8)(a:Nat)(ha:a≤s.length)(hs:s.length<1125899906842624)(J Jx:List (Mor.Ix×UInt8)→World→Prop)
    (hY:∀pre (g:Mor.Ix×UInt8) W,J pre W→pre.length<s.length→YieldAt Fence.wide (n-1) Tryz.prog l #[.int .i64 g.1.val,.int .u8 g.2.toNat] W fun e W'=>
      (e=.returned (.bool true)∧J (pre++[g]) W'∧Keep2 Ba Bt W W')∨(e=.returned (.bool false)∧Jx (pre++[g]) W'))
    (W:World) (hBa:W.cell? ⟨Ba,0,none⟩=some (.int .i64 a)) (hBt:W.cell? ⟨Bt,0,none⟩=some (.string (str s))) (hJd:∀pre W,J pre W→J pre W.drew) (h0:J [] W):
    CallsIn Fence.wide n Tryz.prog 277 #[.func (.yield l) #[] #[],.pointer (some ⟨Ba,0,none⟩),.pointer (some ⟨Bt,0,none⟩)] W fun e W'=>(∃v,e=.returned v)∧
      ((∃ys,ys=pairs s a∧J ys W')∨(∃pre,pre<+:pairs s a∧Jx pre W')):=by
  refine callsIn_of_wp Tryz.func277 rfl trivial ?_ rfl
  simp only[Tryz.ntmps277,List.size_toArray,List.length_cons,List.length_nil,Nat.reduceAdd,Nat.reduceSub,Array.replicate_succ,Array.replicate_zero,List.push_toArray,List.append_toArray,List.nil_append,List.cons_append]
  have HY:=Lib.hid hY
  have HJ:=Lib.hid hJd
  clear hY hJd
  gi_wp2
  gi_loopw [4] (fun p wr => ∃ (k : Nat), p = .int .i64 ((a : Int) + k) ∧ a + k ≤ s.length ∧ J ((pairs s a).take k) wr ∧ wr.cell? ⟨Ba, 0, none⟩ = some (.int .i64 a) ∧ wr.cell? ⟨Bt, 0, none⟩ = some (.string (str s)))
        (fun p _=>s.length-(intOf p).toNat)
  case atStart=>exact⟨0,by simp,by omega,by simpa using h0,hBa,hBt⟩
  case round=>
    obtain⟨k,rfl,hk,hJs,hBa,hBt⟩:=hrel
    by_cases hlt2:a+k<s.length
    · obtain⟨fn,tmps,assign,body,hy,hR⟩:=HY.out ((pairs s a).take k) (Fin.ofNat _ k,s[a+k]) wr.drew (HJ.out _ _ hJs) (by rw[List.length_take,z144];omega)
      have hfin:((Fin.ofNat 1125899906842624 k).val:Int)=k:=by simp[Fin.ofNat];omega
      rw[hfin]at hy
      clear hfin
      have hR':RoundIn Fence.wide (n-1) Tryz.prog l fn tmps assign body wr.drew fun e W'=>∃t,e=.returned (.bool t)∧Hid ((t=true→J ((pairs s a).take k++[(Fin.ofNat _ k,s[a+k])]) W'∧Keep2 Ba Bt wr.drew W')∧(t=false→Jx ((pairs s a).take k++[(Fin.ofNat _ k,s[a+k])]) W')):=by
        refine hR.mono ?_
        rintro e W' (⟨rfl,h1,h2⟩|⟨rfl,h1⟩)
        · exact⟨true,rfl,fun _=>⟨h1,h2⟩,fun h=>by cases h⟩
        · exact⟨false,rfl,fun h=>(by cases h),fun _=>h1⟩
      have HR:=Lib.hid hR'
      clear hR hR'
      have hmix:Tryz.prog.follows .mixedOrders=true:=by kernel_rfl
      gi_wp2_with fail
      have hw1:IntKind.i64.wrap ((a:Int)+k-a)=k:=by rw[IntWalk.i64_in _ (by omega)];omega
      have hw2:(0:Int)≤(a:Int)+k:=by omega
      have hw3:(a:Int)+k<s.length:=by omega
      have hw4:((a:Int)+k).toNat=a+k:=by omega
      refine z93 open_wide 7 hmix (by kernel_rfl) ?_
      simp only[List.take_succ_cons,List.take_zero,List.drop_succ_cons,List.drop_zero]
      repeat still_step
      refine wpStill_nil ?_
      clear hw1
      gi_wp2
      refine⟨fun h=>(by cases h),HR.out.mono ?_⟩
      rintro e W3 ⟨t,rfl,ht⟩
      cases t
      · gi_wp2
        refine bodyPost_ret (results_none rfl _ _ _) rfl ?_
        refine⟨⟨_,rfl⟩,.inr ⟨_,?_,ht.2 (by simp)⟩⟩
        rw[←pairs_take s a k hlt2]
        exact List.take_prefix _ _
      · obtain⟨hJ3,hB3⟩:=ht.1 (by simp)
        have hBa3:=(World.cell?_of_block (w:=wr) (a:=⟨Ba,0,none⟩) hB3.1).trans hBa
        have hBt3:=(World.cell?_of_block (w:=wr) (a:=⟨Bt,0,none⟩) hB3.2).trans hBt
        gi_wp2
        go_roundw
        case rel=>exact⟨k+1,by go_num,by omega,by rw[pairs_take s a k hlt2];exact hJ3,hBa3,hBt3⟩
        case measure=>simp[intOf];omega
    · gi_wp2
      go_end0
      exact⟨⟨_,rfl⟩,.inl ⟨_,(List.take_of_length_le (by rw[z144];omega)),hJs⟩⟩
theorem from_in(n:Nat)(s:List UInt8)(a:Int)(w:World):
  CallsIn Fence.wide n Tryz.prog 237 #[.string (str s),.int .i64 a] w fun e w'=>e=.returned (.func (.func 277) #[] #[.pointer (some ⟨w.heap.size+1,0,none⟩),.pointer (some ⟨w.heap.size,0,none⟩)])∧w'=(w.alloc (.cells #[.string (str s)] 248)).alloc (.cells #[.int .i64 a] 3):=by
 refine callsIn_of_wp Tryz.func237 rfl trivial ?_ rfl;simp only[Tryz.ntmps237,List.size_toArray,List.length_cons,List.length_nil,Nat.reduceAdd,Nat.reduceSub,Array.replicate_succ,Array.replicate_zero,List.push_toArray,List.append_toArray,List.nil_append,List.cons_append]
 gi_wp2
 go_ret
 exact⟨rfl,rfl⟩
theorem has_any(s:List UInt8)(a m:Int)(w:World)(hs:s.length≤9223372036854775807)(ha: -9223372036854775808≤a)(ha1:a≤9223372036854775807):
  Calls Tryz.prog 236 #[.string (str s),.int .i64 a,.int .i64 m] w fun e w'=>e=.returned (.bool (decide (0≤a∧a≤s.length∧m≤s.length-a)))∧w'=w:=by
 go_enter Tryz.func236,Tryz.ntmps236
 go_wp2
 all_goals go_ret
 all_goals exact⟨bretw (by rw[Bool.eq_iff_iff];simp_all []<;>omega),rfl⟩
attribute [local go_sem] Oper.semAt_some
def NumPost(s:List UInt8)(a:Int)(b:Nat)(a0 a1:Addr)(w:World)(e:Ending)(w':World):Prop:=
 match rd s a with
 | .ok (n,z)=>e=.returned (.tuple #[.int .i64 n,.nilIface])∧w.grownBy w' (some b)∧w'.heap[b]?=some (.cells #[.string (str s),.int .i64 (a+z)] 250 (0,0))
 | .error false=>e=.returned (.tuple #[.int .i64 0,.iface 352 (.pointer (some a0))])∧Below w.heap.size w w'
 | .error true=>e=.returned (.tuple #[.int .i64 0,.iface 352 (.pointer (some a1))])∧Below w.heap.size w w'
theorem z59{w:World}{b t:Nat}{cs:Array Value}(h:w.heap[b]?=some (.cells cs t (0,0)))(i:Nat):w.cell? ⟨b,i,none⟩=cs[i]?:=by simp[World.cell?,h]
theorem blk_frozen{w:World}{b t:Nat}{cs:Array Value}(h:w.heap[b]?=some (.cells cs t (0,0)))(i:Nat):w.frozen? ⟨b,i,none⟩=false:=by simp[World.frozen?,h]
theorem rd_out{s:List UInt8}{a:Int}(h:¬(0≤a∧a<s.length)):rd s a=.error false:=by simp only[rd,if_neg h]
set_option maxRecDepth 100000 in
set_option maxHeartbeats 2000000 in
theorem number_out(s:List UInt8)(a:Int)(b:Nat)(a0 a1:Addr)(w:World)(hs:s.length<1125899906842624)(ha0: -9223372036854775808≤a)(ha1:a≤9223372036854775807)
  (hG:Glob w a0 a1) (hb:w.heap[b]?=some (.cells #[.string (str s),.int .i64 a] 250 (0,0))) (hin:¬(0≤a∧a<s.length)):
  Calls Tryz.prog 182 #[.pointer (some ⟨b,0,none⟩)] w fun e w'=>e=.returned (.tuple #[.int .i64 0,.iface 352 (.pointer (some a0))])∧Below w.heap.size w w':=by
 have hmix:Tryz.prog.follows .mixedOrders=true:=by kernel_rfl
 have hblt:=heap_lt hb;have c0:w.cell? ⟨b,0,none⟩=some (.string (str s)):=z59 hb 0;have c1:w.cell? ⟨b,0+1,none⟩=some (.int .i64 a):=z59 hb 1;have e0:=hG.e0;have g0:=z68 e0
 dsimp only at g0
 have hhas:∀W,Calls Tryz.prog 236 #[.string (str s),.int .i64 a,.int .i64 1] W fun e w'=>e=.returned (.bool false)∧w'=W:=fun W=>by
  have:=has_any s a 1 W (by omega) ha0 ha1
  rwa [decide_eq_false (by omega)]at this
 have HH:=Lib.hid hhas;clear hhas hG hb
 go_enter Tryz.func182,Tryz.ntmps182
 go_wp2_with fail
 go_step3
 go_wp2_with fail
 refine z45 9 hmix (by kernel_rfl) ?_;simp only[List.take_succ_cons,List.take_zero,List.drop_succ_cons,List.drop_zero]
 iterate 8 still_step
 still_call (HH.out _)
 refine wpStill_nil ?_
 go_wp2_with fail
 go_region
 all_goals go_wp2_with fail
 all_goals rw[Exit.noGoto_ret]
 all_goals refine bodyPost_ret (v:=.tuple #[.int .i64 0,.iface 352 (.pointer (some a0))]) (by simp[results,Tryz.results182,go_sem]) rfl ⟨rfl,by go_grown⟩
theorem from_any(s:List UInt8)(a:Int)(w:World):
  Calls Tryz.prog 237 #[.string (str s),.int .i64 a] w fun e w'=>e=.returned (.func (.func 277) #[] #[.pointer (some ⟨w.heap.size+1,0,none⟩),.pointer (some ⟨w.heap.size,0,none⟩)])∧w'=(w.alloc (.cells #[.string (str s)] 248)).alloc (.cells #[.int .i64 a] 3):=
 callsIn_wide.1 (from_in 3 s a w)
theorem from_stops(n:Nat)(Ba Bt:Nat)(s:List UInt8)(a:Nat)(ha:a≤s.length)(hs:s.length<1125899906842624)(w:World)
  (hc:w.cell? ⟨Ba,0,none⟩=some (.int .i64 a)) (hd:w.cell? ⟨Bt,0,none⟩=some (.string (str s))):
  SeqStopsK Fence.wide n Tryz.prog 277 #[.pointer (some ⟨Ba,0,none⟩),.pointer (some ⟨Bt,0,none⟩)] (fun g:Mor.Ix×UInt8=> #[Value.int .i64 g.1.val,Value.int .u8 g.2.toNat]) (Keep2 Ba Bt) (fun ys=>ys=pairs s a) (fun pre=>pre<+:pairs s a) s.length w:=fun l J Jx W hW hJ _ hY h0=>
 from1_in n l Ba Bt s a ha hs J Jx hY W ((hW.cell (p:=⟨Ba,0,none⟩) (z68 hc)).trans hc) ((hW.cell (p:=⟨Bt,0,none⟩) (z68 hd)).trans hd)
  (fun pre W1 hj=>hJ pre W1 W1.drew none hj ⟨rfl,rfl,rfl,Nat.le_refl _,fun _ _ _=>rfl⟩ (fun r e=>by cases e)) h0
theorem keep2_t{Ba Bt:Nat}{A B C:World}(h:Keep2 Ba Bt A B)(k:Keep2 Ba Bt B C):Keep2 Ba Bt A C:=⟨k.1.trans h.1,k.2.trans h.2⟩
theorem keep2_b{Ba Bt:Nat}{w:World}(ha:Ba<w.heap.size)(hb:Bt<w.heap.size)(W:World)(l:Nat)(o o':Obj)(hl:w.heap.size≤l)(_:W.heap[l]?=some o)(_:o.isCells=false)(_:o.isWalk=false):Keep2 Ba Bt W (W.putObj l o'):=
 ⟨World.putObj_heap_other (fun e=>by omega),World.putObj_heap_other (fun e=>by omega)⟩
theorem z48{A B:World}{row:Option Nat}{Bk t:Nat}{v:Value}(h:Boxed A Bk t v)(hg:A.grownBy B row)(hr:∀r,row=some r→∃o:Obj,A.heap[r]?=some o∧o.isCells=false):Boxed B Bk t v:=
 h.kept hg (fun e'=>by obtain⟨o,ho,hc⟩:=hr Bk e'.symm;rw[show A.heap[Bk]?=_ from h]at ho;cases ho;cases hc)
structure Mids(s:List UInt8)(a h:Nat)(w:World)(pre:List (Mor.Ix×UInt8))(W:World)(m sg:Int):Prop where
 bm:Boxed W (h+1+1) 247 (.int .u64 m)
 bs:Boxed W (h+1+1+1) 247 (.int .u64 sg)
 bz:Boxed W (h+1+1+1+1) 3 (.int .i64 0)
 b0:Boxed W h 3 (.int .i64 0)
 b1:Boxed W (h+1) 242 .nilIface
 m0:0≤m
 m1:m<18446744073709551616
 s0:0≤sg
 bl:Below h w W
 good:Begs s a pre→Mid s a pre m sg
def Outs(s:List UInt8)(a h:Nat)(w:World)(a1:Addr)(c:Code)(pre:List (Mor.Ix×UInt8))(W:World):Prop:=
  Below h w W∧
  ((c=.ret∧Boxed W h 3 (.int .i64 0)∧Boxed W (h+1) 242 (.iface 352 (.pointer (some a1)))∧(Begs s a pre→rdGo 0 (0,0) (s.drop a)=.error true))∨
   (c=.exit 0∧∃m sg z:Nat,Boxed W (h+1+1) 247 (.int .u64 m)∧Boxed W (h+1+1+1) 247 (.int .u64 sg)∧Boxed W (h+1+1+1+1) 3 (.int .i64 (z+1))∧Boxed W h 3 (.int .i64 0)∧Boxed W (h+1) 242 .nilIface∧z<1125899906842624∧
     (Begs s a pre→rdGo 0 (0,0) (s.drop a)=.ok (m,sg,z+1))))
theorem boxes5(w:World):Boxed (((((w.alloc (.cells #[.int .i64 0] 3)).alloc (.cells #[.nilIface] 242)).alloc (.cells #[.int .u64 0] 247)).alloc (.cells #[.int .u64 0] 247)).alloc (.cells #[.int .i64 0] 3)) w.heap.size 3 (.int .i64 0)∧Boxed (((((w.alloc (.cells #[.int .i64 0] 3)).alloc (.cells #[.nilIface] 242)).alloc (.cells #[.int .u64 0] 247)).alloc (.cells #[.int .u64 0] 247)).alloc (.cells #[.int .i64 0] 3)) (w.heap.size+1) 242 .nilIface∧Boxed (((((w.alloc (.cells #[.int .i64 0] 3)).alloc (.cells #[.nilIface] 242)).alloc (.cells #[.int .u64 0] 247)).alloc (.cells #[.int .u64 0] 247)).alloc (.cells #[.int .i64 0] 3)) (w.heap.size+2) 247 (.int .u64 0)∧Boxed (((((w.alloc (.cells #[.int .i64 0] 3)).alloc (.cells #[.nilIface] 242)).alloc (.cells #[.int .u64 0] 247)).alloc (.cells #[.int .u64 0] 247)).alloc (.cells #[.int .i64 0] 3)) (w.heap.size+3) 247 (.int .u64 0)∧Boxed (((((w.alloc (.cells #[.int .i64 0] 3)).alloc (.cells #[.nilIface] 242)).alloc (.cells #[.int .u64 0] 247)).alloc (.cells #[.int .u64 0] 247)).alloc (.cells #[.int .i64 0] 3)) (w.heap.size+4) 3 (.int .i64 0)∧(((((w.alloc (.cells #[.int .i64 0] 3)).alloc (.cells #[.nilIface] 242)).alloc (.cells #[.int .u64 0] 247)).alloc (.cells #[.int .u64 0] 247)).alloc (.cells #[.int .i64 0] 3)).heap.size=w.heap.size+5∧Below w.heap.size w (((((w.alloc (.cells #[.int .i64 0] 3)).alloc (.cells #[.nilIface] 242)).alloc (.cells #[.int .u64 0] 247)).alloc (.cells #[.int .u64 0] 247)).alloc (.cells #[.int .i64 0] 3)):=by
 refine⟨((((Boxed.new w _ _).alloc _).alloc _).alloc _).alloc _,?_,?_,?_,?_,by simp,?_⟩
 ·have:=Boxed.new (w.alloc (.cells #[.int .i64 0] 3)) 242 .nilIface;simp only[World.size_alloc]at this;exact((this.alloc _).alloc _).alloc _
 ·have:=Boxed.new ((w.alloc (.cells #[.int .i64 0] 3)).alloc (.cells #[.nilIface] 242)) 247 (.int .u64 0);simp only[World.size_alloc]at this;exact(this.alloc _).alloc _
 ·have:=Boxed.new (((w.alloc (.cells #[.int .i64 0] 3)).alloc (.cells #[.nilIface] 242)).alloc (.cells #[.int .u64 0] 247)) 247 (.int .u64 0);simp only[World.size_alloc]at this;exact this.alloc _
 ·have:=Boxed.new ((((w.alloc (.cells #[.int .i64 0] 3)).alloc (.cells #[.nilIface] 242)).alloc (.cells #[.int .u64 0] 247)).alloc (.cells #[.int .u64 0] 247)) 3 (.int .i64 0);simp only[World.size_alloc]at this;exact this
 ·go_grown
section
variable{s:List UInt8}{a H B:Nat}{w W:World}{a1:Addr}{pre q:List (Mor.Ix×UInt8)}{m sg:Int}
theorem set_keep2{Ba Bt c:Nat}(ha:Ba≠c)(hb:Bt≠c)(W:World)(v:Value):Keep2 Ba Bt W (W.setCell ⟨c,0,none⟩ v):=⟨Below.heap_setCell _ _ _ _ ha,Below.heap_setCell _ _ _ _ hb⟩
theorem closeA(h:Mids s a H w pre W m sg)(m' sg':Nat){v1 v2:Int}(e1:v1=m')(e2:v2=sg')(hg:Begs s a q→rdGo 0 (0,0) (s.drop a)=.ok (m',sg',1)):
  KeepsFrom B W (((W.setCell ⟨H+1+1,0,none⟩ (.int .u64 v1)).setCell ⟨H+1+1+1,0,none⟩ (.int .u64 v2)).setCell ⟨H+1+1+1+1,0,none⟩ (.int .i64 1))∧
  Outs s a H w a1 (.exit 0) q (((W.setCell ⟨H+1+1,0,none⟩ (.int .u64 v1)).setCell ⟨H+1+1+1,0,none⟩ (.int .u64 v2)).setCell ⟨H+1+1+1+1,0,none⟩ (.int .i64 1)):=by
 subst e1 e2;refine⟨(((KeepsOthers.setCell _ _ _).trans (KeepsOthers.setCell _ _ _)).trans (KeepsOthers.setCell _ _ _)).from _,?_,.inr ⟨rfl,m',sg',0,?_,?_,?_,?_,?_,by omega,hg⟩⟩
 ·exact((h.bl.setCell (p:=⟨H+1+1,0,none⟩) (by dsimp only;omega) _).setCell (p:=⟨H+1+1+1,0,none⟩) (by dsimp only;omega) _).setCell (p:=⟨H+1+1+1+1,0,none⟩) (by dsimp only;omega) _
 ·exact((h.bm.set _).other (by omega) _).other (by omega) _
 ·exact((h.bs.other (by omega) _).set _).other (by omega) _
 ·exact((h.bz.other (by omega) _).other (by omega) _).set _
 ·exact((h.b0.other (by omega) _).other (by omega) _).other (by omega) _
 ·exact((h.b1.other (by omega) _).other (by omega) _).other (by omega) _
theorem closeB(h:Mids s a H w pre W m sg)(m' sg':Nat){v1 v2:Int}(e1:v1=m')(e2:v2=sg')(hm:m'<64){Ba Bt:Nat}(ha:Ba=H+5+1)(hb:Bt=H+5)(hg:Begs s a q→Mid s a q m' sg'):
  KeepsFrom B W ((W.setCell ⟨H+1+1,0,none⟩ (.int .u64 v1)).setCell ⟨H+1+1+1,0,none⟩ (.int .u64 v2))∧Keep2 Ba Bt W ((W.setCell ⟨H+1+1,0,none⟩ (.int .u64 v1)).setCell ⟨H+1+1+1,0,none⟩ (.int .u64 v2))∧
  ∃m sg,Mids s a H w q ((W.setCell ⟨H+1+1,0,none⟩ (.int .u64 v1)).setCell ⟨H+1+1+1,0,none⟩ (.int .u64 v2)) m sg:=by
 subst e1 e2 ha hb;refine⟨((KeepsOthers.setCell _ _ _).trans (KeepsOthers.setCell _ _ _)).from _,keep2_t (set_keep2 (by omega) (by omega) _ _) (set_keep2 (by omega) (by omega) _ _),m',sg',?_,?_,?_,?_,?_,by omega,by omega,by omega,?_,hg⟩
 ·exact(h.bm.set _).other (by omega) _
 ·exact(h.bs.other (by omega) _).set _
 ·exact(h.bz.other (by omega) _).other (by omega) _
 ·exact(h.b0.other (by omega) _).other (by omega) _
 ·exact(h.b1.other (by omega) _).other (by omega) _
 ·exact(h.bl.setCell (p:=⟨H+1+1,0,none⟩) (by dsimp only;omega) _).setCell (p:=⟨H+1+1+1,0,none⟩) (by dsimp only;omega) _
theorem closeC(h:Mids s a H w pre W m sg){v:Int}(h0:0≤v)(h1:v<18446744073709551616){Ba Bt:Nat}(ha:Ba=H+5+1)(hb:Bt=H+5)(hg:Begs s a q→Mid s a q v sg):
  KeepsFrom B W (W.setCell ⟨H+1+1,0,none⟩ (.int .u64 v)).drew∧Keep2 Ba Bt W (W.setCell ⟨H+1+1,0,none⟩ (.int .u64 v)).drew∧
  ∃m sg,Mids s a H w q (W.setCell ⟨H+1+1,0,none⟩ (.int .u64 v)).drew m sg:=by
 subst ha hb;refine⟨((KeepsOthers.setCell _ _ _).trans (KeepsOthers.drew _)).from _,set_keep2 (by omega) (by omega) W _,v,sg,?_,?_,?_,?_,?_,h0,h1,h.s0,?_,hg⟩
 ·exact h.bm.set _
 ·exact h.bs.other (by omega) _
 ·exact h.bz.other (by omega) _
 ·exact h.b0.other (by omega) _
 ·exact h.b1.other (by omega) _
 ·exact(h.bl.setCell (p:=⟨H+1+1,0,none⟩) (by dsimp only;omega) _).drew
theorem closeD(h:Mids s a H w pre W m sg){v:Int}{k:Nat}(hk:k<1125899906842624)(h0:0≤v)(hsg:0≤sg)(hg:Begs s a q→rdGo 0 (0,0) (s.drop a)=.ok (v.toNat,sg.toNat,k+1)):
  KeepsFrom B W ((W.setCell ⟨H+1+1,0,none⟩ (.int .u64 v)).setCell ⟨H+1+1+1+1,0,none⟩ (.int .i64 ((k:Int)+1))).drew∧
  Outs s a H w a1 (.exit 0) q ((W.setCell ⟨H+1+1,0,none⟩ (.int .u64 v)).setCell ⟨H+1+1+1+1,0,none⟩ (.int .i64 ((k:Int)+1))).drew:=by
 obtain⟨v,rfl⟩:=Int.eq_ofNat_of_zero_le h0;obtain⟨sg,rfl⟩:=Int.eq_ofNat_of_zero_le hsg;refine⟨(((KeepsOthers.setCell _ _ _).trans (KeepsOthers.setCell _ _ _)).trans (KeepsOthers.drew _)).from _,?_,.inr ⟨rfl,v,sg,k,?_,?_,?_,?_,?_,hk,hg⟩⟩
 ·exact((h.bl.setCell (p:=⟨H+1+1,0,none⟩) (by dsimp only;omega) _).setCell (p:=⟨H+1+1+1+1,0,none⟩) (by dsimp only;omega) _).drew
 ·exact(h.bm.set _).other (by omega) _
 ·exact(h.bs.other (by omega) _).other (by omega) _
 ·exact(h.bz.other (by omega) _).set _
 ·exact(h.b0.other (by omega) _).other (by omega) _
 ·exact(h.b1.other (by omega) _).other (by omega) _
theorem closeE(h:Mids s a H w pre W m sg)(hg:Begs s a q→rdGo 0 (0,0) (s.drop a)=.error true){W':World}(hW:W'=((W.setCell ⟨H,0,none⟩ (.int .i64 0)).setCell ⟨H+1,0,none⟩ (.iface 352 (.pointer (some a1)))).drew):
  KeepsFrom B W W'∧Outs s a H w a1 .ret q W':=by
 subst hW;refine⟨(((KeepsOthers.setCell _ _ _).trans (KeepsOthers.setCell _ _ _)).trans (KeepsOthers.drew _)).from _,?_,.inl ⟨rfl,?_,?_,hg⟩⟩
 ·exact((h.bl.setCell (p:=⟨H,0,none⟩) (Nat.le_refl _) _).setCell (p:=⟨H+1,0,none⟩) (by dsimp only;omega) _).drew
 ·exact(h.b0.set _).other (by omega) _
 ·exact(h.b1.other (by omega) _).set _
end
theorem shl_any(P:Program)(y:UInt8)(k:Nat)(hk:k<1125899906842624)(hk0:¬k=0):∃G:Int,0≤G∧G<18446744073709551616∧Hid (G=IntKind.u64.wrap ((y.toNat:Int)%128*2 ^ min (7*k-1) 64))∧
  ∀W,(Op.shift .shl .u64 ((y.toNat:Int)%128) .i64 (IntKind.i64.wrap (IntKind.i64.wrap (7*(k:Int)) - 1))).run P W=.ok (.int .u64 G) W:=by
 refine⟨IntKind.u64.wrap ((y.toNat:Int)%128*2 ^ min (7*k-1) 64),?_,?_,rfl,fun W=> ?_⟩
 ·simp[IntKind.wrap_u64];omega
 ·simp[IntKind.wrap_u64];omega
 ·rw[IntWalk.i64_in (7*(k:Int)) (by omega),IntWalk.i64_in _ (by omega)];have h1:¬(7*(k:Int) - 1<0):=by omega
  have h2:(7*(k:Int) - 1).toNat=7*k-1:=by omega
  simp only[Op.shift,h1,if_false,h2,IntKind.bits];rfl
theorem keepObj{W W':World}{D:Nat}{o:Obj}(h:KeepsOthers W W')(hK:W.heap[D]?=some o)(ho:o.isCells=false):W'.heap[D]?=some o:=h.same D o hK ho
theorem rd_err{s:List UInt8}{a:Nat}(hin:a<s.length){e:Bool}(h:rdGo 0 (0,0) (s.drop a)=.error e):rd s a=.error e:=by
 simp only[rd,Int.toNat_natCast,h];rw[if_pos (by omega)]
theorem rd_ok{s:List UInt8}{a m sg z:Nat}(hin:a<s.length)(h:rdGo 0 (0,0) (s.drop a)=.ok (m,sg,z)):rd s a=.ok (if sg=1 then -1-(m:Int)else m,z):=by
 simp only[rd,Int.toNat_natCast,h];rw[if_pos (by omega)]
theorem closeOk{s:List UInt8}{a b D:Nat}{w W:World}{v:Int}{x:Int}(hbl:Below w.heap.size w W)(hb:W.heap[b]?=some (.cells #[.string (str s),.int .i64 a] 250 (0,0)))(hbw:b<w.heap.size)
  (hK:W.heap[D]?=some (.deferred (some []))) (hD:w.heap.size+7≤D) (bx0:Boxed W w.heap.size 3 (.int .i64 0)) (bx1:Boxed W (w.heap.size+1) 242 .nilIface) {W':World}
  (hW:W'=(((W.setCell ⟨b,1,none⟩ (.int .i64 v)).setCell ⟨w.heap.size,0,none⟩ (.int .i64 x)).setCell ⟨w.heap.size+1,0,none⟩ .nilIface).drew):
  W'.heap[D]?=some (.deferred (some []))∧(W'.putObj D (.deferred none)).cell? ⟨w.heap.size,0,none⟩=some (.int .i64 x)∧(W'.putObj D (.deferred none)).cell? ⟨w.heap.size+1,0,none⟩=some .nilIface∧
  w.grownBy (W'.putObj D (.deferred none)) (some b)∧(W'.putObj D (.deferred none)).heap[b]?=some (.cells #[.string (str s),.int .i64 v] 250 (0,0)):=by
 subst hW;have hK2:=keepObj ((((KeepsOthers.setCell W ⟨b,1,none⟩ (.int .i64 v)).trans (KeepsOthers.setCell _ ⟨w.heap.size,0,none⟩ (.int .i64 x))).trans (KeepsOthers.setCell _ ⟨w.heap.size+1,0,none⟩ .nilIface)).trans (KeepsOthers.drew _)) hK rfl;have k0:Boxed (W.setCell ⟨b,1,none⟩ (.int .i64 v)) w.heap.size 3 (.int .i64 0):=(Below.heap_setCell _ _ _ _ (by dsimp only;omega)).trans bx0;have k1:Boxed (W.setCell ⟨b,1,none⟩ (.int .i64 v)) (w.heap.size+1) 242 .nilIface:=(Below.heap_setCell _ _ _ _ (by dsimp only;omega)).trans bx1;have q0:Boxed (((W.setCell ⟨b,1,none⟩ (.int .i64 v)).setCell ⟨w.heap.size,0,none⟩ (.int .i64 x)).setCell ⟨w.heap.size+1,0,none⟩ .nilIface).drew w.heap.size 3 (.int .i64 x):=(k0.set _).other (by omega) _;have q1:Boxed (((W.setCell ⟨b,1,none⟩ (.int .i64 v)).setCell ⟨w.heap.size,0,none⟩ (.int .i64 x)).setCell ⟨w.heap.size+1,0,none⟩ .nilIface).drew (w.heap.size+1) 242 .nilIface:=(k1.other (by omega) _).set _;have hbb:(((W.setCell ⟨b,1,none⟩ (.int .i64 v)).setCell ⟨w.heap.size,0,none⟩ (.int .i64 x)).setCell ⟨w.heap.size+1,0,none⟩ .nilIface).heap[b]?=some (.cells #[.string (str s),.int .i64 v] 250 (0,0)):=by
  rw[Below.heap_setCell _ _ _ _ (by dsimp only;omega),Below.heap_setCell _ _ _ _ (by dsimp only;omega)];simp[World.setCell,Array.getElem?_modify,hb]
 refine⟨hK2,?_,?_,?_,?_⟩
 ·exact(z48 q0 (grownBy_putObj' _ D (.deferred none)) (fun r e=>by cases e;exact⟨_,hK2,rfl⟩)).cell
 ·exact(z48 q1 (grownBy_putObj' _ D (.deferred none)) (fun r e=>by cases e;exact⟨_,hK2,rfl⟩)).cell
 ·refine⟨hbl.os,hbl.tape,hbl.output,?_,fun k hk hne=> ?_⟩
  ·have:=hbl.size;have:=(grownBy_putObj' (((W.setCell ⟨b,1,none⟩ (.int .i64 v)).setCell ⟨w.heap.size,0,none⟩ (.int .i64 x)).setCell ⟨w.heap.size+1,0,none⟩ .nilIface).drew D (.deferred none)).size;simp[World.size_setCell,World.drew]at this ⊢;omega
  ·rw[World.putObj_heap_other (fun e=>by omega)];show(((W.setCell ⟨b,1,none⟩ (.int .i64 v)).setCell ⟨w.heap.size,0,none⟩ (.int .i64 x)).setCell ⟨w.heap.size+1,0,none⟩ .nilIface).heap[k]?=_;have hkb:k≠b:=fun e=>hne (by rw[e]);rw[Below.heap_setCell _ _ _ _ (by dsimp only;omega),Below.heap_setCell _ _ _ _ (by dsimp only;omega),Below.heap_setCell _ _ _ _ (by dsimp only;omega),hbl.block k hk]
 ·rw[World.putObj_heap_other (fun e=>by omega)];exact hbb
theorem begs_all(s:List UInt8)(a:Nat):Begs s a (pairs s a):=List.prefix_refl _
set_option maxRecDepth 100000 in
set_option maxHeartbeats 4000000 in
theorem number_go(s:List UInt8)(a:Nat)(b:Nat)(a0 a1:Addr)(w:World)(hs:s.length<1125899906842624)(hin:a<s.length)
  (hG:Glob w a0 a1) (hb:w.heap[b]?=some (.cells #[.string (str s),.int .i64 a] 250 (0,0))):
  Calls Tryz.prog 182 #[.pointer (some ⟨b,0,none⟩)] w (NumPost s a b a0 a1 w):=by
 have hmix:Tryz.prog.follows .mixedOrders=true:=by kernel_rfl
 have hblt:=heap_lt hb;have c0:w.cell? ⟨b,0,none⟩=some (.string (str s)):=z59 hb 0;have c1:w.cell? ⟨b,0+1,none⟩=some (.int .i64 a):=z59 hb 1;have e0:=hG.e0;have e1:=hG.e1;have g0:=z68 e0;have g1:=z68 e1
 dsimp only at g0 g1
 have hhas:∀W,Calls Tryz.prog 236 #[.string (str s),.int .i64 a,.int .i64 1] W fun e w'=>e=.returned (.bool true)∧w'=W:=fun W=>by
  have:=has_any s a 1 W (by omega) (by omega) (by omega)
  rwa [decide_eq_true (by omega)]at this
 have HH:=Lib.hid hhas;have HG:=Lib.hid hG;have HB:=Lib.hid hb;clear hhas hG hb;refine callsIn_wide.1 (callsIn_of_wp_marks (n:=9) Tryz.func182 rfl trivial (wpIn_wide.2 ?_) rfl);simp only[Tryz.ntmps182,List.size_toArray,List.length_cons,List.length_nil,Nat.reduceAdd,Nat.reduceSub,Array.replicate_succ,Array.replicate_zero,List.push_toArray,List.append_toArray,List.nil_append,List.cons_append]
 go_wp2_with fail
 go_step3
 go_wp2_with fail
 refine z45 9 hmix (by kernel_rfl) ?_;simp only[List.take_succ_cons,List.take_zero,List.drop_succ_cons,List.drop_zero]
 iterate 8 still_step
 still_call (HH.out _)
 refine wpStill_nil ?_
 go_wp2_with fail
 go_step3
 go_wp2_with fail
 obtain⟨B0,B1,B2,B3,B4,hsz,hBl⟩:=boxes5 w;obtain⟨W0,hW0⟩:∃W0,(((((w.alloc (.cells #[.int .i64 0] 3)).alloc (.cells #[.nilIface] 242)).alloc (.cells #[.int .u64 0] 247)).alloc (.cells #[.int .u64 0] 247)).alloc (.cells #[.int .i64 0] 3))=W0:=⟨_,rfl⟩
 rw[hW0]at B0 B1 B2 B3 B4 hsz hBl ⊢;clear hW0;have d0:=(hBl.cell (p:=⟨b,0,none⟩) hblt).trans c0;have d1:=(hBl.cell (p:=⟨b,0+1,none⟩) hblt).trans c1;have HS:=Lib.hid hsz;clear hsz;refine z45 8 hmix (by kernel_rfl) ?_;simp only[List.take_succ_cons,List.take_zero,List.drop_succ_cons,List.drop_zero]
 iterate 8 still_step
 refine wpStill_nil ?_
 go_wp2_with fail
 refine(from_any _ _ _).mono ?_;rintro e w' ⟨rfl,rfl⟩
 go_wp2_with fail
 have BT0:=(Boxed.new W0 248 (.string (str s))).alloc (.cells #[.int .i64 a] 3);have BA0:=Boxed.new (W0.alloc (.cells #[.string (str s)] 248)) 3 (.int .i64 a);rw[World.size_alloc]at BA0;obtain⟨W1,hW1⟩:∃W1,((W0.alloc (.cells #[.string (str s)] 248)).alloc (.cells #[.int .i64 a] 3)).drew.drew=W1:=⟨_,rfl⟩
 have BT:Boxed W1 W0.heap.size 248 (.string (str s)):=by rw[←hW1];exact BT0
 have BA:Boxed W1 (W0.heap.size+1) 3 (.int .i64 a):=by rw[←hW1];exact BA0
 have b0:Boxed W1 w.heap.size 3 (.int .i64 0):=by rw[←hW1];exact(B0.alloc _).alloc _
 have b1:Boxed W1 (w.heap.size+1) 242 .nilIface:=by rw[←hW1];exact(B1.alloc _).alloc _
 have b2:Boxed W1 (w.heap.size+1+1) 247 (.int .u64 0):=by rw[←hW1];exact(B2.alloc _).alloc _
 have b3:Boxed W1 (w.heap.size+1+1+1) 247 (.int .u64 0):=by rw[←hW1];exact(B3.alloc _).alloc _
 have b4:Boxed W1 (w.heap.size+1+1+1+1) 3 (.int .i64 0):=by rw[←hW1];exact(B4.alloc _).alloc _
 have hBl1:Below w.heap.size w W1:=by rw[←hW1];exact((((hBl).alloc hBl.size _).alloc (by have:=hBl.size;simp;omega) _).drew).drew
 have hs1:W1.heap.size=w.heap.size+7:=by rw[←hW1];simp[World.drew,HS.out]
 rw[hW1];have H0:=HS.out;clear BT0 BA0 hW1 B0 B1 B2 B3 B4 hBl d0 d1;refine(wpIn_wide (n:=9)).1 (wpIn_rangeFunc_ownG rfl (by omega) (gf:=277) (lb:= #[.pointer (some ⟨W0.heap.size+1,0,none⟩),.pointer (some ⟨W0.heap.size,0,none⟩)]) rfl trivial (enters_of Tryz.func277 (by kernel_rfl) rfl)
  (from_stops 8 (W0.heap.size+1) W0.heap.size s a (by omega) hs W1 BA.cell BT.cell) keep2_t (keep2_b (by omega) (by omega)) (Below.refl _ _) (fun _=>rfl)
  (fun pre W=>∃m sg,Mids s a w.heap.size w pre W m sg)
  (fun c pre W=>Outs s a w.heap.size w a1 c pre W) ?hI ?hIx ⟨0,0,b2,b3,b4,b0,b1,by omega,by omega,by omega,hBl1,fun _=>⟨rfl,rfl,rfl,by decide,by simp⟩⟩ ?a1 ?assign ?body ?done ?stop)
 case hI=>
  rintro pre X Y row ⟨m,sg,h⟩ hg hr;have hr':=fun r e=>(hr r e).2;exact⟨m,sg,z48 h.bm hg hr',z48 h.bs hg hr',z48 h.bz hg hr',z48 h.b0 hg hr',z48 h.b1 hg hr',h.m0,h.m1,h.s0,h.bl.grown hg h.bl.size (fun k e=>by have:=(hr k e).1;omega),h.good⟩
 case hIx=>
  rintro c pre X Y row ⟨hbl,h⟩ hg hr;have hr':=fun r e=>(hr r e).2;refine⟨hbl.grown hg hbl.size (fun k e=>by have:=(hr k e).1;omega),?_⟩;rcases h with⟨hc,h0,h1,hgd⟩|⟨hc,m,sg,z,h2,h3,h4,h0,h1,hz,hgd⟩
  ·exact .inl ⟨hc,z48 h0 hg hr',z48 h1 hg hr',hgd⟩
  ·exact .inr ⟨hc,m,sg,z,z48 h2 hg hr',z48 h3 hg hr',z48 h4 hg hr',z48 h0 hg hr',z48 h1 hg hr',hz,hgd⟩
 case assign=>
  intro l x W K hK
  gi_wp2
  exact hK
 case body=>
  rintro l pre ⟨⟨k,hk⟩,y⟩ W ⟨m,sg,h⟩ hlt
  dsimp only
  have hy:y.toNat<256:=y.toNat_lt;have hm0:=h.m0;have hm1:=h.m1;have cm:=h.bm.cell;have fm:=h.bm.frozen;have cs:=h.bs.cell;have fs:=h.bs.frozen;have cz:=h.bz.cell;have fz:=h.bz.frozen;have cr:=h.b0.cell;have fr:=h.b0.frozen;have ce:=h.b1.cell;have fe:=h.b1.frozen;have hMi:=Lib.hid h;clear h H0 BT BA b0 b1 b2 b3 b4 hBl1 hlt c0 c1 e0;have hand:bits .and .u8 (y.toNat:Int) 127=((y.toNat%128:Nat):Int):=by
   have:=(by decide+kernel:∀z:Fin 256,bits .and .u8 ((z.val:Nat):Int) 127=((z.val%128:Nat):Int)) ⟨y.toNat,hy⟩
   exact this
  obtain⟨X,hX⟩:∃X:Mor.Ix×UInt8,X=(⟨k,hk⟩,y):=⟨_,rfl⟩
  have hXk:X.1.val=k:=by rw[hX]
  have hXy:X.2=y:=by rw[hX]
  rw[←hX];have HX1:=Lib.hid hXk;have HX2:=Lib.hid hXy;clear hX hXk hXy;by_cases hk0:k=0
  ·subst hk0;by_cases hlo:y.toNat<128
   ·gi_wp2_with fail
    refine closeA hMi.out (y.toNat%128 / 2) (y.toNat%128%2) (by omega) (by omega) (fun hg=> ?_);rw[Mid.ok hs hMi.out.good (by rw[HX1.out];simp) (by rw[HX2.out];exact hlo) hg,HX1.out];simp[stepM,HX1.out,HX2.out]
   ·gi_wp2_with fail
    refine closeB hMi.out (y.toNat%128 / 2) (y.toNat%128%2) (by omega) (by omega) (by omega) (Ba:=W0.heap.size+1) (Bt:=W0.heap.size) (by have:=HS.out;omega) HS.out (fun hg=> ?_);have:=Mid.cont hs hMi.out.good (by rw[HX1.out];simp) (by rw[HX2.out];omega) hg;simpa [stepM,HX1.out,HX2.out]using this
  ·have hk1:((k:Int)==0)=false:=by simp;omega
   by_cases hbad:y.toNat=0∨k=9∧1<y.toNat
   ·have HE:Begs s a (pre++[X])→rdGo 0 (0,0) (s.drop a)=.error true:=fun hg=>Mid.err hs hMi.out.good (by rw[HX1.out];exact hk0) (by rw[HX1.out,HX2.out];exact hbad) hg;have HE':=Lib.hid HE;have ge:=(hMi.out.bl.cell (p:=⟨3,0,none⟩) g1).trans e1;clear HE;by_cases hy0:y.toNat=0
    ·have hy1:((y.toNat:Int)==0)=true:=by simp;omega
     have HY0:=Lib.hid hy0;clear hy0 hbad
     gi_wp2_with fail
     gi_region_with_o (fail)
     all_goals gi_wp2_with fail
     all_goals exact closeE hMi.out HE'.out rfl
    ·have hy1:((y.toNat:Int)==0)=false:=by simp;omega
     have hk9':((k:Int)==9)=true:=by simp;omega
     have hgt:1<(y.toNat:Int):=by omega
     have HB:=Lib.hid hbad;clear hbad
     gi_wp2_with fail
     gi_region_with_o (fail)
     all_goals gi_wp2_with fail
     all_goals exact closeE hMi.out HE'.out rfl
   ·have hy0:((y.toNat:Int)==0)=false:=by simp;omega
    have hstep:Hid (∀G:Int,G=IntKind.u64.wrap ((y.toNat:Int)%128*2 ^ min (7*k-1) 64)→Begs s a (pre++[X])→bits .or .u64 m G=((stepM (stM pre) X).1:Nat)∧sg=((stepM (stM pre) X).2:Nat)):=
     fun G hG hg=>or_step hs hMi.out.good (by rw[HX1.out];exact hk0) (by rw[HX1.out,HX2.out];exact hbad) (by rw[HX1.out,HX2.out];exact hG) hg
    have hnb:Hid (¬(X.1.val≠0∧(X.2.toNat=0∨X.1.val=9∧1<X.2.toNat))):=by
     show ¬_;rw[HX1.out,HX2.out];exact fun hc=>hbad hc.2
    obtain⟨G,hG0,hG1,HGe,hsh⟩:=shl_any Tryz.prog y k hk hk0;have HSH:=Lib.hid hsh;clear hsh;obtain⟨M,hM⟩:∃M,bits .or .u64 m G=M:=⟨_,rfl⟩
    have hMb:0≤M∧M<18446744073709551616:=by
     obtain⟨m,rfl⟩:=Int.eq_ofNat_of_zero_le hm0;obtain⟨G,rfl⟩:=Int.eq_ofNat_of_zero_le hG0;have:=Nat.or_lt_two_pow (n:=64) (x:=m) (y:=G) (by omega) (by omega);rw[←hM,u64_or_nat _ _ (by omega) (by omega)];omega
    obtain⟨hM0,hM1⟩:=hMb;have HM:=Lib.hid hM;clear hM;by_cases hk9:k=9
    ·have hk9':((k:Int)==9)=true:=by simp;omega
     have hgt:¬(1<(y.toNat:Int)):=by omega
     have hHk:=Lib.hid hk9;clear hk9
     gi_wp2_with fail
     have hsh:=HSH.out;have hM:=HM.out;refine z93 (open_round l) 7 hmix (by kernel_rfl) ?_;simp only[List.take_succ_cons,List.take_zero,List.drop_succ_cons,List.drop_zero]
     iterate 7 still_step
     refine wpStill_nil ?_;clear hsh hM
     gi_wp2_with fail
     refine closeD hMi.out hk hM0 hMi.out.s0 (fun hg=> ?_);obtain⟨q1,q2⟩:=hstep.out G HGe.out hg;rw[HM.out]at q1;have hlo:y.toNat<128:=by omega
     rw[q1,q2];simpa [HX1.out]using Mid.ok hs hMi.out.good hnb.out (by rw[HX2.out];exact hlo) hg
    ·have hk9':((k:Int)==9)=false:=by simp;omega
     gi_wp2_with fail
     have hsh:=HSH.out;have hM:=HM.out;refine z93 (open_round l) 7 hmix (by kernel_rfl) ?_;simp only[List.take_succ_cons,List.take_zero,List.drop_succ_cons,List.drop_zero]
     iterate 7 still_step
     refine wpStill_nil ?_;clear hsh hM
     gi_wp2_with fail
     ·refine closeD hMi.out hk hM0 hMi.out.s0 (fun hg=> ?_);obtain⟨q1,q2⟩:=hstep.out G HGe.out hg;rw[HM.out]at q1;have hlo:y.toNat<128:=by omega
      rw[q1,q2];simpa [HX1.out]using Mid.ok hs hMi.out.good hnb.out (by rw[HX2.out];exact hlo) hg
     ·refine closeC hMi.out hM0 hM1 (Ba:=W0.heap.size+1) (Bt:=W0.heap.size) (by have:=HS.out;omega) HS.out (fun hg=> ?_);obtain⟨q1,q2⟩:=hstep.out G HGe.out hg;rw[HM.out]at q1;have hlo:128≤y.toNat:=by omega
      rw[q1,q2];exact Mid.cont hs hMi.out.good hnb.out (by rw[HX2.out];exact hlo) hg
 case done=>
  rintro D ys W hD rfl ⟨m,sg,h⟩ hK;have cz:=h.bz.cell;have cr:=h.b0.cell;have fr:=h.b0.frozen;have ce:=h.b1.cell;have fe:=h.b1.frozen;have ge:=(h.bl.cell (p:=⟨2,0,none⟩) g0).trans e0;have hMi:=Lib.hid h;have HK:=Lib.hid hK;clear h H0 BT BA b0 b1 b2 b3 b4 hBl1 c0 c1 e0 e1 hK
  go_wp2_with fail
  go_region
  all_goals go_wp2_with fail
  all_goals
   rw[Exit.noGoto_ret];have bx0:Boxed ((W.setCell ⟨w.heap.size,0,none⟩ (.int .i64 0)).setCell ⟨w.heap.size+1,0,none⟩ (.iface 352 (.pointer (some a0)))).drew w.heap.size 3 (.int .i64 0):=(hMi.out.b0.set (.int .i64 0)).other (show w.heap.size≠w.heap.size+1 by omega) (.iface 352 (.pointer (some a0)));have bx1:Boxed ((W.setCell ⟨w.heap.size,0,none⟩ (.int .i64 0)).setCell ⟨w.heap.size+1,0,none⟩ (.iface 352 (.pointer (some a0)))).drew (w.heap.size+1) 242 (.iface 352 (.pointer (some a0))):=(hMi.out.b1.other (show w.heap.size+1≠w.heap.size by omega) (.int .i64 0)).set (.iface 352 (.pointer (some a0)));have hK2:=keepObj (((KeepsOthers.setCell W ⟨w.heap.size,0,none⟩ (.int .i64 0)).trans (KeepsOthers.setCell _ ⟨w.heap.size+1,0,none⟩ (.iface 352 (.pointer (some a0))))).trans (KeepsOthers.drew _)) HK.out rfl;refine⟨by simp,.inl ⟨_,_,rfl,run_takeDeferred hK2,?_⟩⟩;have r0:=(z48 bx0 (grownBy_putObj' _ D (.deferred none)) (fun r e=>by cases e;exact⟨_,hK2,rfl⟩)).cell;have r1:=(z48 bx1 (grownBy_putObj' _ D (.deferred none)) (fun r e=>by cases e;exact⟨_,hK2,rfl⟩)).cell;refine⟨.tuple #[.int .i64 0,.iface 352 (.pointer (some a0))],by simp[results,Tryz.results182,go_sem,r0,r1],?_⟩
   have hgo:=(hMi.out.good (begs_all s a)).go;rw[z144,show a+(s.length-a)=s.length by omega,List.drop_length]at hgo;unfold NumPost;rw[rd_err hin hgo];exact⟨rfl,(((hMi.out.bl.setCell (p:=⟨w.heap.size,0,none⟩) (Nat.le_refl _) _).setCell (p:=⟨w.heap.size+1,0,none⟩) (by dsimp only;omega) _).drew).trans (belowK_b (w:=w) (Nat.le_refl _) _ D _ _ (by omega) hK2 rfl rfl)⟩
 case stop=>
  rintro D c pre W hD hSp ⟨hbl,hO⟩ hK;have HK:=Lib.hid hK;have HL:=Lib.hid hbl;rcases hO with⟨rfl,bx0,bx1,hgd⟩|⟨rfl,m,sg,z,bm,bs,bz,bx0,bx1,hz,hgd⟩
  ·refine wpIn_wide.2 ?_;have hgo:=hgd hSp;clear H0 BT BA b0 b1 b2 b3 b4 hBl1 c0 c1 e0 e1 hK hgd hbl
   go_wp2_with fail
   rw[Exit.noGoto_ret];have hK2:=HK.out;refine⟨by simp,.inl ⟨_,_,rfl,run_takeDeferred hK2,?_⟩⟩;have r0:=(z48 bx0 (grownBy_putObj' _ D (.deferred none)) (fun r e=>by cases e;exact⟨_,hK2,rfl⟩)).cell;have r1:=(z48 bx1 (grownBy_putObj' _ D (.deferred none)) (fun r e=>by cases e;exact⟨_,hK2,rfl⟩)).cell;refine⟨.tuple #[.int .i64 0,.iface 352 (.pointer (some a1))],by simp[results,Tryz.results182,go_sem,r0,r1],?_⟩;unfold NumPost;rw[rd_err hin hgo];exact⟨rfl,HL.out.trans (belowK_b (w:=w) (Nat.le_refl _) _ D _ _ (by omega) hK2 rfl rfl)⟩
  ·have HR:=Lib.hid (rd_ok hin (hgd hSp));have hb2:W.heap[b]?=some (.cells #[.string (str s),.int .i64 a] 250 (0,0)):=(hbl.block b hblt).trans HB.out;have d0:W.cell? ⟨b,0,none⟩=some (.string (str s)):=z59 hb2 0;have d1:W.cell? ⟨b,0+1,none⟩=some (.int .i64 a):=z59 hb2 1;have d2:W.frozen? ⟨b,0+1,none⟩=false:=blk_frozen hb2 1;have cm:=bm.cell;have cs:=bs.cell;have cz:=bz.cell;have cr:=bx0.cell;have fr:=bx0.frozen;have ce:=bx1.cell;have fe:=bx1.frozen;have hHB:=Lib.hid hb2;have hlz:(((z:Int)+1)==0)=false:=by simp;omega
   obtain⟨hm63,hsg1,hz0,hz10,hzl⟩:=rdGo_bound (s.drop a) 0 (0,0) (by omega) (by decide) (.inl rfl) (hgd hSp);have hm63':(m:Int)<9223372036854775808:=by omega
   simp only[List.length_drop]at hzl;clear H0 BT BA b0 b1 b2 b3 b4 hBl1 c0 c1 e0 e1 hK hgd hbl hb2;refine wpIn_wide.2 ?_;by_cases hsg:sg=1;all_goals
    first
     |have hsgB:((sg:Int)==1)=true:=by simp;omega
     |have hsgB:((sg:Int)==1)=false:=by simp;omega
    have HSG:=Lib.hid hsg;clear hsg
    go_wp2_with fail
    have hw1:IntKind.i64.wrap ((a:Int)+((z:Int)+1))=(a:Int)+((z:Int)+1):=IntWalk.i64_in _ (by omega);refine z45 8 hmix (by kernel_rfl) ?_;simp only[List.take_succ_cons,List.take_zero,List.drop_succ_cons,List.drop_zero]
    iterate 8 still_step
    refine wpStill_nil ?_;clear hw1
    go_wp2_with fail
    rw[Exit.noGoto_ret];obtain⟨hK2,r0,r1,hgr,hbk⟩:=closeOk HL.out hHB.out hblt HK.out (by omega) bx0 bx1 rfl;refine⟨by simp,.inl ⟨_,_,rfl,run_takeDeferred hK2,?_⟩⟩;refine⟨_,by simp[results,Tryz.results182,go_sem,r0,r1];rfl,?_⟩;unfold NumPost;rw[HR.out];first
     |(rw[if_pos HSG.out];exact⟨rfl,hgr,hbk⟩)
     |(rw[if_neg HSG.out];exact⟨rfl,hgr,hbk⟩)
theorem number_any(s:List UInt8)(a:Int)(b:Nat)(a0 a1:Addr)(w:World)(hs:s.length<1125899906842624)(ha0: -9223372036854775808≤a)(ha1:a≤9223372036854775807)
  (hG:Glob w a0 a1) (hb:w.heap[b]?=some (.cells #[.string (str s),.int .i64 a] 250 (0,0))):
  Calls Tryz.prog 182 #[.pointer (some ⟨b,0,none⟩)] w (NumPost s a b a0 a1 w):=by
 by_cases hin:0≤a∧a<s.length
 ·obtain⟨a,rfl⟩:=Int.eq_ofNat_of_zero_le hin.1;exact number_go s a b a0 a1 w hs (by omega) hG hb
 ·refine(number_out s a b a0 a1 w hs ha0 ha1 hG hb hin).mono ?_;rintro e w' ⟨rfl,hbl⟩;unfold NumPost;rw[rd_out hin];exact⟨rfl,hbl⟩
theorem blk_new(w:World)(t:TypeId)(cs:Array Value):(w.alloc (.cells cs t)).heap[w.heap.size]?=some (.cells cs t (0,0)):=World.alloc_heap_new w _
theorem below_new{w w':World}{o:Obj}(hg:(w.alloc o).grownBy w' (some w.heap.size)):Below w.heap.size w w':=
 ((Below.refl w.heap.size w).alloc (Nat.le_refl _) o).grown hg (by simp) (fun k e=>by cases e;exact Nat.le_refl _)
set_option maxRecDepth 10000 in
theorem ReadNum_any(s:List UInt8)(a:Int)(a0 a1:Addr)(w:World)(hs:s.length<1125899906842624)(ha0: -9223372036854775808≤a)(ha1:a≤9223372036854775807)(hG:Glob w a0 a1):
  Calls Tryz.prog 124 #[.string (str s),.int .i64 a] w fun e w'=>
   e=.returned (numRes (z36 s a))∧Below w.heap.size w w':=by
 have hmix:Tryz.prog.follows .mixedOrders=true:=by kernel_rfl
 have hB1:Below w.heap.size w (w.alloc (.cells #[.string (str s),.int .i64 a] 250)):=(Below.refl _ _).alloc (Nat.le_refl _) _;have hG1:=hG.ext hB1;have HN:=Lib.hid (number_any s a w.heap.size a0 a1 _ hs ha0 ha1 hG1 (blk_new w 250 #[.string (str s),.int .i64 a]));have HG:=Lib.hid hG;clear hG hG1
 go_enter Tryz.func124,Tryz.ntmps124
 go_wp2_with fail
 refine HN.out.mono ?_;intro e w' hp;unfold NumPost at hp;cases hr:rd s a with
 |error t=>
  rw[hr]at hp;have hrn:z36 s a=none:=by simp[z36,hr]
  have HRN:=Lib.hid hrn;clear hr hrn;cases t
  ·obtain⟨rfl,hbl⟩:=hp;have hbl':=hB1.trans (hbl.mono (by simp));have HW:=Lib.hid (wrong_end w' a0 a1 (HG.out.ext hbl'))
   go_wp2_with fail
   refine HW.out.mono ?_;rintro e w2 ⟨rfl,rfl⟩
   go_wp2_with fail
   go_ret3
   exact⟨by rw[HRN.out];rfl,hbl'⟩
  ·obtain⟨rfl,hbl⟩:=hp;have hbl':=hB1.trans (hbl.mono (by simp));have HW:=Lib.hid (wrong_form w' a0 a1 (HG.out.ext hbl'))
   go_wp2_with fail
   refine HW.out.mono ?_;rintro e w2 ⟨rfl,rfl⟩
   go_wp2_with fail
   go_ret3
   exact⟨by rw[HRN.out];rfl,hbl'⟩
 |ok p=>
  obtain⟨n,z⟩:=p;rw[hr]at hp;have hrn:z36 s a=some (n,a+z):=by simp[z36,hr]
  have HRN:=Lib.hid hrn;clear hr hrn;obtain⟨rfl,hgr,hbk⟩:=hp;have hbl':=below_new hgr;have HW:=Lib.hid (wrong_nil w' a0 a1 (HG.out.ext hbl'));have c1:w'.cell? ⟨w.heap.size,0+1,none⟩=some (.int .i64 (a+z)):=z59 hbk 1
  go_wp2_with fail
  refine HW.out.mono ?_;rintro e w2 ⟨rfl,rfl⟩
  go_wp2_with fail
  refine z45 5 hmix (by kernel_rfl) ?_;simp only[List.take_succ_cons,List.take_zero,List.drop_succ_cons,List.drop_zero]
  iterate 5 still_step
  refine wpStill_nil ?_
  go_wp2_with fail
  go_ret3
  exact⟨by rw[HRN.out];rfl,hbl'.drew⟩
theorem Text_any(s:List UInt8)(w:World)(hs:s.length≤9223372036854775807):
  Calls Tryz.prog 93 #[.string (str s)] w fun e w'=>
   e=.returned (textRes s)∧Below w.heap.size w w':=by
 by_cases hl:s.length≤10000
 ·have hnl:=z87 (s.length:Int)
  go_enter Tryz.func93,Tryz.ntmps93
  go_wp2_with fail
  refine(Num_any _ (by omega) (by omega) _).mono ?_;rintro e w2 ⟨rfl,hb2⟩
  go_wp2_with fail
  go_ret2
  exact⟨by rw[textRes,if_pos hl];rfl,hb2⟩
 ·go_enter Tryz.func93,Tryz.ntmps93
  go_wp2_with fail
  go_ret2
  exact⟨by rw[textRes,if_neg hl];rfl,Below.refl _ _⟩
def z98(s:List UInt8)(a:Int)(b:Nat)(a0 a1:Addr)(w:World)(e:Ending)(w':World):Prop:=
 match rdW s a with
 | .ok (t,z)=>e=.returned (.tuple #[.string (str t),.nilIface])∧w.grownBy w' (some b)∧w'.heap[b]?=some (.cells #[.string (str s),.int .i64 z] 250 (0,0))
 | .error false=>e=.returned (.tuple #[.string (str []),.iface 352 (.pointer (some a0))])∧w.grownBy w' (some b)
 | .error true=>e=.returned (.tuple #[.string (str []),.iface 352 (.pointer (some a1))])∧w.grownBy w' (some b)
theorem z177{w w':World}{r:Option Nat}(h:Below w.heap.size w w'):w.grownBy w' r:=⟨h.os,h.tape,h.output,h.size,fun k hk _=>h.block k hk⟩
theorem z120{w w':World}{r:Option Nat}(h:w.grownBy w' r):w.grownBy w'.drew r:=⟨h.os,h.tape,h.output,h.size,h.block⟩
theorem grown_trans{w w' w2:World}{r:Option Nat}(h:w.grownBy w' r)(h2:w'.grownBy w2 r):w.grownBy w2 r:=
 ⟨h2.os.trans h.os,h2.tape.trans h.tape,h2.output.trans h.output,Nat.le_trans h.size h2.size,fun k hk hn=>(h2.block k (Nat.lt_of_lt_of_le hk h.size) hn).trans (h.block k hk hn)⟩
set_option maxHeartbeats 1000000 in
set_option maxRecDepth 100000 in
theorem words_any(s:List UInt8)(a:Int)(b:Nat)(a0 a1:Addr)(w:World)(hs:s.length<1125899906842624)(ha0: -9223372036854775808≤a)(ha1:a≤9223372036854775807)
  (hG:Glob w a0 a1) (hb:w.heap[b]?=some (.cells #[.string (str s),.int .i64 a] 250 (0,0))) (hbG:2≠b∧3≠b):
  Calls Tryz.prog 184 #[.pointer (some ⟨b,0,none⟩)] w (z98 s a b a0 a1 w):=by
 have hmix:Tryz.prog.follows .mixedOrders=true:=by kernel_rfl
 have HN:=Lib.hid (number_any s a b a0 a1 w hs ha0 ha1 hG hb);have HG:=Lib.hid hG;have HB:=Lib.hid hb;clear hG hb
 go_enter Tryz.func184,Tryz.ntmps184
 go_wp2_with fail
 refine HN.out.mono ?_;intro e w' hp;unfold NumPost at hp;cases hr:rd s a with
 |error t=>
  rw[hr]at hp;have hrn:rdW s a=.error t:=by simp[rdW,hr]
  have HRN:=Lib.hid hrn;clear hr hrn;cases t
  ·obtain⟨rfl,hbl⟩:=hp
   go_wp2_with fail
   go_ret2
   unfold z98;rw[HRN.out];exact⟨rfl,z177 hbl⟩
  ·obtain⟨rfl,hbl⟩:=hp
   go_wp2_with fail
   go_ret2
   unfold z98;rw[HRN.out];exact⟨rfl,z177 hbl⟩
 |ok p=>
  obtain⟨n,z⟩:=p;rw[hr]at hp;have hbd:=rd_bound hr;have HR:=Lib.hid hr;clear hr;obtain⟨rfl,hgr,hbk⟩:=hp;have e0:=(World.cell?_of_block (w:=w) (a:=⟨2,0,none⟩) (hgr.block 2 (z68 HG.out.e0) (by simpa using hbG.1))).trans HG.out.e0;have e1:=(World.cell?_of_block (w:=w) (a:=⟨3,0,none⟩) (hgr.block 3 (z68 HG.out.e1) (by simpa using hbG.2))).trans HG.out.e1;have d0:w'.cell? ⟨b,0,none⟩=some (.string (str s)):=z59 hbk 0;have d1:w'.cell? ⟨b,0+1,none⟩=some (.int .i64 (a+z)):=z59 hbk 1;have d2:w'.frozen? ⟨b,0+1,none⟩=false:=blk_frozen hbk 1;have HBK:=Lib.hid hbk;clear hbk;by_cases hbad:n<0∨10000<n
  ·have HRN:Hid (rdW s a=.error true):=by show _=_;unfold rdW;rw[HR.out];exact if_pos hbad
   have HBD:=Lib.hid hbad;clear hbad;by_cases hn0:n<0
   ·go_wp2_with fail
    go_region
    go_wp2_with fail
    go_ret2
    unfold z98;rw[HRN.out];exact⟨rfl,z120 hgr⟩
   ·have hn1:10000<n:=by have:=HBD.out;omega
    go_wp2_with fail
    go_region
    go_wp2_with fail
    go_ret2
    unfold z98;rw[HRN.out];exact⟨rfl,z120 hgr⟩
  ·have hn0:0≤n:=by omega
   have hn1:n≤10000:=by omega
   clear hbad;by_cases hfit:(s.length:Int) - (a+z)<n
   ·have HRN:Hid (rdW s a=.error false):=by
     show _=_;unfold rdW;rw[HR.out];dsimp only;rw[if_neg (by omega),if_pos hfit]
    have hhas:∀W,Calls Tryz.prog 236 #[.string (str s),.int .i64 (a+z),.int .i64 n] W fun e w'=>e=.returned (.bool false)∧w'=W:=fun W=>by
     have:=has_any s (a+z) n W (by omega) (by omega) (by omega)
     rwa [decide_eq_false (by omega)]at this
    have HH:=Lib.hid hhas;clear hhas
    go_wp2_with fail
    refine z45 10 hmix (by kernel_rfl) ?_;simp only[List.take_succ_cons,List.take_zero,List.drop_succ_cons,List.drop_zero]
    iterate 9 still_step
    still_call (HH.out _)
    refine wpStill_nil ?_
    go_wp2_with fail
    go_region
    all_goals go_wp2_with fail
    all_goals go_ret2
    all_goals unfold z98
    all_goals rw[HRN.out]
    all_goals exact⟨rfl,z120 (z120 hgr)⟩
   ·have HRN:Hid (rdW s a=.ok ((s.drop (a+z).toNat).take n.toNat,a+z+n)):=by
     show _=_;unfold rdW;rw[HR.out];dsimp only;rw[if_neg (by omega),if_neg hfit]
    have hhas:∀W,Calls Tryz.prog 236 #[.string (str s),.int .i64 (a+z),.int .i64 n] W fun e w'=>e=.returned (.bool true)∧w'=W:=fun W=>by
     have:=has_any s (a+z) n W (by omega) (by omega) (by omega)
     rwa [decide_eq_true (by omega)]at this
    have HH:=Lib.hid hhas;clear hhas
    go_wp2_with fail
    refine z45 10 hmix (by kernel_rfl) ?_;simp only[List.take_succ_cons,List.take_zero,List.drop_succ_cons,List.drop_zero]
    iterate 9 still_step
    still_call (HH.out _)
    refine wpStill_nil ?_
    go_wp2_with fail
    have hb3:(w'.setCell ⟨b,1,none⟩ (.int .i64 (a+z+n))).heap[b]?=some (.cells #[.string (str s),.int .i64 (a+z+n)] 250 (0,0)):=by
     have:=HBK.out;simp[World.setCell,Array.getElem?_modify,this]
    have hg3:w.grownBy (w'.setCell ⟨b,1,none⟩ (.int .i64 (a+z+n))) (some b):=grown_trans hgr ⟨rfl,rfl,rfl,by simp,fun k _ hk=>Below.heap_setCell _ _ _ k (fun e=>hk (by rw[e]))⟩;obtain⟨W3,hW3⟩:∃W3,(w'.setCell ⟨b,1,none⟩ (.int .i64 (a+z+n)))=W3:=⟨_,rfl⟩
    rw[hW3]at hb3 hg3 ⊢;clear hW3 d0 d1 d2 hgr e0 e1;have d0:W3.cell? ⟨b,0,none⟩=some (.string (str s)):=z59 hb3 0;have d1:W3.cell? ⟨b,0+1,none⟩=some (.int .i64 (a+z+n)):=z59 hb3 1;have HB3:=Lib.hid hb3;clear hb3;have hw1:IntKind.i64.wrap (a+z)=a+z:=IntWalk.i64_in _ (by omega);have hw5:(0:Int)≤a+z+n:=by omega
    have hw2:(0:Int)≤a+z:=by omega
    have hw3:a+z≤a+z+n:=by omega
    have hw4:a+z+n≤s.length:=by omega
    refine z45 16 hmix (by kernel_rfl) ?_;simp only[List.take_succ_cons,List.take_zero,List.drop_succ_cons,List.drop_zero]
    iterate 16 still_step
    refine wpStill_nil ?_;clear hw1
    go_wp2_with fail
    go_ret2
    unfold z98;rw[HRN.out];refine⟨?_,z120 (z120 hg3),HB3.out⟩;have e1:(a+z+n).toNat-(a+z).toNat=n.toNat:=by omega
    simp[e1]
theorem glob_lt{w:World}{a0 a1:Addr}(hG:Glob w a0 a1):2≠w.heap.size∧3≠w.heap.size:=by
 have h0:=z68 hG.e0;have h1:=z68 hG.e1
 dsimp only at h0 h1
 omega
set_option maxRecDepth 10000 in
theorem ReadText_any(s:List UInt8)(a:Int)(a0 a1:Addr)(w:World)(hs:s.length<1125899906842624)(ha0: -9223372036854775808≤a)(ha1:a≤9223372036854775807)(hG:Glob w a0 a1):
  Calls Tryz.prog 125 #[.string (str s),.int .i64 a] w fun e w'=>e=.returned (readRes (z29 s a))∧Below w.heap.size w w':=by
 have hmix:Tryz.prog.follows .mixedOrders=true:=by kernel_rfl
 have hB1:Below w.heap.size w (w.alloc (.cells #[.string (str s),.int .i64 a] 250)):=(Below.refl _ _).alloc (Nat.le_refl _) _;have hG1:=hG.ext hB1;have HN:=Lib.hid (words_any s a w.heap.size a0 a1 _ hs ha0 ha1 hG1 (blk_new w 250 #[.string (str s),.int .i64 a]) (glob_lt hG));have HG:=Lib.hid hG;clear hG hG1
 go_enter Tryz.func125,Tryz.ntmps125
 go_wp2_with fail
 refine HN.out.mono ?_;intro e w' hp;unfold z98 at hp;cases hr:rdW s a with
 |error t=>
  rw[hr]at hp;have hrn:z29 s a=none:=by simp[z29,hr]
  have HRN:=Lib.hid hrn;clear hr hrn;cases t
  ·obtain⟨rfl,hgr⟩:=hp;have hbl':=below_new hgr;have HW:=Lib.hid (wrong_end w' a0 a1 (HG.out.ext hbl'))
   go_wp2_with fail
   refine HW.out.mono ?_;rintro e w2 ⟨rfl,rfl⟩
   go_wp2_with fail
   go_ret3
   exact⟨by rw[HRN.out];rfl,hbl'⟩
  ·obtain⟨rfl,hgr⟩:=hp;have hbl':=below_new hgr;have HW:=Lib.hid (wrong_form w' a0 a1 (HG.out.ext hbl'))
   go_wp2_with fail
   refine HW.out.mono ?_;rintro e w2 ⟨rfl,rfl⟩
   go_wp2_with fail
   go_ret3
   exact⟨by rw[HRN.out];rfl,hbl'⟩
 |ok p=>
  obtain⟨t,z⟩:=p;rw[hr]at hp;have hrn:z29 s a=some (t,z):=by simp[z29,hr]
  have HRN:=Lib.hid hrn;clear hr hrn;obtain⟨rfl,hgr,hbk⟩:=hp;have hbl':=below_new hgr;have HW:=Lib.hid (wrong_nil w' a0 a1 (HG.out.ext hbl'));have c1:w'.cell? ⟨w.heap.size,0+1,none⟩=some (.int .i64 z):=z59 hbk 1
  go_wp2_with fail
  refine HW.out.mono ?_;rintro e w2 ⟨rfl,rfl⟩
  go_wp2_with fail
  refine z45 5 hmix (by kernel_rfl) ?_;simp only[List.take_succ_cons,List.take_zero,List.drop_succ_cons,List.drop_zero]
  iterate 5 still_step
  refine wpStill_nil ?_
  go_wp2_with fail
  go_ret3
  exact⟨by rw[HRN.out];rfl,hbl'.drew⟩
end Go.Proofs.YtcpaleaajdilgaaGreatDoor
end

section
namespace Go.Proofs.YtcpaleaajdilgaaGreatDoor
open Go Go.RowKit Go.Mor Go.Sh
structure GlobN(a0 a1:Addr)(n:Nat)(w:World):Prop where
 g:Glob w a0 a1
 sz:n≤w.heap.size
 h0:a0.block<n
 h1:a1.block<n
 hv:10≤n
def gl(a0 a1:Addr)(n:Nat):Sh.Glob where
 G:=GlobN a0 a1 n
 n:=n
 st:=fun w w' h hk=>by
  have hv:=h.hv;refine⟨⟨globU_st h.hv h.g.toGlobU hk,?_,?_,h.g.ne,?_,?_⟩,size_st h.sz hk,h.h0,h.h1,h.hv⟩
  ·rw[World.cell?_of_block (w:=w) (hk _ (show 2<n by omega))];exact h.g.e0
  ·rw[World.cell?_of_block (w:=w) (hk _ (show 3<n by omega))];exact h.g.e1
  ·rw[hk _ h.h0];exact h.g.b0
  ·rw[hk _ h.h1];exact h.g.b1
 le:=fun w h=>h.sz
theorem sc_up{a0 a1:Addr}{m f:Nat}{xs:List TV}{os:List MO}{y:TV}{os':List MO}(h:SCalls Tryz.prog (gl0 m) f xs os y os'):SCalls Tryz.prog (gl a0 a1 m) f xs os y os':=
 sc_of (g:=gl0 m) (g':=gl a0 a1 m) rfl (fun w (hG:GlobN a0 a1 m w)=>(⟨hG.g.toGlobU,hG.sz,hG.hv⟩:GlobN0 m w)) h
def numTV(r:Option (Int×Int)):TV:=match r with|some (n,b)=> .tuple [I n,I b,I 0]|none=> .tuple [I 0,I 0,I 10]
def readTV(r:Option (List UInt8×Int)):TV:=match r with|some (t,b)=> .tuple [S (str t),I b,I 0]|none=> .tuple [S (str []),I 0,I 10]
def textTV(s:List UInt8):TV:=if s.length≤10000 then .tuple [S (str (text s)),I 0] else .tuple [S (str []),I 10]
def prim1:Oracle:=fun f xs os=>
 if Nat.beq f 64 then match xs,os with
  |[.pv (.v (.int .i64 x))],[]=>if in64 x then some (S (str (num x)),[])else none
  |_,_=>none
 else if Nat.beq f 124 then match xs,os with
  |[.pv (.v (.string s)),.pv (.v (.int .i64 a))],[]=>if in64 a&&decide ((bl s).length<1125899906842624)then some (numTV (z36 (bl s) a),[])else none
  |_,_=>none
 else if Nat.beq f 93 then match xs,os with
  |[.pv (.v (.string s))],[]=>if decide ((bl s).length≤9223372036854775807)then some (textTV (bl s),[])else none
  |_,_=>none
 else if Nat.beq f 125 then match xs,os with
  |[.pv (.v (.string s)),.pv (.v (.int .i64 a))],[]=>if in64 a&&decide ((bl s).length<1125899906842624)then some (readTV (z29 (bl s) a),[])else none
  |_,_=>none
 else prim0 f xs os
theorem z152(a0 a1:Addr)(n:Nat):SoundC Tryz.prog (gl a0 a1 n) prim1:=by
 intro f xs os y os' h;unfold prim1 at h;split at h
 ·rename_i hf;obtain rfl:=Nat.eq_of_beq_eq_true hf;split at h<;>try(cases h;done)
  rename_i x;split at h<;>try(cases h;done)
  rename_i hx;cases h;obtain⟨h1,h2⟩:=in64_spec hx;exact z77 (vs:=[.int .i64 x]) (z47 (by kernel_rfl)) (fun w E r=> .pv (.v _)) (fun w _=>Num_any x h1 h2 w)
 split at h
 ·rename_i hf;obtain rfl:=Nat.eq_of_beq_eq_true hf;split at h<;>try(cases h;done)
  rename_i s a;split at h<;>try(cases h;done)
  rename_i hx;cases h;rw[Bool.and_eq_true]at hx;obtain⟨h1,h2⟩:=in64_spec hx.1;refine z77 (vs:=[.string s,.int .i64 a]) (v:=numRes (z36 (bl s) a)) (z47 (by kernel_rfl)) (fun w E r=> ?_) (fun w hG=> ?_)
  ·generalize z36 (bl s) a=q;cases q with
   |none=>exact z140 [_,_,_]
   |some p=>exact z140 [_,_,_]
  ·have:=ReadNum_any (bl s) a a0 a1 w (by simpa using hx.2) h1 h2 hG.g;rw[str_bl]at this;exact this
 split at h
 ·rename_i hf;obtain rfl:=Nat.eq_of_beq_eq_true hf;split at h<;>try(cases h;done)
  rename_i s;split at h<;>try(cases h;done)
  rename_i hx;cases h;refine z77 (vs:=[.string s]) (v:=textRes (bl s)) (z47 (by kernel_rfl)) (fun w E r=> ?_) (fun w hG=> ?_)
  ·unfold textRes textTV;split<;>exact z140 [_,_]
  ·have:=Text_any (bl s) w (by simpa using hx);rw[str_bl]at this;exact this
 split at h
 ·rename_i hf;obtain rfl:=Nat.eq_of_beq_eq_true hf;split at h<;>try(cases h;done)
  rename_i s a;split at h<;>try(cases h;done)
  rename_i hx;cases h;rw[Bool.and_eq_true]at hx;obtain⟨h1,h2⟩:=in64_spec hx.1;refine z77 (vs:=[.string s,.int .i64 a]) (v:=readRes (z29 (bl s) a)) (z47 (by kernel_rfl)) (fun w E r=> ?_) (fun w hG=> ?_)
  ·generalize z29 (bl s) a=q;cases q with
   |none=>exact z140 [_,_,_]
   |some p=>exact z140 [_,_,_]
  ·have:=ReadText_any (bl s) a a0 a1 w (by simpa using hx.2) h1 h2 hG.g;rw[str_bl]at this;exact this
 exact sc_up (prim0_sound n _ _ _ _ _ h)
structure GlobNA(a0 a1:Addr)(n:Nat)(w:World):Prop extends GlobN a0 a1 n w where
 t:GlobT w
def glA(a0 a1:Addr)(n:Nat):Sh.Glob where
 G:=GlobNA a0 a1 n
 n:=n
 st:=fun w w' h hk=>⟨(gl a0 a1 n).st w w' h.toGlobN hk,globT_st h.hv h.t hk⟩
 le:=fun w h=>h.sz
theorem sc_1A{a0 a1:Addr}{m f:Nat}{xs:List TV}{os:List MO}{y:TV}{os':List MO}(h:SCalls Tryz.prog (gl a0 a1 m) f xs os y os'):SCalls Tryz.prog (glA a0 a1 m) f xs os y os':=
 sc_of (g:=gl a0 a1 m) (g':=glA a0 a1 m) rfl (fun w (hG:GlobNA a0 a1 m w)=>hG.toGlobN) h
structure GlobNX(a0 a1:Addr)(n:Nat)(w:World):Prop extends GlobNA a0 a1 n w where
 e:GlobE w
def glX(a0 a1:Addr)(n:Nat):Sh.Glob where
 G:=GlobNX a0 a1 n
 n:=n
 st:=fun w w' h hk=>⟨(glA a0 a1 n).st w w' h.toGlobNA hk,globE_st h.hv h.e hk⟩
 le:=fun w h=>h.sz
theorem sc_AX{a0 a1:Addr}{m f:Nat}{xs:List TV}{os:List MO}{y:TV}{os':List MO}(h:SCalls Tryz.prog (glA a0 a1 m) f xs os y os'):SCalls Tryz.prog (glX a0 a1 m) f xs os y os':=
 sc_of (g:=glA a0 a1 m) (g':=glX a0 a1 m) rfl (fun w (hG:GlobNX a0 a1 m w)=>hG.toGlobNA) h
theorem sc_1X{a0 a1:Addr}{m f:Nat}{xs:List TV}{os:List MO}{y:TV}{os':List MO}(h:SCalls Tryz.prog (gl a0 a1 m) f xs os y os'):SCalls Tryz.prog (glX a0 a1 m) f xs os y os':=sc_AX (sc_1A h)
theorem sc_EX{a0 a1:Addr}{m f:Nat}{xs:List TV}{os:List MO}{y:TV}{os':List MO}(h:SCalls Tryz.prog (glE m) f xs os y os'):SCalls Tryz.prog (glX a0 a1 m) f xs os y os':=
 sc_of (g:=glE m) (g':=glX a0 a1 m) rfl (fun w (hG:GlobNX a0 a1 m w)=>(⟨⟨⟨hG.g.toGlobU,hG.sz,hG.hv⟩,hG.t⟩,hG.e⟩:GlobNE m w)) h
end Go.Proofs.YtcpaleaajdilgaaGreatDoor
end

section
namespace Go.Proofs.YtcpaleaajdilgaaGreatDoor
open Go.ChangeShapes Go.WideShapes Go.ChangeAt Go.RowKit Go.Lib Go.Mor Go.Deep
open Go.ChangeMaps (open_string shut_string)
abbrev laidLUTEW:List (String×DataW Unit):=[("math/bits.deBruijn32tab",Rows.laid_math_bits_deBruijn32tab),("math/bits.deBruijn64tab",Rows.laid_math_bits_deBruijn64tab),("internal/strconv.uint64pow10",Rows.laid_internal_strconv_uint64pow10),("unicode/utf8.acceptRanges",Rows.laid_unicode_utf8_acceptRanges),("moraine/wire.errEnd",Rows.laid_moraine_wire_errEnd),("moraine/wire.errForm",Rows.laid_moraine_wire_errForm),("strconv.ErrRange",Rows.laid_strconv_ErrRange),("strconv.ErrSyntax",Rows.laid_strconv_ErrSyntax),("unicode/utf8.first",Rows.laid_unicode_utf8_first)]
theorem pow_eq:(Rows.laid_internal_strconv_uint64pow10:DataW Unit)=Lib.tabData .u64 Lib.pow10Tab:=by kernel_rfl
theorem mx_of{W:World}(h:W.ShapedOpen Tryz.prog):∃k,W.cell? ⟨4,0,none⟩=some (.int .i64 k):=
 cell_of_shapedOpen_int (zero:= #[.int .i64 0]) (t:=3) h (of_decide_eq_true (by kernel_rfl)) (by kernel_rfl) rfl (by kernel_rfl) (by kernel_rfl) Tryz.underlying3
theorem star: "*" ++ "errors.errorString" = "*errors.errorString" :=by decide
theorem rowErr(u:TypeId)(h:Tryz.prog.typeName? 3 u=some "*errors.errorString"):u=352:=
 typeName_ptr_named (nm:= "errors.errorString") (by rw[star];kernel_rfl) (by kernel_rfl) (by decide) u (by rw[star];exact h)
theorem glob_of_laidUTEW{W:World}(hL:laidMetH Tryz.prog laidLUTEW W)(hsh:W.ShapedOpen Tryz.prog):∃a0 a1,(glX a0 a1 W.heap.size).G W:=by
 have hL':laidMet Tryz.prog laidLUTEW W:=hL;have hU:=globU_of hL' (.tail _ (.tail _ (.tail _ (.tail _ (.tail _ (.tail _ (.tail _ (.tail _ (.head _))))))))) (.tail _ (.tail _ (.tail _ (.head _))));have hv:=hv_of hsh;have hT:GlobT W:=⟨Lib.tabIs_of_head pow10_named (t:=326) (by kernel_rfl) Tryz.underlying326 Tryz.underlying247 (by kernel_rfl) (by kernel_rfl) (by have h:=hL'.tail.tail;rw[pow_eq]at h;exact h),mx_of hsh⟩
 obtain⟨p0,p1,_,_,_,_,_,_,pv0,pv1,_⟩:=laid_sentinels2 (g0:=7) (g1:=6) (ti:=242) (tp:=352) (te:=354) (ts:=9) hL'.tail.tail.tail.tail.tail.tail (by kernel_rfl) (by kernel_rfl) (by kernel_rfl) (by kernel_rfl)
  Tryz.underlying242 rowErr Tryz.underlying352 Tryz.underlying354 rfl rfl Tryz.underlying9 (by kernel_rfl) (by kernel_rfl)
 have hE:GlobE W:=by
  refine⟨⟨352,.pointer (some p1),?_⟩,⟨352,.pointer (some p0),?_⟩⟩
  ·have:=World.var?_cell (g:=6) (by kernel_rfl) pv1 0;simpa using this
  ·have:=World.var?_cell (g:=7) (by kernel_rfl) pv0 0;simpa using this
 obtain⟨a0,a1,s0,s1,c0,c1,t0,t1,hv0,hv1,_,_,_,_,_,_,hne,hb0,hb1⟩:=laid_sentinels2 (g0:=2) (g1:=3) (ti:=242) (tp:=352) (te:=354) (ts:=9) hL'.tail.tail.tail.tail (by kernel_rfl) (by kernel_rfl) (by kernel_rfl) (by kernel_rfl)
  Tryz.underlying242 rowErr Tryz.underlying352 Tryz.underlying354 rfl rfl Tryz.underlying9 (by kernel_rfl) (by kernel_rfl)
 have hG:Glob W a0 a1:=by
  refine⟨hU,?_,?_,hne,⟨c0,t0,hb0⟩,⟨c1,t1,hb1⟩⟩
  ·have:=World.var?_cell (g:=2) (by kernel_rfl) hv0 0;simpa using this
  ·have:=World.var?_cell (g:=3) (by kernel_rfl) hv1 0;simpa using this
 have hN:GlobN a0 a1 W.heap.size W:=⟨hG,Nat.le_refl _,heap_lt hb0,heap_lt hb1,hv⟩
 exact⟨a0,a1,(⟨⟨hN,hT⟩,hE⟩:GlobNX a0 a1 W.heap.size W)⟩
theorem laid_metUTEW(os:Os)(args:Array Value):laidMet Tryz.prog laidLUTEW ((laidWorld os).forCall (fun _ _=>0) ⟨#[],args,[]⟩).memory:=
 (LaidIn.of_run [8,9,5,1,2,N0,3,N0+1,7,N0+2,6,N0+3,0] 8 (by kernel_rfl) (by kernel_rfl) (by kernel_rfl) (by kernel_rfl)).met
end Go.Proofs.YtcpaleaajdilgaaGreatDoor
end

section
namespace Go.Proofs.YtcpaleaajdilgaaGreatDoor
open Go Go.RowKit Go.Mor Go.Sh
set_option maxRecDepth 100000
set_option maxHeartbeats 4000000
theorem bbNeq(p q:Bool):scal Tryz.prog (do eqGuard .neq 4 (.const (.bool p)) (.const (.bool q)) (.bool p) (.bool q);binOp .neq 4 (.bool p) (.bool q))=some (.pv (.v (.bool (p !=q))),.no):=by
 cases p<;>cases q<;>kernel_rfl
theorem bNV:((false !=false)=false)∧((false !=true)=true)∧((true !=false)=true)∧((true !=true)=false):=⟨rfl,rfl,rfl,rfl⟩
theorem eqTyR(a b c d:Int):z22 Tryz.prog (Op.equal 46 (.agg #[.int .i64 a,.int .i64 b]) (.agg #[.int .i64 c,.int .i64 d]))=some (eqTy ⟨a,b⟩ ⟨c,d⟩):=by
 unfold Op.equal;obtain⟨n,hn⟩:∃n,Op.maxDepth=n+1+1:=⟨_,rfl⟩
 rw[hn,z88 _ _ _ _ (by kernel_rfl) (by kernel_rfl)];obtain⟨f,g,hl,nf,ng,pf,pg,ef,eg⟩:=tyFields;rw[hl];simp only[Op.eqFields,nf,ng,ne_eq,not_false_eq_true,if_true,z28,pf,pg,ef,eg,Option.bind_some];unfold eqTy;cases h:(a==c)
 ·simp[h,z81]
 ·cases h2:(b==d)<;>simp[h,h2,z81,z28,pg,eg,ng]
theorem neqTy(a b c d:Int):scal Tryz.prog (do eqGuard .neq 46 (.const (.agg #[.int .i64 a,.int .i64 b])) (.const (.agg #[.int .i64 c,.int .i64 d])) (.agg #[.int .i64 a,.int .i64 b]) (.agg #[.int .i64 c,.int .i64 d]);binOp .neq 46 (.agg #[.int .i64 a,.int .i64 b]) (.agg #[.int .i64 c,.int .i64 d]))=
  some (.pv (.v (.bool (!eqTy ⟨a,b⟩ ⟨c,d⟩))),.no):=by
 unfold scal;rw[z28];have hg:z22 Tryz.prog (eqGuard .neq 46 (.const (.agg #[.int .i64 a,.int .i64 b])) (.const (.agg #[.int .i64 c,.int .i64 d])) (.agg #[.int .i64 a,.int .i64 b]) (.agg #[.int .i64 c,.int .i64 d]))=some ():=by kernel_rfl
 rw[hg,Option.bind_some];have hb:binOp .neq 46 (.agg #[.int .i64 a,.int .i64 b]) (.agg #[.int .i64 c,.int .i64 d])=(Op.equal 46 (.agg #[.int .i64 a,.int .i64 b]) (.agg #[.int .i64 c,.int .i64 d])>>=fun r=>pure (.bool (!r))):=rfl;rw[hb,z28,eqTyR];rfl
end Go.Proofs.YtcpaleaajdilgaaGreatDoor
end

section
namespace Go.Sh.Cd7
open Go Go.Sh
set_option maxRecDepth 100000
abbrev gQ(a:GA):Prop:=gT Go.Proofs.Tryz.prog a
abbrev a_106:GA:=⟨5,116,[],[],[(0,[0,2,10,10]),(1,[25,25]),(2,[26,26]),(3,[3,7,11,11,27,27]),(4,[5,5,10,10,27,29]),(5,[6,6,30,35]),(6,[7,7,12,12,36,41]),(7,[14,14,16,16,42,46]),(8,[3,4,11,11,13,13,15,15,47,48]),(9,[10,10,47,47,49,53]),(10,[54,58]),(11,[3,3,59,63]),(12,[4,4,64,79]),(13,[11,11,13,13,15,15,17,24,80,115])],[.tmp 10],false⟩
theorem tf_106:gQ a_106:=by unfold gQ gT;kernel_rfl
abbrev a_109:GA:=⟨22,187,[],[],[(0,[0,0]),(1,[26,26]),(2,[27,30]),(3,[31,32]),(4,[33,38]),(5,[39,46]),(6,[47,50]),(7,[51,52]),(8,[53,58]),(9,[59,66]),(10,[3,3,14,14,67,72]),(11,[16,16,73,78]),(12,[79,83]),(13,[84,89]),(14,[23,24,90,99]),(15,[1,2,4,13,15,15,17,22,25,25,100,186])],[.tmp 0],false⟩
theorem tf_109:gQ a_109:=by unfold gQ gT;kernel_rfl
abbrev a_107:GA:=⟨23,110,[],[],[(0,[0,1,5,5]),(1,[9,9]),(2,[10,23]),(3,[6,6,24,51]),(4,[52,54]),(5,[2,2,55,67]),(6,[2,2,55,55,68,68]),(8,[76,76]),(9,[7,7,69,69,75,75,77,84]),(10,[75,75,86,86]),(11,[7,7,69,69,85,85,87,93]),(12,[85,85,95,95]),(13,[7,7,69,69,94,94,96,103]),(14,[7,7,69,69,94,94,105,105]),(7,[70,74,104,104]),(15,[3,3,8,8,104,104,106,109])],[.cell true 8 4,.tmp 5],false⟩
theorem tf_107:gQ a_107:=by unfold gQ gT;kernel_rfl
abbrev a_111:GA:=⟨25,13,[],[],[(0,[4,4]),(1,[5,5]),(2,[6,9]),(3,[0,1,6,6,10,12])],[.tmp 4],false⟩
theorem tf_111:gQ a_111:=by unfold gQ gT;kernel_rfl
abbrev a_40:GA:=⟨27,8,[],[],[(0,[0,1,4,4]),(1,[2,3,5,7])],[.tmp 4],false⟩
theorem tf_40:gQ a_40:=by unfold gQ gT;kernel_rfl
abbrev a_38:GA:=⟨28,50,[],[],[(0,[0,0,2,3]),(1,[7,8]),(2,[1,1,9,9]),(3,[2,3,9,12]),(4,[13,18]),(6,[22,24]),(7,[6,6,25,28]),(8,[29,29]),(9,[19,21,30,40]),(10,[1,1,4,4,41,49])],[.tmp 2,.tmp 3],false⟩
theorem tf_38:gQ a_38:=by unfold gQ gT;kernel_rfl
abbrev a_37:GA:=⟨29,38,[(12,1),(13,1),(14,1),(15,1),(17,1),(20,1),(23,1),(25,1)],[(9,[[(0,8),(2,7),(3,4)]])],[(0,[5,6]),(1,[0,1,9,11]),(2,[12,16]),(3,[17,19]),(4,[20,22]),(5,[23,24]),(6,[25,26]),(7,[27,32]),(8,[7,8,33,34]),(9,[7,8,33,33,35,37])],[.cell true 8 4,.tmp 5,.tmp 6],false⟩
theorem tf_37:gQ a_37:=by unfold gQ gT;kernel_rfl
abbrev a_36:GA:=⟨30,27,[],[],[(0,[0,1,5,5]),(1,[8,9]),(2,[2,3,10,11]),(3,[3,3,5,5,10,10,12,17]),(4,[7,7,18,18]),(5,[2,2,6,6,19,20]),(6,[2,2,6,6,19,19,21,26])],[.cell true 2 4,.tmp 5],false⟩
theorem tf_36:gQ a_36:=by unfold gQ gT;kernel_rfl
abbrev a_41:GA:=⟨31,33,[],[],[(0,[0,1,6,7]),(1,[8,8,12,17]),(2,[18,18]),(3,[2,4,9,9,19,20]),(4,[3,4,6,7,9,9,19,19,21,26]),(5,[11,11,27,27]),(6,[2,2,10,10,28,28]),(7,[2,2,10,10,28,32])],[.tmp 6,.tmp 7],false⟩
theorem tf_41:gQ a_41:=by unfold gQ gT;kernel_rfl
abbrev a_39:GA:=⟨32,14,[],[],[(0,[0,1,4,4]),(1,[2,3,5,5,7,12]),(2,[6,6,13,13])],[.tmp 4],false⟩
theorem tf_39:gQ a_39:=by unfold gQ gT;kernel_rfl
abbrev a_141:GA:=⟨39,27,[],[],[(0,[4,4]),(1,[6,9]),(2,[0,1,10,10]),(3,[4,4,10,10]),(4,[11,13]),(6,[14,14,17,25]),(7,[0,1,5,5,26,26]),(5,[4,4,15,16,26,26]),(8,[0,1,5,5])],[.tmp 4],false⟩
theorem tf_141:gQ a_141:=by unfold gQ gT;kernel_rfl
abbrev a_122:GA:=⟨43,38,[],[],[(0,[0,1,4,4]),(1,[6,18]),(2,[2,3,19,19]),(3,[4,4,19,19]),(4,[20,23]),(6,[24,24,27,36]),(7,[2,3,5,5,37,37]),(5,[4,4,25,26,37,37]),(8,[2,3,5,5])],[.tmp 4],false⟩
theorem tf_122:gQ a_122:=by unfold gQ gT;kernel_rfl
abbrev c_108_0:=kV [4,5] [kO 4 1,kO 5 2,oD 6 (.mov (.val (.string ⟨#[]⟩)))] [1,2,6]
abbrev c_108_1:=kV [2068,2069,2070,2071] [oL 14 true 2 5,oM 15 0,oD 16 (.build [(.int .i64 0),(.int .i64 0)] [(0,1,(vI 1))]),kE 17 111 0 14 15 16,oM 13 17,kY 18 13 0,kY 19 13 1,oM 7 18,oM 8 19] [13,14,15,16,17,18,19]
abbrev c_108_2:=kV [2100,2101,2102,2103] [oL 21 true 2 5,oM 22 0,kK 23 .quo 3 22 2,oD 24 (.build [(.int .i64 0),(.int .i64 0)] [(0,1,(vI 2))]),kE 25 111 0 21 23 24,oM 20 25,kY 26 20 0,kY 27 20 1,oM 9 26,oM 10 27] [20,21,22,23,24,25,26,27]
abbrev c_108_3:=kR [oM 28 8,kN 29 28] [8,28]
abbrev c_108_4:=kR [oD 7 (.mov (.val (.string ⟨#[55]⟩)))] [29]
abbrev c_108_5:=kR [oM 30 10,kN 31 30] [10,29,30]
abbrev c_108_6:=kR [oD 9 (.mov (.val (.string ⟨#[34,97,32,98,34]⟩)))] [31]
abbrev c_108_7:=kR [kA 32 0 4,oL 33 false 1 32] [31,32]
abbrev c_108_8:=kR [kK 35 .eql 3 33 1,oM 34 35] [35]
abbrev c_108_9:=kV [2240,2241,2242,2243] [oM 36 7,oM 37 7,oD 38 (.bin .add 9 (.tmp 37) (.val (.string ⟨#[32,42,32,50,32,45,32,49]⟩))),oM 39 9,oD 40 (.bin .add 9 (.val (.string ⟨#[108,101,110,40]⟩)) (.tmp 39)),oD 41 (.bin .add 9 (.tmp 40) (.val (.string ⟨#[41]⟩))),oM 42 7,oD 43 (.bin .add 9 (.val (.string ⟨#[105,102,40]⟩)) (.tmp 42)),oD 44 (.bin .add 9 (.tmp 43) (.val (.string ⟨#[32,62,32,50,44,32]⟩))),oM 45 7,kB 46 .add 9 44 45,oD 47 (.bin .add 9 (.tmp 46) (.val (.string ⟨#[44,32,48,32,45,32]⟩))),oM 48 7,kB 49 .add 9 47 48,oD 50 (.bin .add 9 (.tmp 49) (.val (.string ⟨#[41]⟩))),oM 51 9,oD 52 (.bin .add 9 (.val (.string ⟨#[102,105,110,100,40,34,98,34,44,32]⟩)) (.tmp 51)),oD 53 (.bin .add 9 (.tmp 52) (.val (.string ⟨#[41]⟩))),oM 54 7,oD 55 (.bin .add 9 (.tmp 54) (.val (.string ⟨#[32,47,32]⟩))),oM 56 7,kB 57 .add 9 55 56,oD 58 (.bsl 1 [.val (.string ⟨#[]⟩),.val (.string ⟨#[51]⟩),.tmp 36,.tmp 38,.tmp 41,.tmp 50,.tmp 53,.tmp 57]),oM 59 0,oD 60 (.call 25 0 [.tmp 59,vI 8]),kX 61 1 58 60,oL 62 false 1 61,oM 6 62] [0,4,5,7,9,33,34,36,37,38,39,40,41,42,43,44,45,46,47,48,49,50,51,52,53,54,55,56,57,58,59,60,61,62]
abbrev c_108_10:=kR [kK 64 .eql 3 33 2,oM 63 64] [33,34,64]
abbrev c_108_11:=kV [2348,2349,2350,2351] [oM 65 9,oM 66 9,oD 67 (.bin .add 9 (.tmp 66) (.val (.string ⟨#[32,38,32,34,45,34,32,38,32]⟩))),oM 68 9,kB 69 .add 9 67 68,oM 70 7,oD 71 (.bin .add 9 (.val (.string ⟨#[116,101,120,116,40]⟩)) (.tmp 70)),oD 72 (.bin .add 9 (.tmp 71) (.val (.string ⟨#[41]⟩))),oM 73 9,oD 74 (.bin .add 9 (.val (.string ⟨#[108,101,102,116,40]⟩)) (.tmp 73)),oD 75 (.bin .add 9 (.tmp 74) (.val (.string ⟨#[44,32,50,41]⟩))),oM 76 9,oD 77 (.bin .add 9 (.val (.string ⟨#[102,114,111,109,40]⟩)) (.tmp 76)),oD 78 (.bin .add 9 (.tmp 77) (.val (.string ⟨#[44,32,51,41]⟩))),oM 79 7,oD 80 (.bin .add 9 (.val (.string ⟨#[105,102,40]⟩)) (.tmp 79)),oD 81 (.bin .add 9 (.tmp 80) (.val (.string ⟨#[32,61,32,49,44,32]⟩))),oM 82 9,kB 83 .add 9 81 82,oD 84 (.bin .add 9 (.tmp 83) (.val (.string ⟨#[44,32,34,110,111,34,41]⟩))),oD 85 (.bsl 1 [.val (.string ⟨#[]⟩),.val (.string ⟨#[34,120,34]⟩),.tmp 65,.tmp 69,.tmp 72,.tmp 75,.tmp 78,.tmp 84]),oM 86 0,oD 87 (.call 25 0 [.tmp 86,vI 8]),kX 88 1 85 87,oL 89 false 1 88,oM 6 89] [0,4,5,7,9,63,65,66,67,68,69,70,71,72,73,74,75,76,77,78,79,80,81,82,83,84,85,86,87,88,89]
abbrev c_108_12:=kV [2376,2377,2378,2379] [oL 91 true 2 5,oM 92 0,oL 93 true 2 4,kE 94 111 0 91 92 93,oM 90 94,kY 95 90 0,kY 96 90 1,oM 11 95,oM 12 96] [4,5,6,7,9,63,90,91,92,93,94,95,96]
abbrev c_108_13:=kV [2400,2401,2402,2403] [oM 97 12,oM 98 97,oH 99 98 true 0,oG 100 98 true (.call 25 0 [.tmp 99,vI 3]),kG 101 98 true .gtr 3 100 0,oP 102 98 101 false] [0,12,97,98,99,100,101]
abbrev c_108_14:=kR [oM 103 11,oM 6 103] [11,102,103]
abbrev c_108_15:=kR [oD 6 (.mov (.val (.string ⟨#[]⟩)))] [11,102]
abbrev F_108:SFunc:=⟨104,(.seq c_108_0 (.seq c_108_1 (.seq c_108_2 (.seq (.seq c_108_3 (.cond (.tmp 29) c_108_4 .skip)) (.seq (.seq c_108_5 (.cond (.tmp 31) c_108_6 .skip)) (.seq (.seq c_108_7 (.block 0 (.seq c_108_8 (.cond (.tmp 34) (.seq c_108_9 .ret) (.seq c_108_10 (.cond (.tmp 63) (.seq c_108_11 .ret) .skip)))))) (.seq c_108_12 (.seq (.seq c_108_13 (.cond (.tmp 102) (.seq c_108_14 .ret) .skip)) (.seq c_108_15 .ret))))))))),[.tmp 6],false⟩
theorem tf_108:kU 58 [(17,0),(25,0),(58,0),(60,0),(85,0),(87,0),(94,0),(100,0)] [] F_108:=by unfold kU;kernel_rfl
abbrev a_140:GA:=⟨59,146,[],[],[(0,[0,1,4,4]),(1,[15,21]),(2,[2,3,22,22]),(3,[4,5,22,29]),(4,[7,7,30,36]),(5,[9,9,37,43]),(6,[44,47]),(7,[48,53]),(8,[54,54]),(9,[57,57]),(10,[2,3,6,6,8,8,10,12,55,56,58,65]),(11,[56,56,67,67]),(12,[2,3,6,6,8,8,10,12,55,55,66,66,68,68]),(13,[66,66,70,70]),(14,[2,3,6,6,8,8,10,12,55,55,69,69,71,75]),(15,[69,69,77,77]),(16,[2,3,6,6,8,8,10,12,55,55,76,76,78,81]),(17,[55,55,76,76,83,83]),(18,[2,3,6,6,8,8,10,12,82,82,84,127]),(19,[3,4,8,8,10,12,14,14,82,82,128,134]),(20,[2,2,6,6,13,13,135,145])],[.tmp 4],false⟩
theorem tf_140:gQ a_140:=by unfold gQ gT;kernel_rfl
abbrev a_50:GA:=⟨63,66,[],[],[(0,[0,0,2,2]),(1,[5,10]),(2,[4,4,11,35]),(3,[1,1,3,3,36,36]),(4,[2,2,36,52]),(5,[1,1,3,3,53,53]),(6,[1,1,3,3,53,65])],[.tmp 2],false⟩
theorem tf_50:gQ a_50:=by unfold gQ gT;kernel_rfl
abbrev a_51:GA:=⟨65,11,[],[],[(0,[2,2]),(1,[0,0,4,9]),(2,[3,3,10,10])],[.tmp 2],false⟩
theorem tf_51:gQ a_51:=by unfold gQ gT;kernel_rfl
abbrev a_0:GA:=⟨66,35,[],[],[(0,[2,2]),(1,[6,18]),(2,[5,5,19,25]),(3,[0,0,3,4,26,29]),(5,[0,0,2,2,4,4,26,26,30,33]),(6,[3,3,34,34])],[.tmp 2],false⟩
theorem tf_0:gQ a_0:=by unfold gQ gT;kernel_rfl
abbrev a_1:GA:=⟨67,35,[],[],[(0,[2,2]),(1,[6,18]),(2,[5,5,19,25]),(3,[0,0,3,4,26,29]),(5,[0,0,2,2,4,4,26,26,30,33]),(6,[3,3,34,34])],[.tmp 2],false⟩
theorem tf_1:gQ a_1:=by unfold gQ gT;kernel_rfl
abbrev a_42:GA:=⟨68,61,[],[],[(0,[0,1,5,5]),(1,[8,14]),(2,[2,3,15,16]),(3,[5,5,15,15,17,20]),(4,[21,33]),(5,[34,42]),(6,[2,2,43,51]),(7,[3,3,6,6,52,56]),(8,[7,7,57,60])],[.cell true 3 4,.tmp 5],false⟩
theorem tf_42:gQ a_42:=by unfold gQ gT;kernel_rfl
abbrev a_110:GA:=⟨111,35,[],[],[(0,[0,0,2,2,6,7]),(2,[10,13]),(4,[14,14,17,28]),(5,[29,31]),(6,[1,1,3,3,5,5,8,9,32,34]),(3,[6,7,9,9,15,16,32,32]),(7,[1,1,3,3,5,5,8,8])],[.tmp 6,.tmp 7],false⟩
theorem tf_110:gQ a_110:=by unfold gQ gT;kernel_rfl
abbrev a_120:GA:=⟨112,62,[],[],[(0,[0,0,2,2]),(1,[6,14]),(2,[1,1,15,15]),(3,[2,2,15,15]),(4,[16,19]),(6,[20,20,23,27]),(7,[28,46]),(8,[1,1,3,4,47,47]),(9,[2,2,47,47]),(10,[48,49]),(12,[50,50,53,60]),(13,[1,1,3,5,61,61]),(11,[2,2,51,52,61,61]),(5,[4,5,21,22]),(14,[1,1,3,3])],[.tmp 2],false⟩
theorem tf_120:gQ a_120:=by unfold gQ gT;kernel_rfl
abbrev a_139:GA:=⟨113,82,[],[],[(0,[0,0,2,2]),(1,[3,15]),(2,[1,1,16,16]),(3,[2,2,16,24]),(4,[1,1,25,25]),(5,[2,2,25,43]),(6,[1,1,44,44]),(7,[2,2,44,62]),(8,[1,1,63,63]),(9,[1,1,63,81])],[.tmp 2],false⟩
theorem tf_139:gQ a_139:=by unfold gQ gT;kernel_rfl
abbrev a_144:GA:=⟨114,33,[],[],[(0,[1,2,6,6]),(1,[12,12]),(2,[0,0,4,5,13,13]),(3,[0,0,6,6,8,9,13,19]),(4,[4,4,7,7,20,25]),(5,[5,5,10,11,26,32])],[.tmp 6],false⟩
theorem tf_144:gQ a_144:=by unfold gQ gT;kernel_rfl
abbrev a_46:GA:=⟨120,22,[],[],[(0,[3,3]),(1,[0,0]),(2,[6,6]),(3,[4,5,7,7]),(4,[5,5,9,9]),(5,[10,10]),(6,[4,4,8,8,11,11]),(7,[8,8,13,13]),(8,[4,4,12,12,14,14]),(9,[12,12,16,16]),(10,[4,4,15,15,17,17]),(11,[4,4,15,15,19,19]),(12,[18,18,20,20]),(13,[18,18,21,21])],[.cell true 6 2,.tmp 3],false⟩
theorem tf_46:gQ a_46:=by unfold gQ gT;kernel_rfl
abbrev a_45:GA:=⟨121,12,[],[],[(0,[4,4]),(1,[1,1,5,5]),(2,[0,0,6,8]),(3,[0,0,6,6,9,11])],[.tmp 4],false⟩
theorem tf_45:gQ a_45:=by unfold gQ gT;kernel_rfl
abbrev a_43:GA:=⟨122,20,[],[],[(0,[4,4]),(1,[8,8]),(2,[0,1,9,9]),(3,[1,1,4,4,9,10]),(4,[0,0,11,11]),(5,[0,0,4,6,11,17]),(6,[7,7,18,19])],[.tmp 4],false⟩
theorem tf_43:gQ a_43:=by unfold gQ gT;kernel_rfl
abbrev a_47:GA:=⟨126,37,[],[],[(0,[0,0,2,2,6,6]),(1,[12,12]),(2,[1,1,3,3,5,5,13,14]),(3,[1,1,6,6,8,8,13,13,15,20]),(4,[9,9,21,21]),(5,[3,3,5,5,7,7,22,22]),(6,[6,6,22,28]),(7,[5,5,10,11,29,34]),(8,[3,3,7,7,35,35]),(9,[3,3,7,7,35,36])],[.tmp 6],false⟩
theorem tf_47:gQ a_47:=by unfold gQ gT;kernel_rfl
abbrev a_119:GA:=⟨170,56,[],[],[(0,[2,2]),(1,[6,12]),(2,[0,0,13,13]),(3,[2,2,13,13]),(4,[14,16]),(6,[17,17,20,29]),(7,[30,45]),(8,[4,5,46,54]),(9,[0,0,3,3,55,55]),(5,[2,2,18,19,55,55]),(10,[0,0,3,3])],[.tmp 2],false⟩
theorem tf_119:gQ a_119:=by unfold gQ gT;kernel_rfl
abbrev a_121:GA:=⟨171,21,[],[],[(0,[0,0,2,2]),(1,[1,1,3,20])],[.tmp 2],false⟩
theorem tf_121:gQ a_121:=by unfold gQ gT;kernel_rfl
abbrev a_142:GA:=⟨172,58,[],[],[(0,[0,0]),(1,[4,6]),(2,[7,8]),(3,[9,12]),(4,[9,9,13,24]),(5,[25,28]),(6,[25,25,29,40]),(7,[41,44]),(8,[45,47]),(9,[41,41,48,49]),(10,[50,53]),(11,[1,1,54,56]),(12,[1,1,3,3,50,50,57,57])],[.cell true 8 2],false⟩
theorem tf_142:gQ a_142:=by unfold gQ gT;kernel_rfl
abbrev a_143:GA:=⟨173,18,[],[],[(0,[2,2]),(1,[3,4,6,11]),(2,[0,0,5,5,12,17])],[.tmp 2],false⟩
theorem tf_143:gQ a_143:=by unfold gQ gT;kernel_rfl
abbrev a_126:GA:=⟨174,85,[(31,0),(44,0),(50,1),(69,1),(81,0)],[(17,[[(4,17),(5,2)]])],[(0,[3,4]),(1,[10,11]),(2,[0,0,12,13]),(3,[3,4,12,12,14,17]),(5,[18,20]),(6,[21,24]),(7,[25,27]),(8,[25,25,28,33]),(9,[34,34]),(10,[0,0,5,8,35,37]),(11,[3,4,6,7,35,35,38,47]),(12,[8,8,48,48]),(13,[0,0,6,6,49,50]),(14,[51,66]),(15,[67,69]),(16,[67,67,70,73]),(17,[5,5,9,9,74,79]),(18,[3,5,74,74,80,81]),(19,[9,9,82,83]),(20,[9,9,82,82,84,84])],[.cell true 4 2,.tmp 3,.tmp 4],false⟩
theorem tf_126:gQ a_126:=by unfold gQ gT;kernel_rfl
abbrev a_134:GA:=⟨175,30,[],[],[(0,[0,1,5,5]),(1,[10,11]),(2,[6,6,12,12]),(3,[2,3,13,14]),(4,[5,5,13,13,15,16]),(5,[7,7,17,17]),(6,[2,3,18,19]),(7,[2,3,5,5,18,18,20,25]),(8,[9,9,26,26]),(9,[8,8,27,28]),(10,[8,8,27,27,29,29])],[.cell true 2 4,.tmp 5],false⟩
theorem tf_134:gQ a_134:=by unfold gQ gT;kernel_rfl
abbrev a_48:GA:=⟨185,6,[],[],[(0,[0,0]),(1,[1,1,4,5])],[.cell true 4 3],false⟩
theorem tf_48:gQ a_48:=by unfold gQ gT;kernel_rfl
abbrev a_49:GA:=⟨186,15,[],[],[(1,[0,2,6,13]),(2,[5,5,14,14])],[.cell true 4 4],false⟩
theorem tf_49:gQ a_49:=by unfold gQ gT;kernel_rfl
abbrev a_9:GA:=⟨187,26,[(17,1)],[],[(0,[2,2]),(1,[0,0,3,25])],[.tmp 2],false⟩
theorem tf_9:gQ a_9:=by unfold gQ gT;kernel_rfl
abbrev a_2:GA:=⟨188,22,[(8,0),(20,0)],[],[(0,[2,2]),(1,[0,0,3,21])],[.tmp 2],false⟩
theorem tf_2:gQ a_2:=by unfold gQ gT;kernel_rfl
abbrev a_3:GA:=⟨189,15,[(6,0),(12,0),(13,0)],[],[(0,[4,4]),(1,[0,1,5,14])],[.tmp 4],false⟩
theorem tf_3:gQ a_3:=by unfold gQ gT;kernel_rfl
abbrev a_10:GA:=⟨190,7,[],[],[(0,[2,2]),(1,[0,0,3,6])],[.tmp 2],false⟩
theorem tf_10:gQ a_10:=by unfold gQ gT;kernel_rfl
abbrev a_4:GA:=⟨191,26,[],[],[(0,[2,2]),(1,[0,0,3,25])],[.tmp 2],false⟩
theorem tf_4:gQ a_4:=by unfold gQ gT;kernel_rfl
abbrev a_5:GA:=⟨192,22,[],[],[(0,[4,4]),(1,[0,1,5,21])],[.tmp 4],false⟩
theorem tf_5:gQ a_5:=by unfold gQ gT;kernel_rfl
abbrev a_12:GA:=⟨193,16,[(14,1)],[],[(0,[2,2]),(1,[0,0,3,15])],[.tmp 2],false⟩
theorem tf_12:gQ a_12:=by unfold gQ gT;kernel_rfl
abbrev a_15:GA:=⟨194,23,[],[],[(0,[2,2]),(1,[4,9]),(2,[0,0,10,21]),(3,[3,3,22,22])],[.tmp 2],false⟩
theorem tf_15:gQ a_15:=by unfold gQ gT;kernel_rfl
abbrev a_8:GA:=⟨195,7,[],[],[(0,[0,0,4,4]),(1,[1,1,5,6])],[.tmp 4],false⟩
theorem tf_8:gQ a_8:=by unfold gQ gT;kernel_rfl
abbrev a_14:GA:=⟨196,14,[],[],[(0,[2,2]),(1,[0,0,3,13])],[.tmp 2],false⟩
theorem tf_14:gQ a_14:=by unfold gQ gT;kernel_rfl
abbrev a_18:GA:=⟨197,30,[],[],[(0,[2,2]),(1,[4,9]),(2,[0,0,10,28]),(3,[3,3,29,29])],[.tmp 2],false⟩
theorem tf_18:gQ a_18:=by unfold gQ gT;kernel_rfl
abbrev a_19:GA:=⟨198,21,[],[],[(0,[4,4]),(1,[6,7]),(2,[0,1,8,19]),(3,[5,5,20,20])],[.tmp 4],false⟩
theorem tf_19:gQ a_19:=by unfold gQ gT;kernel_rfl
abbrev a_13:GA:=⟨199,70,[(41,1),(54,1)],[],[(0,[2,2]),(1,[3,28]),(2,[0,0,29,29]),(3,[0,0,29,69])],[.tmp 2],false⟩
theorem tf_13:gQ a_13:=by unfold gQ gT;kernel_rfl
abbrev a_16:GA:=⟨200,51,[],[],[(0,[2,2]),(1,[4,26]),(2,[0,0,3,3,27,50])],[.tmp 2],false⟩
theorem tf_16:gQ a_16:=by unfold gQ gT;kernel_rfl
abbrev a_17:GA:=⟨201,37,[],[],[(0,[4,4]),(1,[6,18]),(2,[0,1,5,5,19,36])],[.tmp 4],false⟩
theorem tf_17:gQ a_17:=by unfold gQ gT;kernel_rfl
abbrev a_11:GA:=⟨202,23,[],[],[(0,[2,2]),(1,[0,0,3,22])],[.tmp 2],false⟩
theorem tf_11:gQ a_11:=by unfold gQ gT;kernel_rfl
abbrev a_7:GA:=⟨203,27,[],[],[(0,[2,2]),(1,[4,9]),(2,[0,0,10,25]),(3,[3,3,26,26])],[.tmp 2],false⟩
theorem tf_7:gQ a_7:=by unfold gQ gT;kernel_rfl
abbrev a_123:GA:=⟨226,9,[],[],[(0,[2,2]),(1,[0,0,3,8])],[.tmp 2],false⟩
theorem tf_123:gQ a_123:=by unfold gQ gT;kernel_rfl
abbrev a_129:GA:=⟨227,154,[],[],[(0,[5,5]),(1,[8,9]),(2,[10,10]),(3,[11,13]),(4,[15,23]),(5,[24,34]),(6,[35,36]),(7,[0,0,6,7,37,38]),(8,[5,5,37,37,39,40]),(9,[0,1,14,14,41,41]),(10,[6,7,42,43]),(11,[5,5,14,14,44,46]),(12,[7,7,47,48]),(13,[0,1,49,55]),(14,[6,7,56,57]),(15,[5,5,47,47,58,60]),(16,[62,70]),(17,[71,73]),(18,[61,61,74,74]),(19,[0,1,75,79]),(20,[80,82]),(21,[6,7,83,84]),(22,[6,7,83,83,85,86]),(23,[5,5,7,7,61,61,87,114]),(24,[0,0,115,121]),(25,[1,1,6,6,122,124]),(26,[0,0,5,5,115,115,125,130]),(27,[131,148]),(28,[1,1,6,6,149,152]),(29,[1,1,6,6,149,149,153,153])],[.cell true 4 4,.tmp 5],false⟩
theorem tf_129:gQ a_129:=by unfold gQ gT;kernel_rfl
abbrev a_31:GA:=⟨228,84,[(8,1),(80,1)],[(5,[[(1,5),(9,5),(6,1000)]])],[(1,[7,8]),(2,[9,54]),(3,[55,66]),(4,[67,73]),(5,[6,6,74,82]),(6,[0,1,5,5,83,83])],[.cell true 4 4],false⟩
theorem tf_31:gQ a_31:=by unfold gQ gT;kernel_rfl
abbrev a_32:GA:=⟨229,40,[],[],[(1,[3,6]),(2,[7,14]),(3,[15,23]),(4,[0,0,24,38]),(5,[0,0,7,7,24,24,39,39])],[.cell true 4 2],false⟩
theorem tf_32:gQ a_32:=by unfold gQ gT;kernel_rfl
abbrev a_136:GA:=⟨231,100,[],[],[(0,[0,1,5,5]),(1,[11,11]),(2,[14,14]),(3,[2,3,12,13,15,15]),(4,[13,13,17,17]),(5,[2,3,12,12,16,16,18,18]),(6,[16,16,20,20]),(7,[2,2,12,12,19,19,21,27]),(8,[7,7,28,28]),(9,[3,3,6,6,29,30]),(10,[3,3,6,6,29,29,31,36]),(11,[19,19,38,38]),(12,[2,3,12,12,37,37,39,44]),(13,[8,8,45,47]),(14,[12,12,37,37,49,49]),(15,[2,3,48,48,50,54]),(16,[5,5,48,48,55,60]),(17,[3,3,61,66]),(18,[2,2,67,67]),(19,[70,70]),(20,[9,10,68,69,71,77]),(21,[69,69,79,79]),(22,[80,80]),(23,[81,81]),(24,[82,82]),(25,[83,83]),(26,[68,68,84,84]),(27,[9,10,68,68,78,78,85,92]),(28,[9,10,68,68,78,78,93,99])],[.cell true 2 4,.tmp 5],false⟩
theorem tf_136:gQ a_136:=by unfold gQ gT;kernel_rfl
abbrev a_6:GA:=⟨239,25,[],[],[(0,[6,6]),(1,[0,0,7,7,9,17]),(2,[1,2,8,8,18,24])],[.tmp 6],false⟩
theorem tf_6:gQ a_6:=by unfold gQ gT;kernel_rfl
abbrev a_44:GA:=⟨241,22,[(14,0),(18,0)],[],[(0,[2,2]),(2,[0,0]),(4,[9,11]),(5,[12,15]),(6,[5,5,16,19]),(7,[20,20]),(8,[3,3,6,8,21,21])],[.tmp 2],true⟩
theorem tf_44:gQ a_44:=by unfold gQ gT;kernel_rfl
abbrev a_145:GA:=⟨242,36,[(24,0)],[],[(0,[2,2]),(4,[12,14]),(5,[5,5,15,18]),(6,[19,19]),(7,[20,21,9999,9999]),(8,[20,20,22,22]),(9,[3,3,9,11,23,24]),(10,[0,0]),(12,[28,30]),(13,[8,8,31,33]),(14,[34,34]),(15,[6,6,25,27,35,35])],[.tmp 2],false⟩
theorem tf_145:gQ a_145:=by unfold gQ gT;kernel_rfl
abbrev a_146:GA:=⟨243,36,[(24,0)],[],[(0,[2,2]),(4,[12,14]),(5,[5,5,15,18]),(6,[19,19]),(7,[20,21,9999,9999]),(8,[20,20,22,22]),(9,[3,3,9,11,23,24]),(10,[0,0]),(12,[28,30]),(13,[8,8,31,33]),(14,[34,34]),(15,[6,6,25,27,35,35])],[.tmp 2],false⟩
theorem tf_146:gQ a_146:=by unfold gQ gT;kernel_rfl
abbrev a_128:GA:=⟨263,9,[],[],[(0,[2,2]),(1,[0,0,3,8])],[.tmp 2],false⟩
theorem tf_128:gQ a_128:=by unfold gQ gT;kernel_rfl
abbrev a_132:GA:=⟨264,56,[],[],[(0,[4,5]),(2,[1,1,8,9]),(3,[10,12]),(5,[13,13,16,18]),(6,[0,0,19,22]),(7,[6,7,23,23]),(8,[6,7,23,26]),(9,[4,5,19,19,27,29]),(10,[30,32]),(11,[33,47]),(12,[0,0,6,7,48,48]),(13,[4,5,30,30,48,55]),(4,[14,15]),(14,[0,0,6,7])],[.tmp 4,.tmp 5],false⟩
theorem tf_132:gQ a_132:=by unfold gQ gT;kernel_rfl
abbrev a_133:GA:=⟨265,21,[],[],[(0,[2,2]),(1,[0,0,3,20])],[.tmp 2],false⟩
theorem tf_133:gQ a_133:=by unfold gQ gT;kernel_rfl
abbrev a_34:GA:=⟨267,119,[(23,1),(67,1),(84,1),(99,1),(113,1),(115,1),(118,1)],[],[(1,[5,20]),(2,[0,0,21,23]),(3,[21,21,24,33]),(4,[34,40]),(5,[0,0,41,48]),(6,[3,3,49,55]),(7,[41,41,56,57]),(8,[58,65]),(9,[66,72]),(10,[73,80]),(11,[0,0,3,3,81,84]),(12,[0,0,3,3,73,73,85,87]),(13,[58,58,88,89]),(14,[3,3,90,97]),(15,[0,0,98,101]),(16,[3,3,90,90,102,103]),(17,[104,111]),(18,[112,113]),(19,[0,0,114,115]),(20,[4,4,116,116]),(21,[0,0,104,104,117,118])],[.cell true 4 2],false⟩
theorem tf_34:gQ a_34:=by unfold gQ gT;kernel_rfl
abbrev a_137:GA:=⟨269,27,[],[],[(0,[0,1,4,4]),(1,[2,3,7,12]),(2,[6,6,13,23]),(3,[5,5,24,24]),(4,[5,5,24,26])],[.tmp 4],false⟩
theorem tf_137:gQ a_137:=by unfold gQ gT;kernel_rfl
abbrev a_135:GA:=⟨270,106,[],[],[(0,[0,1,5,5]),(1,[12,13]),(2,[14,17]),(3,[2,3,18,19]),(4,[5,5,18,18,20,25]),(5,[26,31]),(6,[2,3,32,37]),(7,[6,8,38,50]),(8,[5,5,14,14,51,53]),(9,[54,62]),(10,[2,3,9,9,63,64]),(11,[5,5,63,63]),(12,[65,67]),(14,[68,68,71,77]),(15,[11,11,78,94]),(16,[2,3,9,10,95,96]),(13,[5,5,69,70,95,95]),(17,[2,3,9,10,97,97]),(18,[100,100]),(19,[101,101]),(20,[102,102]),(21,[98,98,103,103]),(22,[98,99,104,104]),(23,[98,99,105,105])],[.cell true 2 4,.tmp 5],false⟩
theorem tf_135:gQ a_135:=by unfold gQ gT;kernel_rfl
abbrev a_33:GA:=⟨297,44,[],[],[(0,[4,4]),(1,[0,1,5,43])],[.tmp 4],false⟩
theorem tf_33:gQ a_33:=by unfold gQ gT;kernel_rfl
abbrev a_30:GA:=⟨299,36,[(11,0),(25,1),(29,1),(30,0),(34,1)],[(7,[[(1,5),(7,5),(3,1000)]])],[(1,[7,8]),(3,[9,18]),(5,[19,19,22,22]),(6,[23,25]),(7,[23,23,26,32]),(4,[20,21]),(8,[0,1,6,6,33,34]),(9,[5,5,35,35])],[.cell true 4 4],false⟩
theorem tf_30:gQ a_30:=by unfold gQ gT;kernel_rfl
abbrev a_35:GA:=⟨300,22,[(11,1),(14,1)],[],[(0,[4,7]),(1,[1,1,8,11]),(2,[0,0,12,14]),(3,[0,0,12,12,15,21])],[],false⟩
theorem tf_35:gQ a_35:=by unfold gQ gT;kernel_rfl
abbrev a_138:GA:=⟨302,18,[],[],[(0,[2,2]),(1,[0,0]),(2,[5,5]),(3,[6,6]),(4,[3,4]),(5,[4,4,8,8]),(6,[9,9]),(7,[10,10]),(8,[3,3,7,7]),(9,[7,7,12,12]),(10,[3,3,11,11]),(11,[11,11,14,14]),(12,[3,3,13,13]),(13,[13,13,16,16]),(14,[3,3,17,17]),(15,[3,3,15,15]),(16,[3,3,15,15])],[.tmp 2],false⟩
theorem tf_138:gQ a_138:=by unfold gQ gT;kernel_rfl
noncomputable def funcs:Nat→Option SFunc
 |_=>none
end Go.Sh.Cd7
end

section
namespace Go.Proofs.YtcpaleaajdilgaaGreatDoor
open Go Go.RowKit Go.Mor Go.Sh Go.Sh.Cd1 Go.Sh.Cd7
set_option maxRecDepth 100000
set_option maxHeartbeats 4000000
def ndT(d:Nd):TV:=.agg [B d.f,B d.n,B d.m,B d.t,B d.x,B d.o]
def chT(h:Chg):TV:=.agg [I h.k,S (str h.f),S (str h.n),S (str h.m),I h.t.k,I h.t.o,S (str h.x),S (str h.o)]
structure TxOk(m:Nat)(s:List UInt8):Prop where
 len:s.length<4611686018427387904
 rd:s≠[]→SCalls Tryz.prog (glE m) 36 [S (str s)] [] (parT (rdV s)) []
 sm:s≠[]→ESmall (rdV s).1
structure ChOk(q:Nat)(h:Chg):Prop where
 f:Short h.f
 n:Short h.n
 m:Short h.m
 x:TxOk q h.x
 o:TxOk q h.o
theorem needs_ok(g:Sh.Glob)(k:Int):SCalls Tryz.prog g 120 [I k] [] (.tuple [ndT (needV k),B (needV k).ok]) []:=by
 refine z10 tf_46 ?_;have hk:k=1∨k=2∨k=6∨k=3∨k=4∨k=5∨(¬k=1∧¬k=2∧¬k=6∧¬k=3∧¬k=4∧¬k=5):=by omega
 unfold ndT B;rcases hk with rfl|rfl|rfl|rfl|rfl|rfl|⟨h1,h2,h6,h3,h4,h5⟩
 all_goals unfold needV
 ·simp only[vW,seval]
 ·simp only[vW,seval]
 ·simp only[vW,seval]
 ·simp only[vW,seval]
 ·simp only[vW,seval]
 ·simp only[vW,seval]
 ·simp only[vW,seval,h1,h2,h6,h3,h4,h5]
theorem right_bare(s:List UInt8):z23 ⟨s,[]⟩=z11 s:=by simp[z23,onceGo]
theorem chName_ok(g:Sh.Glob)(s:List UInt8)(b:Bool)(hs:Short s):SCalls Tryz.prog g 121 [S (str s),B b] [] (B (nameV s b)) []:=by
 have HR:=classRight_ok g ⟨s,[]⟩ ⟨hs,by simp,by simp⟩;rw[right_bare]at HR;have HR:=HR.inp (xs:=[.agg [S (str s),nilT]]) rfl (fun j c d hc hd=>by
  cases j with
  |zero=>
   simp at hc hd;subst hc;subst hd;exact wk_agg rfl (fun j p q hp hq=>by
    match j with
    |0=>simp at hp hq;subst hp;subst hq;exact .refl _
    |1=>simp at hp hq;subst hp;subst hq;exact wk_nil 4
    |j+2=>simp at hp)
  |succ j=>simp at hc)
 have e0:(⟨#[]⟩:ByteArray)=str []:=rfl;refine z10 tf_45 ?_;unfold nameV B nilT at*;cases b
 ·simp only[vW,seval,e0]
 ·simp only[vW,seval];exact z14 HR
theorem formula_ok(m:Nat)(s:List UInt8)(b:Bool)(hs:TxOk m s):SCalls Tryz.prog (glE m) 122 [S (str s),B b] [] (B (formV s b)) []:=by
 have e0:(⟨#[]⟩:ByteArray)=str []:=rfl;refine z10 tf_43 ?_;unfold formV B;by_cases h:s=[]
 ·subst h;simp only[vW,seval,e0]
 ·have hb:(s==[])=false:=by simpa using h
  have HP:=hs.rd h;generalize rdV s=r at*;unfold parT at HP;cases b
  ·simp only[vW,seval,e0,hb]
  ·by_cases h0:r.2.2=0
   ·rw[if_pos h0]at HP;simp only[vW,seval,e0,hb];refine z7 HP ?_;simp only[vW,seval,h0]
   ·rw[if_neg h0]at HP;unfold zeroE at HP;simp only[vW,seval,e0,hb];refine z7 HP ?_;simp only[vW,seval,h0]
theorem wellFormed_ok(m:Nat)(h:Chg)(hh:ChOk m h):SCalls Tryz.prog (glE m) 63 [chT h] [] (B (wellV h)) []:=by
 have HN:=needs_ok (glE m) h.k;have H1:=fun b=>chName_ok (glE m) h.f b hh.f;have H2:=fun b=>chName_ok (glE m) h.n b hh.n;have H3:=fun b=>chName_ok (glE m) h.m b hh.m;have HT:=rightTypeC_ok (glE m) h.t;have H4:=fun b=>formula_ok m h.x b hh.x;have H5:=fun b=>formula_ok m h.o b hh.o;have hz:z17 ty0=false:=by decide
 refine z10 tf_50 ?_;unfold wellV;generalize needV h.k=d at*;obtain⟨df,dn,dm,dt,dx,dO,dk⟩:=d;simp only[]at*;unfold ndT chT tyT B at*;simp only[vW,seval];refine z7 HN ?_;cases dk
 ·simp only[vW,seval]
 simp only[vW,seval];refine z7 (H1 df) ?_;cases nameV h.f df
 ·simp only[vW,seval]
 simp only[vW,seval];refine z7 (H2 dn) ?_;cases nameV h.n dn
 ·simp only[vW,seval]
 simp only[vW,seval];refine z7 (H3 dm) ?_;cases nameV h.m dm
 ·simp only[vW,seval]
 simp only[vW,seval];refine z7 HT ?_;have tyE:(⟨h.t.k,h.t.o⟩:Ty)=h.t:=rfl;cases dt
 ·rw[if_neg (by simp)];by_cases hq:eqTy h.t ty0=true
  ·have hr:z17 h.t=false:=by
    unfold eqTy ty0 at hq;simp only[Bool.and_eq_true,beq_iff_eq]at hq;unfold z17;simp[hq.1,hq.2]
   have hq':eqTy h.t ⟨0,0⟩=true:=hq;rw[hr,hq];simp only[vW,seval,bbNeq,bNV,neqTy,tyE,hq'];refine z7 (H4 dx) ?_;cases formV h.x dx
   ·simp only[vW,seval]
   simp only[vW,seval];exact z14 (H5 dO)
  ·have hq:eqTy h.t ty0=false:=by simpa using hq
   have hq':eqTy h.t ⟨0,0⟩=false:=hq;rw[hq];cases hr:z17 h.t
   ·simp only[vW,seval,bbNeq,bNV,neqTy,tyE,hq']
   ·simp only[vW,seval,bbNeq,bNV,neqTy,tyE,hq']
 ·rw[if_pos rfl];cases hr:z17 h.t
  ·simp only[vW,seval,bbNeq,bNV,neqTy]
  ·simp only[vW,seval,bbNeq,bNV,neqTy];refine z7 (H4 dx) ?_;cases formV h.x dx
   ·simp only[vW,seval]
   simp only[vW,seval];exact z14 (H5 dO)
end Go.Proofs.YtcpaleaajdilgaaGreatDoor
end

section
namespace Go.Proofs.YtcpaleaajdilgaaGreatDoor
open Go Go.RowKit Go.Mor Go.Sh Go.Sh.Cd1
set_option maxRecDepth 100000
set_option maxHeartbeats 4000000
theorem zero_ok(g:Sh.Glob)(t:Ty):SCalls Tryz.prog g 35 [tyT t] [] (nv (zeroV t)) []:=by
 refine z10 tf_155 ?_;have HR:=rightType_ok g t;unfold B at HR;obtain⟨k,o⟩:=t;generalize hr:z17 ⟨k,o⟩=r at HR;have key:zeroV ⟨k,o⟩=if !r||k==3||k==4 then V.nil else .mk k 0 [] []:=by rw[←hr];rfl
 rw[key];simp only[vW,seval];refine z7 HR ?_;cases r
 ·simp only[vW,seval];rfl
 ·simp only[vW,seval]
  repeat' (first|(apply And.intro)|(intro _))
  all_goals(first|(simp_all [V.nil,V.k,V.n,V.s,e0];done)|rfl)
end Go.Proofs.YtcpaleaajdilgaaGreatDoor
end

section
namespace Go.Proofs.YtcpaleaajdilgaaGreatDoor
open Go Go.RowKit Go.Mor Go.Sh Go.Sh.Cd1 Go.Sh.Cd7
set_option maxRecDepth 100000
set_option maxHeartbeats 4000000
def tlT(c:Cls)(t:Ty):Tl→PV
 | .no=> .v .nilFunc
 | .zero=> .fn (.func 185) [] [.el [.v (.int .i64 t.k),.v (.int .i64 t.o)]]
 | .ev e=> .fn (.func 186) [] [.el [.v (.int .i64 e.k),.v (.int .i64 e.n),.v (.string (str e.s)),.sl 4 (V.rows e.l)],.el [.v (.string (str c.n)),.sl 4 (flR c.fs)]]
theorem zeroV_l(t:Ty):(zeroV t).l=[]:=by unfold zeroV;split<;>rfl
theorem teller1_ok(g:Sh.Glob)(t:Ty)(vals:List V):SCalls Tryz.prog g 185 [.pv (.sl 4 (V.rows vals)),.pv (.el [.v (.int .i64 t.k),.v (.int .i64 t.o)])] [] (tv (zeroV t)) []:=by
 have HZ:=zero_ok g t;refine SCalls.out ?_ (nv_tv (zeroV_l t));refine z41 tf_48 ?_;exact z14 HZ
theorem teller2_ok(m:Nat)(c:Cls)(e:V)(vals:List V)(hc:ClsOk c)(he:ESmall e)(hf:∀x∈vals,VFew x∧VOk x)(hl:vals.length≤4611686018427387904):
  SCalls Tryz.prog (glE m) 186 [.pv (.sl 4 (V.rows vals)),.pv (.el [.v (.int .i64 e.k),.v (.int .i64 e.n),.v (.string (str e.s)),.sl 4 (V.rows e.l)]),.pv (.el [.v (.string (str c.n)),.sl 4 (flR c.fs)])] [] (tv (evalA c vals e).1) []:=by
 have HE:=evEval_ok m c e vals hc he hf hl;have hn:(evalA c vals e).2≠0→(evalA c vals e).1=V.nil:=by
  unfold evalA;split
  ·intro _;rfl
  ·split
   ·intro _;rfl
   ·intro h;exact absurd rfl h
 unfold evalT at HE;generalize evalA c vals e=r at*;by_cases h:r.2=0
 ·rw[if_pos h]at HE;refine z10 tf_49 ?_;unfold clT at HE;simp only[vW,seval];exact z14 HE
 ·rw[if_neg h]at HE;rw[hn h];refine SCalls.out ?_ (nv_tv (x:=V.nil) rfl);refine z10 tf_49 ?_;unfold clT at HE;simp only[vW,seval];exact z14 HE
theorem teller_zero(g:Sh.Glob)(c:Cls)(t:Ty):SCalls Tryz.prog g 126 [clT c,S (str []),tyT t] [] (.pv (tlT c t .zero)) []:=by
 have h:SCalls Tryz.prog g 126 [clT c,S (str []),tyT t] [] (.fn (.func 185) [] (z109 1000 1)) ([[PV.v (.int .i64 t.k),.v (.int .i64 t.o)]].map fun ps=> .box (ps.map .pv)):=by
  refine z18 tf_47 ?_;unfold clT;simp only[vW,seval,str0];rfl
 exact SCalls.frz (pss:=[_]) h
theorem teller_ev(m:Nat)(c:Cls)(s:List UInt8)(t:Ty)(hs:TxOk m s)(hc:ClsOk c)(hne:s≠[]):SCalls Tryz.prog (glE m) 126 [clT c,S (str s),tyT t] [] (.pv (tlT c t (tellV c s t))) []:=by
 have HP:=hs.rd hne;have HT:=evType_ok m c (rdV s).1 hc (hs.sm hne);have e0:(⟨#[]⟩:ByteArray)=str []:=rfl;have hb:(s==[])=false:=by simpa using hne
 unfold tellV;rw[if_neg hne];generalize rdV s=r at*;unfold parT at HP;unfold typeT at HT;generalize typeA c r.1=q at*;obtain⟨⟨qk,qo⟩,q2⟩:=q;obtain⟨tk,ot⟩:=t;simp only[]at*;by_cases h0:r.2.2=0
 ·rw[if_neg (c:=r.2.2≠0) (by simpa using h0)];rw[if_pos h0]at HP;by_cases h1:q2=0
  ·cases h2:eqTy ⟨qk,qo⟩ ⟨tk,ot⟩
   ·rw[if_neg (by simp)];refine z10 tf_47 ?_;unfold clT tlT at*;simp only[vW,seval,e0,hb];refine z7 HP ?_;simp only[vW,seval,h0];refine z7 HT ?_;simp only[vW,seval,h1,neqTy,h2]
   ·rw[if_pos ⟨h1,rfl⟩];have h:SCalls Tryz.prog (glE m) 126 [clT c,S (str s),tyT ⟨tk,ot⟩] [] (.fn (.func 186) [] (z109 1000 2)) ([[PV.v (.int .i64 r.1.k),.v (.int .i64 r.1.n),.v (.string (str r.1.s)),.sl 4 (V.rows r.1.l)],[.v (.string (str c.n)),.sl 4 (flR c.fs)]].map fun ps=> .box (ps.map .pv)):=by
     refine z18 tf_47 ?_;unfold clT at*;simp only[vW,seval,e0,hb];refine z7 HP ?_;simp only[vW,seval,h0];refine z7 HT ?_;simp only[vW,seval,h1,neqTy,h2];rfl
    exact SCalls.frz (pss:=[_,_]) h
  ·rw[if_neg (fun h=>h1 h.1)];refine z10 tf_47 ?_;unfold clT tlT at*;simp only[vW,seval,e0,hb];refine z7 HP ?_;simp only[vW,seval,h0];refine z7 HT ?_;simp only[vW,seval,h1]
 ·rw[if_pos (c:=r.2.2≠0) h0];rw[if_neg h0]at HP;refine z10 tf_47 ?_;unfold clT tlT zeroE at*;simp only[vW,seval,e0,hb];refine z7 HP ?_;simp only[vW,seval,h0]
theorem teller_ok(m:Nat)(c:Cls)(s:List UInt8)(t:Ty)(hs:TxOk m s)(hc:ClsOk c):SCalls Tryz.prog (glE m) 126 [clT c,S (str s),tyT t] [] (.pv (tlT c t (tellV c s t))) []:=by
 by_cases h:s=[]
 ·subst h;have:tellV c [] t=.zero:=by unfold tellV;rw[if_pos rfl]
  rw[this];exact teller_zero (glE m) c t
 ·exact teller_ev m c s t hs hc h
end Go.Proofs.YtcpaleaajdilgaaGreatDoor
end

section
namespace Go.Sh
open Go Go.RowKit
variable{B:Base}{s:FS}{a:Act}{w:World}{E:Env}
theorem flat_fwd{W:Nat}:∀{es:List (List PV)},(∀cs∈es,cs.length=W)→∀{i j:Nat} {cs:List PV} {c:PV},es[i]?=some cs→cs[j]?=some c→es.flatten[i*W+j]?=some c
 |[],_,i,j,cs,c,h,_=>by simp at h
 |x::es,hW,i,j,cs,c,h,hc=>by
  cases i with
  |zero=>
   grind
  |succ i=>
   have:=flat_fwd (es:=es) (fun y hy=>hW y (List.mem_cons_of_mem _ hy)) (i:=i) (by grind) hc
   grind
theorem Sim.freezeS(h:Sim B s a w E){d W:Nat}{es:List (List PV)}(hd:s.b d=some (es.flatten.map TV.pv))(hW:∀cs∈es,cs.length=W):
  ∃K',Sim B { s with b:=fun e=>if e=d then none else s.b e } a w { E with K:=K' }∧∀c v,RelT w { E with K:=K' } s.r (.bs d 0 es.length c) v→RelT w { E with K:=K' } s.r (.pv (.sl W es)) v:=by
 obtain⟨K',h1,h2,_⟩:=h.freeze0 hd;refine⟨K',h1,fun c v hv=> ?_⟩;cases hv with
 |bs _ _ _ _ C hn hc hm=>
 cases h2 with
 |pv h2=>
 cases h2 with
 |el _ _ _ f hf hs=>
 refine .pv (.sl W es (E.β d) 0 C (some ⟨E.β d,0,none⟩) (fun i j=>f (i*W+j)) (fun _=>rfl) (by omega) hm hW (fun i j cs c e1 e2=> ?_) (fun i j cs c e1 e2=>hs _ _ (flat_fwd hW e1 e2)))
 grind [flat_fwd]
theorem fs_drp(s:ES)(d:Nat):(fun e=>if e=d then none else s.fs.b e)=lk (drp [d] s.b):=by
 funext e;rw[lk_drp];show(if e=d then none else lk s.b e)=_
 grind [has,Nat.beq_refl,only,z133]
theorem frT_lw{s:ES}{k d W c:Nat}{es:List (List PV)}(hd:lk s.b d=some (es.flatten.map TV.pv))(hW:∀cs∈es,cs.length=W)(hk:lk s.t k=some (.bs d 0 es.length c)):(⟨sv s.t k (.pv (.sl W es)),drp [d] s.b,s.r,s.i⟩:ES).Lw s:=by
 intro B a w E _ _ hS;obtain⟨K',h1,h2⟩:=hS.freezeS hd hW;refine⟨{ E with K:=K' },?_⟩;have:=h1.reT (k:=k) (x:=.bs d 0 es.length c) (y:=.pv (.sl W es)) hk (h2 c)
 grind [sv,drp,FS.setT,fs_drp,only,ES.fs,lk_sv]
theorem frE_lw{s:ES}{k d:Nat}{ps:List PV}(hd:lk s.b d=some (ps.map TV.pv))(hk:lk s.t k=some (.ptr d 0)):(⟨sv s.t k (.pv (.el ps)),drp [d] s.b,s.r,s.i⟩:ES).Lw s:=by
 intro B a w E _ _ hS;obtain⟨K',h1,h2,_⟩:=hS.freeze0 hd;refine⟨{ E with K:=K' },?_⟩;have:=h1.reT (k:=k) (x:=.ptr d 0) (y:=.pv (.el ps)) hk (fun v hv=>by cases hv;exact h2)
 grind [sv,drp,FS.setT,fs_drp,only,ES.fs,lk_sv]
section
variable{P:Program}{g:Glob}{N:Nat}{a b c:SCode}{Q Q':SExit→ES→Prop}{s s0:ES}
@[congr] theorem sem_congr (h:s=s0):SemW P g N c Q s=SemW P g N c Q s0:=by rw[h]
theorem sem_mono(h:SemW P g N c Q s)(hq:∀e s,Q e s→Q' e s):SemW P g N c Q' s:=fun H Fp K code ht B a w E h1 h2 h3 h4 h5 h6=>wp_mono (h H Fp K code ht B a w E h1 h2 h3 h4 h5 h6) (by
 rintro x a' w' ⟨e,s',E',q1,q2,q3⟩;exact⟨e,s',E',q1,hq _ _ q2,q3⟩)
theorem sem_lw(hl:s0.Lw s)(h:SemW P g N c Q s0):SemW P g N c Q s:=by
 intro H Fp K code ht B a w E h1 h2 h3 h4 h5 h6;obtain⟨E',h7⟩:=hl B a w E h2 h3 h6;exact h H Fp K code ht B a w E' h1 h2 h3 h4 h5 h7
theorem sem_seq(h:SemW P g N a (thenW (SemW P g N b Q) Q) s):SemW P g N (.seq a b) Q s:=by
 intro H Fp K code ht B ac w E h1 h2 h3 h4 h5 h6;cases code with
 |seq x y=>
  simp only[z15]at ht;split at ht<;>try(cases ht;done)
  rename_i a' b' ha hb;cases ht;refine wp_seq (wp_mono (h H Fp K x ha B ac w E h1 h2 h3 h4 h5 h6) ?_);rintro z a2 w2 ⟨e,s2,E2,rfl,hq,hS2⟩;cases e with
  |normal=>exact hq H Fp K y hb B a2 w2 E2 h1 h2 h3 h4 h5 hS2
  |exit id=>exact⟨.exit id,s2,E2,rfl,hq,hS2⟩
  |ret=>exact⟨.ret,s2,E2,rfl,hq,hS2⟩
  |pan z=>exact⟨.pan z,s2,E2,rfl,hq,hS2⟩
 |skip|exit id|ret|rangeFunc _ _ _ _=>simp[z15]at ht
 |region id ops draw=>
  grind [only,z15]
 |cond x y z=>
  grind [only,z15]
 |block id x=>
  grind [only,z15,Option.map_eq_some_iff]
 |loop x=>
  grind [only,z15,Option.map_eq_some_iff]
 |_=>simp[z15]at ht
theorem z52(hmix:P.follows .mixedOrders=true)(h:swp P g a (thenW (SemW P g N b Q) Q) s):SemW P g N (.seq a b) Q s:=sem_seq (sem_swp hmix h)
end
theorem call_ofS{P:Program}{g:Glob}{f:Nat}{H:Nat→Option Nat→Nat}{Fp:Nat→List (Nat→Option Nat)}{K:Nat→List Nat}{keep:Bool}{F:SFunc}(hmix:P.follows .mixedOrders=true)(hF:z33 P f H Fp K keep=some F){xs:List TV}{os os':List MO}{y:TV}(hn:Nat.ble xs.length F.N=true)(hos:Nat.ble os.length 1000=true)(hmo:moOk os os'=true)
  (h:SemW P g F.N F.code (PostR F.res F.keep os.length y os') (startE xs os)):SCalls P g f xs os y os':=
 call_of_sem hmix hF (Nat.le_of_ble_eq_true hn) (Nat.le_of_ble_eq_true hos) hmo (sem_mono h fun e s he=>by
  cases e with
  |normal=>exact⟨.inr rfl,by rw[exitF_R];exact he⟩
  |ret=>exact⟨.inl rfl,by rw[exitF_R];exact he⟩
  |exit id=>exact he.elim
  |pan z=>exact he.elim)
theorem z153{P:Program}{g:Glob}{f:Nat}{H:Nat→Option Nat→Nat}{Fp:Nat→List (Nat→Option Nat)}{K:Nat→List Nat}{keep:Bool}{F:SFunc}(hmix:P.follows .mixedOrders=true)(hF:z33 P f H Fp K keep=some F){xs:List TV}{y:TV}(hn:Nat.ble xs.length F.N=true)
  (h:SemW P g F.N F.code (Post0 F.res y) (startE xs [])):SCalls P g f xs [] y []:=by
 have key:∀s,ansW y (resT s.fs F.res)→exitR F.res F.keep 0 s=some (y,[]):=by
  intro s he;cases hr:resT s.fs F.res with
  |none=>rw[hr]at he;exact he.elim
  |some y0=>
   rw[hr]at he;obtain⟨h1,h2⟩:=he;simp[exitR,exitF,hr,idsFrom,h1,reach,h2,seqO]
 refine call_ofS hmix hF hn rfl rfl (sem_mono h fun e s he=> ?_);cases e with
 |normal=>exact key s he
 |ret=>exact key s he
 |exit id=>exact he.elim
 |pan z=>exact he.elim
end Go.Sh
end

section
namespace Go.Proofs.YtcpaleaajdilgaaGreatDoor
open Go Go.RowKit Go.Mor Go.Sh Go.Sh.Cd1 Go.Sh.Cd7
set_option maxRecDepth 100000
set_option maxHeartbeats 4000000
def fnW(w:List PV)(f:Nat):TV:=.fn (.func f) [.pv (.el w)] []
def kdT(w:List PV)(a b c:Nat):TV:=.agg [fnW w a,fnW w b,fnW w c]
def kdL(w:List PV):List TV:=[kdT w 187 188 189,kdT w 190 191 192,kdT w 193 194 195,kdT w 196 197 198,kdT w 199 200 201,kdT w 202 203 195]
def kdK:List Value:=[.int .i64 1,.int .i64 2,.int .i64 3,.int .i64 4,.int .i64 5,.int .i64 6]
noncomputable def kindOps:Array Oper:=match Tryz.prog.funcs[127]? with
 |some fn=>match fn.body with
  |some (.seq _ (.seq (.region _ ops _) _))=>ops
  |_=> #[]
 |none=> #[]
def kindMix:List MixO:=[.op ⟨(some 4),none,none,.mov (.tmp 0)⟩,.op ⟨(some 5),none,none,.mkf (.func 187) [(.tmp 4)] []⟩,.op ⟨(some 6),none,none,.mov (.tmp 0)⟩,.op ⟨(some 7),none,none,.mkf (.func 188) [(.tmp 6)] []⟩,.op ⟨(some 8),none,none,.mov (.tmp 0)⟩,.op ⟨(some 9),none,none,.mkf (.func 189) [(.tmp 8)] []⟩,.op ⟨(some 10),none,none,.build [.nilFunc,.nilFunc,.nilFunc] [(0,1,(.tmp 5)),(1,1,(.tmp 7)),(2,1,(.tmp 9))]⟩,.ins ((.int .i64 1)) 10,.op ⟨(some 11),none,none,.mov (.tmp 0)⟩,.op ⟨(some 12),none,none,.mkf (.func 190) [(.tmp 11)] []⟩,.op ⟨(some 13),none,none,.mov (.tmp 0)⟩,.op ⟨(some 14),none,none,.mkf (.func 191) [(.tmp 13)] []⟩,.op ⟨(some 15),none,none,.mov (.tmp 0)⟩,.op ⟨(some 16),none,none,.mkf (.func 192) [(.tmp 15)] []⟩,.op ⟨(some 17),none,none,.build [.nilFunc,.nilFunc,.nilFunc] [(0,1,(.tmp 12)),(1,1,(.tmp 14)),(2,1,(.tmp 16))]⟩,.ins ((.int .i64 2)) 17,.op ⟨(some 18),none,none,.mov (.tmp 0)⟩,.op ⟨(some 19),none,none,.mkf (.func 193) [(.tmp 18)] []⟩,.op ⟨(some 20),none,none,.mov (.tmp 0)⟩,.op ⟨(some 21),none,none,.mkf (.func 194) [(.tmp 20)] []⟩,.op ⟨(some 22),none,none,.mov (.tmp 0)⟩,.op ⟨(some 23),none,none,.mkf (.func 195) [(.tmp 22)] []⟩,.op ⟨(some 24),none,none,.build [.nilFunc,.nilFunc,.nilFunc] [(0,1,(.tmp 19)),(1,1,(.tmp 21)),(2,1,(.tmp 23))]⟩,.ins ((.int .i64 3)) 24,.op ⟨(some 25),none,none,.mov (.tmp 0)⟩,.op ⟨(some 26),none,none,.mkf (.func 196) [(.tmp 25)] []⟩,.op ⟨(some 27),none,none,.mov (.tmp 0)⟩,.op ⟨(some 28),none,none,.mkf (.func 197) [(.tmp 27)] []⟩,.op ⟨(some 29),none,none,.mov (.tmp 0)⟩,.op ⟨(some 30),none,none,.mkf (.func 198) [(.tmp 29)] []⟩,.op ⟨(some 31),none,none,.build [.nilFunc,.nilFunc,.nilFunc] [(0,1,(.tmp 26)),(1,1,(.tmp 28)),(2,1,(.tmp 30))]⟩,.ins ((.int .i64 4)) 31,.op ⟨(some 32),none,none,.mov (.tmp 0)⟩,.op ⟨(some 33),none,none,.mkf (.func 199) [(.tmp 32)] []⟩,.op ⟨(some 34),none,none,.mov (.tmp 0)⟩,.op ⟨(some 35),none,none,.mkf (.func 200) [(.tmp 34)] []⟩,.op ⟨(some 36),none,none,.mov (.tmp 0)⟩,.op ⟨(some 37),none,none,.mkf (.func 201) [(.tmp 36)] []⟩,.op ⟨(some 38),none,none,.build [.nilFunc,.nilFunc,.nilFunc] [(0,1,(.tmp 33)),(1,1,(.tmp 35)),(2,1,(.tmp 37))]⟩,.ins ((.int .i64 5)) 38,.op ⟨(some 39),none,none,.mov (.tmp 0)⟩,.op ⟨(some 40),none,none,.mkf (.func 202) [(.tmp 39)] []⟩,.op ⟨(some 41),none,none,.mov (.tmp 0)⟩,.op ⟨(some 42),none,none,.mkf (.func 203) [(.tmp 41)] []⟩,.op ⟨(some 43),none,none,.mov (.tmp 0)⟩,.op ⟨(some 44),none,none,.mkf (.func 195) [(.tmp 43)] []⟩,.op ⟨(some 45),none,none,.build [.nilFunc,.nilFunc,.nilFunc] [(0,1,(.tmp 40)),(1,1,(.tmp 42)),(2,1,(.tmp 44))]⟩,.ins ((.int .i64 6)) 45,.op ⟨(some 46),none,none,.mov (.tmp 3)⟩,.op ⟨(some 2),none,none,.mov (.tmp 46)⟩]
theorem kindMix_eq:mixL Tryz.prog 47 (fun _=>0) kindOps 205 3 (List.range' 1 50)=some kindMix:=by kernel_rfl
def kindF:SFunc:=⟨0,.skip,[.tmp 2],false⟩
def kindK(w:List PV)(s:ES):Prop:=exitF kindF 0 s=some (.mp kdK (kdL w),[])
theorem kinds_walk(g:Sh.Glob)(w:List PV):mixW Tryz.prog g false 3 (kindK w) kindMix ⟨[(0,.pv (.el w)),(3,.mp [] [])],[],[],[]⟩:=by
 unfold kindMix;simp only[vW,seval,mwV,SOper.news,SOp.news];repeat(refine⟨by rfl,?_⟩)
 show exitF kindF 0 _=some (.mp kdK (kdL w),[]);rfl
theorem kinds_ok(g:Sh.Glob)(ps:List PV):SCalls Tryz.prog g 127 [.pv (.el ps)] [] (.mp kdK (kdL ps)) []:=by
 refine⟨z47 (by kernel_rfl),fun w E us hG hm hX hl hr=> ?_⟩;obtain⟨u,rfl⟩:∃u,us=[u]:=by
  match us,hl with
  |[u],_=>exact⟨u,rfl⟩
 have hu:=hr 0 _ u rfl rfl;have hS0:=start_sim (N:=47) (xs:=[.pv (.el ps)]) (by show 1≤47;decide) hm hl hr;refine calls_of_wp Tryz.func127 rfl ?_;refine wp_seq (wp_region ?_);show wpOps _ _ _ [0] _ _;rw[wpOps_cons];refine z90 rfl rfl (v:=.map none) (w':=w) rfl ?_;show(Code.seq _ _).wp _ _ _ _;refine wp_seq (wp_region ?_);show wpOps _ kindOps _ (0::(List.range' 1 50++[])) _ _;rw[wpOps_cons];refine z90 rfl rfl (v:=.map (some w.heap.size)) (w':=w.alloc (.map #[] 0)) rfl ?_;have hnew:(w.alloc (.map #[] 0)).heap[w.heap.size]?=some (.map #[] 0):=heap_alloc_new w _;have hbel:Below w.heap.size w (w.alloc (.map #[] 0)):=(Below.refl w.heap.size w).alloc (Nat.le_refl _) _;have hS1:=hS0.same hbel;refine mix_sound (B:=Sh.start w E [] 47) (g:=g) (kt:=3) (et:=124) (text:=false) (t:=205) (m:=3) (b:=w.heap.size) (H:=fun _=>0) (K:=kindK ps) (by show 0≤1000;decide) (by show 47≤1000;decide) hG hX (by kernel_rfl) (by kernel_rfl) (by show 3<47;decide) (Nat.le_refl _) ?_ _ kindMix kindMix_eq ⟨[(0,.pv (.el ps)),(3,.mp [] [])],[],[],[]⟩ _ _ E (kinds_walk g ps) ?_ ?_
 ·intro s a w2 E2 hS hk;show Code.ret.wp _ _ a w2;refine wp_ret ?_;have hhrs:seqO (z63 Tryz.prog) Tryz.f127.results.toList=some [.tmp 2]:=by kernel_rfl
  obtain⟨v,hrun,v1,E4,hv,hm4,hr4,hl4⟩:=fin_of (F:=kindF) rfl rfl hhrs (os:=[]) (os':=[]) (ds:=[]) rfl hS hk;exact⟨hS.defers,v,hrun,v1,E4,hv,hm4,hr4,hl4⟩
 ·have hnt:Tryz.f127.ntmps=47:=rfl;show Sim _ _ ((Act.put ⟨#[u]++Array.replicate (Tryz.f127.ntmps - #[u].size) undef,[]⟩ (some 2) (.map none)).put (some 3) (.map (some w.heap.size))) _ _;have h2:=hS1.act (a2:=Act.put ⟨#[u]++Array.replicate (Tryz.f127.ntmps - #[u].size) undef,[]⟩ (some 2) (.map none)) (by rw[hnt];simp[Act.put];rfl) rfl (fun k x hx=>by
   have hx:([TV.pv (.el ps)]:List TV)[k]?=some x:=by rw[←hx];cases k<;>rfl
   cases k with
   |zero=>
    cases hx;have:=(hS1.tmp 0 _ rfl).2;simpa [Act.put,Array.getD]using this
   |succ k=>simp at hx)
  have h3:=h2.setT (k:=3) (by show 3<47;decide) (x:=.mp [] []) (v:=.map (some w.heap.size)) (.mp [] [] w.heap.size #[] 0 (fun _=>undef) hnew rfl rfl (by simp) (by simp));have he:((startE [.pv (.el ps)] []).fs.setT 3 (.mp [] []))=(⟨[(0,.pv (.el ps)),(3,.mp [] [])],[],[],[]⟩:ES).fs:=by
   refine FS.ext' (fun k=> ?_) (fun k=>rfl) (fun k=>rfl) (fun k=>rfl);show setF (lk [(0,TV.pv (.el ps))]) 3 _ k=lk [(0,_),(3,_)] k;rw[←lk_sv];rfl
  rw[he]at h3;exact h3
 ·show(Act.put _ (some 3) _).tmps.getD 3 undef=_;simp[Act.put,Array.getD]
def wkP(c:Cls)(h:Chg)(i:Nat)(b:Bool)(x o:PV):List PV:=
 [.v (.string (str c.n)),.sl 4 (flR c.fs),.v (.int .i64 h.k),.v (.string (str h.f)),.v (.string (str h.n)),.v (.string (str h.m)),.v (.int .i64 h.t.k),.v (.int .i64 h.t.o),.v (.string (str h.x)),.v (.string (str h.o)),
  .v (.int .i64 (i:Int)),.v (.bool b),x,o]
def wkC(c:Cls)(h:Chg):List PV:=wkP c h (atV c.fs h.f) (hasV c.fs h.f) (tlT c h.t (tellV c h.x h.t)) (tlT c h.t (tellV c h.o h.t))
theorem fieldT_eq(fs:List Fld)(s:List UInt8):fieldT fs s=.tuple [I (atV fs s:Int),B (hasV fs s)]:=by
 unfold fieldT atV hasV;by_cases h:fieldAt fs s<0
 ·rw[if_pos h,decide_eq_true h];have:(fieldAt fs s).toNat=0:=by omega
  rw[this];rfl
 ·rw[if_neg h,decide_eq_false h];have:((fieldAt fs s).toNat:Int)=fieldAt fs s:=by omega
  rw[this];rfl
theorem wkFree_ok(g:Sh.Glob)(c:Cls)(h:Chg)(i:Nat)(b:Bool)(x o:PV)(s t:List UInt8)(hl:c.fs.length≤4611686018427387904):SCalls Tryz.prog g 239 [.pv (.el (wkP c h i b x o)),S (str s),S (str t)] [] (B (freeV c.fs s t)) []:=by
 have HF:=field_ok g c s hl;rw[fieldT_eq]at HF;have hv:freeV c.fs s t=(!hasV c.fs s||(s==t)):=by unfold freeV hasV;simp
 rw[hv];generalize hasV c.fs s=q at*;generalize atV c.fs s=j at*;refine z10 tf_6 ?_;unfold clT wkP B at*;cases q
 ·simp only[vW,seval];refine z8 HF ?_;rfl
 ·simp only[vW,seval];exact z14 HF
theorem tlT_ne(c:Cls)(t:Ty)(x:Tl):∃p,tlT c t x=p∧fnilK true (some (.pv p))=some (.pv (.v (.bool x.is)),.no):=by
 cases x<;>exact⟨_,rfl,rfl⟩
def mayF(k:Int):Nat:=if k=1 then 187 else if k=2 then 190 else if k=3 then 193 else if k=4 then 196 else if k=5 then 199 else 202
def fldF(k:Int):Nat:=if k=1 then 188 else if k=2 then 191 else if k=3 then 194 else if k=4 then 197 else if k=5 then 200 else 203
def valF(k:Int):Nat:=if k=1 then 189 else if k=2 then 192 else if k=3 then 195 else if k=4 then 198 else if k=5 then 201 else 195
theorem may_ok(g:Sh.Glob)(c:Cls)(h:Chg)(hk:h.k=1∨h.k=2∨h.k=3∨h.k=4∨h.k=5∨h.k=6)(hl:c.fs.length≤4611686018427387904):SCalls Tryz.prog g (mayF h.k) [.pv (.el (wkC c h))] [] (B (mayV c h)) []:=by
 have HF:=fun s t=>wkFree_ok g c h (atV c.fs h.f) (hasV c.fs h.f) (tlT c h.t (tellV c h.x h.t)) (tlT c h.t (tellV c h.o h.t)) s t hl;have e0:(⟨#[]⟩:ByteArray)=str []:=rfl;have hidx:hasV c.fs h.f=true→∃f,c.fs[atV c.fs h.f]?=some f∧c.fs.getD (atV c.fs h.f) fld0=f:=by
  intro hh;unfold hasV at hh;have h0:¬fieldAt c.fs h.f<0:=by simpa using hh
  obtain⟨f,hf,_⟩:=z117 (fun f:Fld=>f.n==h.f) c.fs (atV c.fs h.f) (by unfold atV fieldAt at*;omega);exact⟨f,hf,by rw[List.getD_eq_getElem?_getD,hf];rfl⟩
 unfold wkC;obtain⟨px,hpx,nx⟩:=tlT_ne c h.t (tellV c h.x h.t);obtain⟨po,hpo,no⟩:=tlT_ne c h.t (tellV c h.o h.t);rw[hpx,hpo]at HF ⊢;unfold mayV mayF;generalize(tellV c h.x h.t).is=bx at*;generalize(tellV c h.o h.t).is=bo at*;generalize atV c.fs h.f=i at*;generalize hasV c.fs h.f=hb at*;clear hpx hpo;obtain⟨k,f,n,m,t,x,o⟩:=h;simp only[]at*;rcases hk with rfl|rfl|rfl|rfl|rfl|rfl
 ·rw[if_pos rfl,if_pos rfl];refine z10 tf_9 ?_;have HF:=HF n [];unfold wkP B at*;by_cases h8:(c.fs.length:Int)<8
  ·have h8':c.fs.length<8:=by omega
   rw[decide_eq_true h8',Bool.true_and];simp only[vW,seval,h8,e0,clV];refine z7 HF ?_;cases freeV c.fs n []
   ·simp only[vW,seval]
   ·simp only[vW,seval,nx]
  ·have h8':¬c.fs.length<8:=by omega
   rw[decide_eq_false h8'];simp only[vW,seval,h8,clV]
 ·rw[if_neg (by decide),if_pos rfl,if_neg (by decide),if_pos rfl];refine z10 tf_10 ?_;unfold wkP B at*;simp only[vW,seval]
 ·rw[if_neg (by decide),if_neg (by decide),if_pos rfl,if_neg (by decide),if_neg (by decide),if_pos rfl];refine z10 tf_12 ?_;have HF:=HF n [];unfold wkP B at*;cases hb
  ·simp only[vW,seval]
  ·simp only[vW,seval,e0];exact z14 HF
 ·rw[if_neg (by decide),if_neg (by decide),if_neg (by decide),if_pos rfl,if_neg (by decide),if_neg (by decide),if_neg (by decide),if_pos rfl];refine z10 tf_14 ?_;unfold wkP B at*;cases hb
  ·simp only[vW,seval]
  ·simp only[vW,seval,nx]
 ·rw[if_neg (by decide),if_neg (by decide),if_neg (by decide),if_neg (by decide),if_pos rfl,if_neg (by decide),if_neg (by decide),if_neg (by decide),if_neg (by decide),if_pos rfl];refine z10 tf_13 ?_;have HF1:=HF n f;have HF2:=HF m f;unfold wkP B at*;cases hb
  ·simp only[vW,seval]
  by_cases h8:(8:Int)≤(c.fs.length:Int)
  ·have h8':¬c.fs.length<8:=by omega
   rw[decide_eq_false h8'];simp only[vW,seval,h8,clV]
  ·have h8':c.fs.length<8:=by omega
   rw[decide_eq_true h8'];cases hnm:(n==m)
   ·simp only[vW,seval,h8,hnm,clV];refine z7 HF1 ?_;cases freeV c.fs n f
    ·simp only[vW,seval]
    simp only[vW,seval];refine z7 HF2 ?_;cases freeV c.fs m f
    ·simp only[vW,seval]
    simp only[vW,seval,nx];cases bx
    ·simp only[vW,seval]
    ·simp only[vW,seval,no]
   ·simp only[vW,seval,h8,hnm,clV]
 ·rw[if_neg (by decide),if_neg (by decide),if_neg (by decide),if_neg (by decide),if_neg (by decide),if_neg (by decide),if_neg (by decide),if_neg (by decide),if_neg (by decide),if_neg (by decide)];refine z10 tf_11 ?_;unfold wkP B at*;cases hb
  ·simp only[vW,seval]
  ·obtain⟨fd,ef,eg⟩:=hidx rfl;rw[eg];simp only[vW,seval,ef,clV]
end Go.Proofs.YtcpaleaajdilgaaGreatDoor
end

section
namespace Go.Sh
open Go Go.RowKit
set_option maxHeartbeats 1000000
theorem start_noX{w:World}{E:Env}{N:Nat}:∀d b,¬(start w E [] N).X d b:=fun d b hx=>by
 rcases hx with⟨cs,h1,_⟩|⟨q,cap,h1,_⟩<;>grind [objB,objR]
theorem z92{w:World}{E:Env}{N:Nat}:∀d,¬(start w E [] N).old d:=fun d h=>by have h1:=h.1;have h2:d<1000+0:=h.2;omega
theorem z129{e W n d:Nat}{q:Nat×Nat×Nat}(h:objR [.row e W n] d=some q):d=1000∧q=(e,W,n):=by
 grind [objR]
theorem objB_one{cs:List TV}{d:Nat}{c:List TV}(h:objB [.box cs] d=some c):d=1000∧c=cs:=by
 grind [objB]
theorem objB_row{e W n d:Nat}:objB [.row e W n] d=none:=by
 grind [objB]
theorem objR_box{cs:List TV}{d:Nat}:objR [.box cs] d=none:=by
 grind [objR]
theorem low_below{X:Nat→Nat→Prop}{w w':World}(h:Below w.heap.size w w'):Low X w w':=⟨h.os,h.tape,h.output,h.size,fun k hk _=>h.block k hk⟩
theorem own_of{P:Program}{g:Glob}{f:Nat}{xs:List TV}{e W:Nat}{es:List (List PV)}(hW:0<W)(hb:hasBody P f)
  (h:∀(w:World) (E:Env) (us:List Value),g.G w→xs.length=us.length→(∀(j:Nat) x v,xs[j]?=some x→us[j]?=some v→RelT w E (objR []) x v)→
   ∃(news:List Value) (F:Nat→Nat→Value),News w E.K W es news F∧Calls P f us.toArray w fun o w'=>∃v',o=.returned v'∧w'.ownsRow w.heap.size e W v' es.length news∧Below w.heap.size w w'):
  SCalls P g f xs [] (.own 1000 W es) [.row e W es.length]:=by
 refine⟨hb,fun w E us hG hm hX hl hr=> ?_⟩;obtain⟨news,F,hn,hc⟩:=h w E us hG hl hr;refine hc.mono ?_;rintro o w' ⟨v',rfl,hown,hbel⟩;have hk0:∀b o u,E.K b o→w.cell? ⟨b,o,none⟩=some u→w'.cell? ⟨b,o,none⟩=some u:=fun b o u h1 h2=>(hbel.cell (z72 h2)).trans h2;obtain⟨hlen,hown⟩:=hown;rcases hown with⟨rfl,h0⟩|⟨k,cap,cur,rfl,hk,hcur,hle,hmax,hsz,htake⟩
 ·have hes:es=[]:=List.eq_nil_of_length_eq_zero h0;subst hes;refine⟨_,{ E with γ:=fun j=>if j=1000 then none else E.γ j },rfl,⟨fun d cs hd=>(by grind [objB_row]),fun d e' W' n hd=> ?_,fun d d' cs cs' hd=>(by grind [objB_row]),fun d d' cs q k cap hd=>(by grind [objB_row]),fun d d' q q' k cap cap' h1 h2 h3=> ?_,fun k o ho=>Nat.lt_of_lt_of_le (hm.lt k o ho) hbel.size,low_below hbel,fun k o u h1 h2=>⟨h1,hk0 k o u h1 h2⟩,fun k o h1=> .inl h1,⟨fun d hd=>absurd hd (z92 d),fun d hd=>absurd hd (z92 d),fun d e W n hd=>absurd hd (z92 d)⟩⟩,?_,⟨fun d h1 h2=>absurd h2 (by omega),fun d h1 h2=>absurd h2 (by omega),fun d e W n hd=>by simp[objR]at hd⟩⟩
  ·obtain⟨rfl,hq⟩:=z129 hd
   grind
  ·obtain⟨rfl,_⟩:=z129 h1;simp at h3
  ·refine .own 1000 W [] _ (.sl W [] 0 0 0 none (fun _ _=>undef) (by simp) (by simp) (Nat.zero_le _) (by simp) (by simp) (by simp)) (fun e' W' n hd=> ?_);obtain⟨_,hq⟩:=z129 hd;cases hq;exact⟨Nat.le_refl _,fun _=>⟨rfl,by simp[hdr]⟩⟩
 ·have hcell:∀(j:Nat) u,news[j]?=some u→w'.cell? ⟨k,j,none⟩=some u:=fun j u hj=>by
   have hj':j<es.length*W:=by grind
   have:=World.ownsRow.cellAt (w:=w') (base:=w.heap.size) (e:=e) (size:=W) (g:=k) (n:=es.length) (cap:=cap) (xs:=news) ⟨hlen,.inr ⟨k,cap,cur,rfl,hk,hcur,hle,hmax,hsz,htake⟩⟩ j hj'
   grind
  let K':Nat→Nat→Prop:=fun b o=>E.K b o∨(b=k∧o<es.length*W)
  have hkk:∀b o u,E.K b o→w.cell? ⟨b,o,none⟩=some u→K' b o∧w'.cell? ⟨b,o,none⟩=some u:=fun b o u h1 h2=>⟨.inl h1,hk0 b o u h1 h2⟩
  have hklt:k<w'.heap.size:=(gA hcur).1;refine⟨_,{ E with K:=K',γ:=fun j=>if j=1000 then some (k,cap)else E.γ j },rfl,⟨fun d cs hd=>(by grind [objB_row]),fun d e' W' n hd=> ?_,fun d d' cs cs' hd=>(by grind [objB_row]),fun d d' cs q k cap hd=>(by grind [objB_row]),fun d d' q q' k cap cap' h1 h2 h3 _=> ?_,fun b o ho=> ?_,low_below hbel,fun b o u h1 h2=>⟨.inl h1,hk0 b o u h1 h2⟩,fun b o h1=> ?_,⟨fun d hd=>absurd hd (z92 d),fun d hd=>absurd hd (z92 d),fun d e W n hd=>absurd hd (z92 d)⟩⟩,?_,⟨fun d h1 h2=>absurd h2 (by grind),fun d h1 h2=>absurd h2 (by grind),fun d e W n hd=>by simp[objR]at hd⟩⟩
  ·obtain⟨rfl,hq⟩:=z129 hd;cases hq;refine .inr ⟨k,cap,by simp,.inl hk,⟨⟨cur,hcur,hsz⟩,hle,hmax,fun o ho=> ?_⟩⟩;rcases ho with ho|⟨_,ho⟩
   ·exact absurd (hm.lt k o ho) (by omega)
   ·exact ho
  ·obtain⟨rfl,_⟩:=z129 h1
   grind [z129]
  ·rcases ho with ho|⟨rfl,_⟩
   ·exact Nat.lt_of_lt_of_le (hm.lt b o ho) hbel.size
   ·exact hklt
  ·rcases h1 with h1|⟨rfl,_⟩
   ·exact .inl h1
   ·exact .inr (.inl hk)
  ·refine .own 1000 W es _ (.sl W es k 0 cap _ F (fun _=>rfl) hle hmax hn.len (fun i j cs c h1 h2=> ?_) (fun i j cs c h1 h2=> ?_)) (fun e' W' n hd=> ?_)
   ·obtain⟨n1,n2,_⟩:=hn.at_ i j cs c h1 h2
    grind
   ·exact(hn.at_ i j cs c h1 h2).2.2.mono hkk
   ·obtain⟨_,hq⟩:=z129 hd;cases hq;exact⟨Nat.le_refl _,fun _=>⟨rfl,by simp[hdr]⟩⟩
def PV.flat:PV→Bool
 | .v _=>true
 | .sl _ []=>true
 |_=>false
theorem flat_any{w:World}{K K':Nat→Nat→Prop}{p:PV}{v:Value}(hp:p.flat=true)(h:RelV w K p v):RelV w K' p v:=by
 cases h with
 |v=>exact .v _
 |sl W es b off cap p f hp' hcap hmax hW hc hs=>
  cases es with
  |nil=>exact .sl W [] b off cap p f hp' hcap hmax hW (by simp) (by simp)
  |cons x l=>simp[PV.flat]at hp
 |_=>simp[PV.flat]at hp
theorem SCalls.boxed{P:Program}{g:Glob}{f:Nat}{xs:List TV}{e W:Nat}{es:List (List PV)}(h:SCalls P g f xs [] (.own 1000 W es) [.row e W es.length])(hne:es≠[])(hfl:∀cs∈es,cs.length=W∧∀c∈cs,c.flat=true):
  SCalls P g f xs [] (.bs 1000 0 es.length es.length) [.box (es.flatten.map TV.pv)]:=by
 refine⟨h.1,fun w E us hG hm hX hl hr=>(h.2 w E us hG hm hX hl hr).mono ?_⟩;rintro o w' ⟨v,E',rfl,hM,hrel,hleft⟩;have hq:objR [.row e W es.length] 1000=some (e,W,es.length):=by simp[objR]
 cases hrel with
 |own _ _ _ _ hv hown=>
 obtain⟨_,hval⟩:=hown e W es.length hq;obtain⟨_,rfl⟩:=hval rfl;have hpos:0<es.length:=List.length_pos_iff.2 hne;rcases hM.row 1000 e W es.length hq with⟨_,h0⟩|⟨k,cap,hg,hk,hrow⟩
 ·omega
 have hk:w.heap.size≤k:=by
  rcases hk with hk|hk
  ·exact hk
  ·exact absurd hk (start_noX _ _)
 rw[hg]at hv ⊢;obtain⟨cur,hcur,hsz⟩:=hrow.cells;obtain⟨b,off,cap',p,F,he,hp,_,_,hWs,hcs⟩:=z66 hv;have hpe:=hp hne;subst hpe;obtain⟨⟨rfl,rfl,_⟩,_,rfl⟩:=he;have hno:∀d,¬(start w E [] 0).old d:=z92;have hcl:cur.toList.length=cap*W:=by rw[Array.length_toList];exact hsz
 have htk:(cur.toList.take (es.length*W)).length=es.length*W:=by rw[List.length_take,hcl];exact Nat.min_eq_left (Nat.mul_le_mul_right W hrow.le)
 refine⟨_,{ E' with K:=fun b o=>E'.K b o∧b≠k,β:=fun j=>if j=1000 then k else E'.β j },rfl,⟨fun d cs hd=> ?_,fun d e' W' n hd=>(by rw[objR_box]at hd;cases hd),fun d d' cs cs' h1 h2 _=> ?_,fun d d' cs q k cap _ h2=>(by rw[objR_box]at h2;cases h2),fun d d' q q' k cap cap' h1=>(by rw[objR_box]at h1;cases h1),fun b o ho=>hM.lt b o ho.1,hM.low,fun b o u h1 h2=> ?_,fun b o h1=>hM.knew b o h1.1,⟨fun d hd=>absurd hd (hno d),fun d hd=>absurd hd (hno d),fun d e W n hd=>absurd hd (hno d)⟩⟩,?_,⟨fun d h1 h2=>absurd h2 (by simp;omega),fun d h1 h2=>absurd h2 (by simp;omega),fun d e W n hd=>by simp[objR]at hd⟩⟩
 ·obtain⟨rfl,rfl⟩:=objB_one hd;refine⟨⟨(gA hcur).1,⟨_,_,_,hcur⟩,fun o=> ?_,fun j c hj=> ?_,fun o ho=>ho.2 rfl⟩,.inl hk⟩
  ·exact World.ownsRow.frozenAt (w:=w') (base:=0) (e:=e) (size:=W) (g:=k) (n:=es.length) (cap:=cap) (xs:=cur.toList.take (es.length*W)) ⟨htk,.inr ⟨k,cap,cur,rfl,Nat.zero_le _,hcur,hrow.le,hrow.max,hsz,rfl⟩⟩ o
  ·rw[List.getElem?_map]at hj;obtain⟨p,hp,rfl⟩:=gO hj;obtain⟨i,q,cs,h1,h2,rfl⟩:=flat_at (fun cs h=>(hfl cs h).1) hp;obtain⟨⟨_,c2,c3⟩,c4⟩:=hcs i q cs p h1 h2;rw[Nat.zero_add]at c2;exact⟨_,c2,c3,.pv (flat_any ((hfl cs (gM h1)).2 p (gM h2)) c4)⟩
 ·obtain⟨rfl,_⟩:=objB_one h1;obtain⟨rfl,_⟩:=objB_one h2;rfl
 ·obtain⟨h3,h4⟩:=hM.keep b o u h1 h2;refine⟨⟨h3,fun hb=> ?_⟩,h4⟩;have:b<w.heap.size:=z72 h2;omega
 ·have:(⟨(if(1000:Nat)=1000 then k else E'.β 1000),0,none⟩:Addr)=⟨k,0,none⟩:=by simp
  exact .bs (E:={ E' with K:=fun b o=>E'.K b o∧b≠k,β:=fun j=>if j=1000 then k else E'.β j }) 1000 0 es.length es.length cap (Nat.le_refl _) hrow.le hrow.max
end Go.Sh
end

section
namespace Go.Proofs.YtcpaleaajdilgaaGreatDoor
open Go Go.RowKit Go.Mor Go.Sh Go.Lib
set_option maxRecDepth 100000
set_option maxHeartbeats 4000000
theorem infoOf{P:Program}{t:TypeId}{z:Value}{n b:Nat}(h:(P.info? t).map (fun i=>(i.zero,i.size,i.bytes))=some (some z,n,b)):∃i,P.info? t=some i∧i.zero=some z∧i.size=n∧i.bytes=b:=by
 obtain⟨i,h1,h2⟩:=gO h;simp only[Prod.mk.injEq]at h2;exact⟨i,h1,h2.1,h2.2.1,h2.2.2⟩
theorem infF:(Tryz.prog.info? 55).map (fun i=>(i.zero,i.size,i.bytes))=some (some (.agg #[.string ⟨#[]⟩,.int .i64 0,.int .i64 0,.bool false]),4,40):=by kernel_rfl
theorem infV:(Tryz.prog.info? 37).map (fun i=>(i.zero,i.size,i.bytes))=some (some (.agg #[.int .i64 0,.int .i64 0,.string ⟨#[]⟩,.slice none 0 0]),4,56):=by kernel_rfl
theorem clone_any(ad:Addr)(n c:Nat)(news:List Value)(w:World)(hl:news.length=n*4)(hn:n≤maxLen)(hbig:n*40≤140737488355328)(hc:∀j u,news[j]?=some u→w.cell? (ad.add j)=some u)(h1:∀u∈news,u.oneCell'=true):
  Calls Tryz.prog 240 #[.slice (some ad) n c] w fun e w'=>∃v',e=.returned v'∧w'.ownsRow w.heap.size 55 4 v' n news∧Below w.heap.size w w':=by
 have mixed:=hmix;obtain⟨i0,hi,hz0,hz1,hz2⟩:=infoOf infF;have t22:=Tryz.underlying27;have q22:∀(w:World) (a:Option Addr) (n c n' c':Nat),(binOp .eql 27 (.slice a n c) (.slice none n' c')).run Tryz.prog w=.ok (.bool a.isNone) w:=fun w a n c n' c'=>Lib.run_eql_slice_nil w _ _ a n c n' c' t22;have A:Aside (∀j u,news[j]?=some u→w.cell? (ad.add j)=some u):=hc;clear hc
 go_enter Tryz.func240,Tryz.ntmps240
 go_wp2_with (at_builtin;refine wpList_append_own _ rfl _ _ 27 rfl w.heap.size 55 i0 _ 4 40 t22 hi hz0 hz1 hz2 rfl (by decide) _ _ _ rfl (World.ownsRow_made w #[] 0 (Nat.le_refl _) (Nat.zero_le _) (by simp)) ad n c news rfl ?qc1 ?qc2 ?qc3 ?qc4 ?qc5 ?qc6 ?_)
 case qc1=>exact hl
 case qc2=>
  intro j u hj;exact Lib.cell?_alloc_some _ (A.out j u hj)
 case qc3=>exact h1
 case qc4=>rw[Nat.zero_add];exact hn
 case qc5=>rw[Nat.zero_add];exact hbig
 case qc6=>simp
 intro v' w1 hown hgrow hnil
 go_wp2
 go_ret
 refine⟨v',rfl,by simpa using hown,?_⟩;exact((Below.refl _ w).alloc (Nat.le_refl _) _).grown hgrow (by simp) (by intro k hk;simp[Value.ownBlock]at hk;omega)
theorem clone_nil(n c:Nat)(w:World):Calls Tryz.prog 240 #[.slice none n c] w fun e w'=>e=.returned (.slice none 0 0)∧w'=w:=by
 have mixed:=hmix;have t22:=Tryz.underlying27;have q22:∀(w:World) (a:Option Addr) (n c n' c':Nat),(binOp .eql 27 (.slice a n c) (.slice none n' c')).run Tryz.prog w=.ok (.bool a.isNone) w:=fun w a n c n' c'=>Lib.run_eql_slice_nil w _ _ a n c n' c' t22
 go_enter Tryz.func240,Tryz.ntmps240
 go_wp2
 go_ret
 exact⟨rfl,rfl⟩
theorem clone_ok(g:Sh.Glob)(l:List Fld)(hm:l.length≤maxLen)(hbig:l.length*40≤140737488355328):SCalls Tryz.prog g 240 [.pv (.sl 4 (flR l))] [] (.own 1000 4 (flR l)) [.row 55 4 (flR l).length]:=by
 refine own_of (by decide) (z47 (by kernel_rfl)) fun w E us hG hl hr=> ?_;obtain⟨u,rfl⟩:∃u,us=[u]:=by
  match us,hl with
  |[u],_=>exact⟨u,rfl⟩
 have hu:=hr 0 _ u rfl rfl;cases hu with
 |pv hu=>
 obtain⟨news,F,h1,h2,h3,p,cap,rfl,h4⟩:=news_of (by decide) hu;refine⟨news,F,h1,?_⟩;cases p with
 |none=>
  have he:flR l=[]:=by
   rcases h4 with h4|⟨ad,h4,_⟩
   ·exact h4
   ·cases h4
  have hn0:news=[]:=List.eq_nil_of_length_eq_zero (by rw[h2,he];rfl);refine(clone_nil _ _ w).mono ?_;rintro e w' ⟨rfl,rfl⟩;rw[hn0,he];exact⟨_,rfl,World.ownsRow_nil _ _ _ _,.refl _ _⟩
 |some ad=>
  refine clone_any ad _ cap news w h2 (by rw[flLen];exact hm) (by rw[flLen];exact hbig) ?_ h3;rcases h4 with h4|⟨ad',h4,h5⟩
  ·intro j u hj;have hn0:news=[]:=List.eq_nil_of_length_eq_zero (by rw[h2,h4];rfl);rw[hn0]at hj;simp at hj
  ·cases h4;exact h5
theorem growF_any(n:Nat)(w:World)(hn:0<n)(hbig:n*40≤140737488355328)(h63:n≤4611686018427387904):
  Calls Tryz.prog 280 #[.slice none 0 0,.int .i64 n] w fun e w'=>∃v',e=.returned v'∧w'.ownsRow w.heap.size 55 4 v' 0 []∧Below w.heap.size w w':=by
 have mixed:=hmix;obtain⟨i0,hi,hz0,hz1,hz2⟩:=infoOf infF;have t22:=Tryz.underlying27;have t3:=Tryz.underlying3;have q1:¬((n:Int)<0):=by omega
 have q2:RowKit.wrap64 ((0:Int) - 0)=0:=by unfold RowKit.wrap64;omega
 have q3:RowKit.wrap64 ((n:Int) - 0)=(n:Int):=by unfold RowKit.wrap64;omega
 have q4:(n:Int)>0:=by omega
 have hrz:∀ty,(Builtin.append_ #[27,3] ty #[.slice none 0 0,.int .i64 (n:Int)]).run Tryz.prog w=
   .ok (.slice (some ⟨w.heap.size,0,none⟩) n (grownCap w n 0 55)) (w.drew.alloc (.cells ((#[]:Array Value)++Builtin.zeroCells (.agg #[.string ⟨#[]⟩,.int .i64 0,.int .i64 0,.bool false]:Value).cells n++Builtin.zeroCells (.agg #[.string ⟨#[]⟩,.int .i64 0,.int .i64 0,.bool false]:Value).cells (grownCap w n 0 55-n)) 55)):=fun ty=>by
  have h:=Lib.run_append_grow_zeros w 27 3 ty 55 i0 _ .i64 .i64 t22 t3 hi hz0 none 0 0 [] (run_firstCells_none w.drew i0.size 0 0 0) n hn (by omega) (by omega) (by omega) (by rw[hz2];omega) (by rw[hz2,Nat.zero_add];exact growslice_fits (by omega) (by omega));rw[Nat.zero_add]at h;exact h
 have hGn:n≤grownCap w n 0 55:=by have:=grownCap_ge w n 0 55;omega
 obtain⟨G,hG⟩:∃G,G=grownCap w n 0 55:=⟨_,rfl⟩
 rw[←hG]at hrz hGn;have hG63:G≤maxLen:=by
  have:=grownCap_le_maxLen w n 0 55 (by unfold maxLen;omega);rw[←hG]at this;exact this
 have hG64:G≤9223372036854775807:=hG63;clear hG
 go_enter Tryz.func280,Tryz.ntmps280
 go_wp2_with (at_builtin;refine Lib.wpList_append_run _ rfl _ _ _ _ rfl _ _ rfl rfl _ _ (hrz _) ?_)
 all_goals(go_ret;refine⟨_,rfl,⟨rfl,.inr ⟨w.heap.size,G,_,rfl,Nat.le_refl _,heap_alloc_new w.drew _,Nat.zero_le _,hG63,?_,by simp⟩⟩,((Below.refl _ w).drew).alloc (by simp) _⟩)
 all_goals(simp[Builtin.zeroCells,Value.cells];omega)
theorem growF_zero(w:World):Calls Tryz.prog 280 #[.slice none 0 0,.int .i64 0] w fun e w'=>∃v',e=.returned v'∧w'.ownsRow w.heap.size 55 4 v' 0 []∧Below w.heap.size w w':=by
 have mixed:=hmix;have t22:=Tryz.underlying27;have q1:¬((0:Int)<0):=by omega
 have q2:RowKit.wrap64 ((0:Int) - 0)=0:=by unfold RowKit.wrap64;omega
 have q4:¬(0:Int)>0:=by omega
 go_enter Tryz.func280,Tryz.ntmps280
 go_wp2
 go_ret
 exact⟨_,rfl,World.ownsRow_nil _ _ _ _,.refl _ _⟩
theorem growF_ok(g:Sh.Glob)(n:Nat)(hbig:n*40≤140737488355328)(h63:n≤4611686018427387904):SCalls Tryz.prog g 280 [.pv (.v (.slice none 0 0)),I (n:Int)] [] (.own 1000 4 []) [.row 55 4 0]:=by
 refine own_of (es:=[]) (by decide) (z47 (by kernel_rfl)) fun w E us hG hl hr=> ?_;obtain⟨u,u',rfl⟩:∃u u',us=[u,u']:=by
  match us,hl with
  |[u,u'],_=>exact⟨u,u',rfl⟩
 obtain rfl:=val_rel (hr 0 _ u rfl rfl) rfl;obtain rfl:=rel_I (hr 1 _ u' rfl rfl);refine⟨[],fun _ _=>undef,⟨by simp,by simp⟩,?_⟩;by_cases h:n=0
 ·subst h;exact growF_zero w
 ·exact growF_any n w (by omega) hbig h63
theorem growV_any(n:Nat)(w:World)(hn:0<n)(hbig:n*56≤140737488355328)(h63:n≤4611686018427387904):
  Calls Tryz.prog 281 #[.slice none 0 0,.int .i64 n] w fun e w'=>∃v',e=.returned v'∧w'.ownsRow w.heap.size 37 4 v' 0 []∧Below w.heap.size w w':=by
 have mixed:=hmix;obtain⟨i0,hi,hz0,hz1,hz2⟩:=infoOf infV;have t22:=Tryz.underlying31;have t3:=Tryz.underlying3;have q1:¬((n:Int)<0):=by omega
 have q2:RowKit.wrap64 ((0:Int) - 0)=0:=by unfold RowKit.wrap64;omega
 have q3:RowKit.wrap64 ((n:Int) - 0)=(n:Int):=by unfold RowKit.wrap64;omega
 have q4:(n:Int)>0:=by omega
 have hrz:∀ty,(Builtin.append_ #[31,3] ty #[.slice none 0 0,.int .i64 (n:Int)]).run Tryz.prog w=
   .ok (.slice (some ⟨w.heap.size,0,none⟩) n (grownCap w n 0 37)) (w.drew.alloc (.cells ((#[]:Array Value)++Builtin.zeroCells (.agg #[.int .i64 0,.int .i64 0,.string ⟨#[]⟩,.slice none 0 0]:Value).cells n++Builtin.zeroCells (.agg #[.int .i64 0,.int .i64 0,.string ⟨#[]⟩,.slice none 0 0]:Value).cells (grownCap w n 0 37-n)) 37)):=fun ty=>by
  have h:=Lib.run_append_grow_zeros w 31 3 ty 37 i0 _ .i64 .i64 t22 t3 hi hz0 none 0 0 [] (run_firstCells_none w.drew i0.size 0 0 0) n hn (by omega) (by omega) (by omega) (by rw[hz2];omega) (by rw[hz2,Nat.zero_add];exact growslice_fits (by omega) (by omega));rw[Nat.zero_add]at h;exact h
 have hGn:n≤grownCap w n 0 37:=by have:=grownCap_ge w n 0 37;omega
 obtain⟨G,hG⟩:∃G,G=grownCap w n 0 37:=⟨_,rfl⟩
 rw[←hG]at hrz hGn;have hG63:G≤maxLen:=by
  have:=grownCap_le_maxLen w n 0 37 (by unfold maxLen;omega);rw[←hG]at this;exact this
 have hG64:G≤9223372036854775807:=hG63;clear hG
 go_enter Tryz.func281,Tryz.ntmps281
 go_wp2_with (at_builtin;refine Lib.wpList_append_run _ rfl _ _ _ _ rfl _ _ rfl rfl _ _ (hrz _) ?_)
 all_goals(go_ret;refine⟨_,rfl,⟨rfl,.inr ⟨w.heap.size,G,_,rfl,Nat.le_refl _,heap_alloc_new w.drew _,Nat.zero_le _,hG63,?_,by simp⟩⟩,((Below.refl _ w).drew).alloc (by simp) _⟩)
 all_goals(simp[Builtin.zeroCells,Value.cells];omega)
theorem growV_zero(w:World):Calls Tryz.prog 281 #[.slice none 0 0,.int .i64 0] w fun e w'=>∃v',e=.returned v'∧w'.ownsRow w.heap.size 37 4 v' 0 []∧Below w.heap.size w w':=by
 have mixed:=hmix;have t22:=Tryz.underlying31;have q1:¬((0:Int)<0):=by omega
 have q2:RowKit.wrap64 ((0:Int) - 0)=0:=by unfold RowKit.wrap64;omega
 have q4:¬(0:Int)>0:=by omega
 go_enter Tryz.func281,Tryz.ntmps281
 go_wp2
 go_ret
 exact⟨_,rfl,World.ownsRow_nil _ _ _ _,.refl _ _⟩
theorem growV_ok(g:Sh.Glob)(n:Nat)(hbig:n*56≤140737488355328)(h63:n≤4611686018427387904):SCalls Tryz.prog g 281 [.pv (.v (.slice none 0 0)),I (n:Int)] [] (.own 1000 4 []) [.row 37 4 0]:=by
 refine own_of (es:=[]) (by decide) (z47 (by kernel_rfl)) fun w E us hG hl hr=> ?_;obtain⟨u,u',rfl⟩:∃u u',us=[u,u']:=by
  match us,hl with
  |[u,u'],_=>exact⟨u,u',rfl⟩
 obtain rfl:=val_rel (hr 0 _ u rfl rfl) rfl;obtain rfl:=rel_I (hr 1 _ u' rfl rfl);refine⟨[],fun _ _=>undef,⟨by simp,by simp⟩,?_⟩;by_cases h:n=0
 ·subst h;exact growV_zero w
 ·exact growV_any n w (by omega) hbig h63
end Go.Proofs.YtcpaleaajdilgaaGreatDoor
end

section
namespace Go.Proofs.YtcpaleaajdilgaaGreatDoor
open Go Go.RowKit Go.Mor Go.Sh Go.Sh.Cd1 Go.Sh.Cd7
set_option maxRecDepth 100000
set_option maxHeartbeats 4000000
def slR(ls:List (List (List PV))):List (List PV):=ls.map fun l=>[PV.sl 4 l]
theorem slRGet(ls:List (List (List PV)))(i:Nat):(slR ls)[i]?=(ls[i]?).map fun l=>[PV.sl 4 l]:=by unfold slR;rw[List.getElem?_map]
theorem slRLen(ls:List (List (List PV))):(slR ls).length=ls.length:=by unfold slR;rw[List.length_map]
theorem slV:(type_of% @slRGet)∧(type_of% @slRLen):=⟨@slRGet,@slRLen⟩
def cat(ls:List (List (List PV)))(i:Nat):List (List PV):=(ls.take i).flatten
theorem cat_succ{ls:List (List (List PV))}{i:Nat}{l:List (List PV)}(h:ls[i]?=some l):cat ls (i+1)=cat ls i++l:=by
 unfold cat;rw[List.take_add_one,h];simp
theorem cat_le(ls:List (List (List PV))):∀i,(cat ls i).length≤ls.flatten.length:=by
 intro i;unfold cat
 conv=>rhs;rw[←List.take_append_drop i ls,List.flatten_append,List.length_append]
 omega
theorem cat_all(ls:List (List (List PV))):cat ls ls.length=ls.flatten:=by unfold cat;rw[List.take_length]
theorem concatF_ok(g:Sh.Glob)(ls:List (List (List PV)))(hl:ls.length≤1000)(hf:ls.flatten.length≤1000000):SCalls Tryz.prog g 242 [.pv (.sl 1 (slR ls))] [] (.pv (.sl 4 ls.flatten)) []:=by
 have HG:=growF_ok g ls.flatten.length (by omega) (by omega);have hcat:=cat_le ls;have hall:=cat_all ls;refine startV1 tf_145 ?_;refine v_loop (σ:={i:Nat // i≤ls.length}) (fun i=>⟨[(0,.pv (.sl 1 (slR ls))),(3,I ((cat ls i.1).length:Int)),(9,.pv (.sl 1 (slR ls))),(10,I (ls.length:Int)),(11,I (i.1:Int))],[],[],[]⟩) (fun i=>ls.length-i.1) ⟨0,Nat.zero_le _⟩ ?_ ?_
 ·apply lw_of<;>simp[leL,lk,sv,Nat.beq,I,S,ES.kill,has,drp,nilT,slRLen,cat]
 rintro⟨i,hi⟩;by_cases hlt:i<ls.length
 ·have d1:(i:Int)<(ls.length:Int):=by omega
  obtain⟨l,el⟩:∃l,ls[i]?=some l:=⟨_,gE hlt⟩
  have hc:=cat_succ el;have h1:=hcat (i+1);rw[hc,List.length_append]at h1;have w1:IntKind.i64.wrap ((i:Int)+1)=((i+1:Nat):Int):=by rw[wrap64 (by omega) (by omega)];omega
  have w2:IntKind.i64.wrap (((cat ls i).length:Int)+(l.length:Int))=((cat ls i).length:Int)+(l.length:Int):=wrap64 (by omega) (by omega);have d2:¬((cat ls i).length:Int)+(l.length:Int)<0:=by omega
  simp only[vW,seval,slV,d1,d2,el,w1,w2];refine z13 ⟨i+1,hlt⟩ (by show ls.length-(i+1)<ls.length-i;omega) ?_;simp only[hc,List.length_append,Int.natCast_add];apply lw_of<;>simp[leL,lk,sv,Nat.beq,I,S,ES.kill,has,drp,nilT]
 have d1:¬(i:Int)<(ls.length:Int):=by omega
 obtain rfl:i=ls.length:=by omega
 rw[hall];simp only[vW,seval,slV,d1];refine z7 HG ?_;simp only[vW,seval,slV];refine v_loop (σ:={i:Nat // i≤ls.length}) (fun i=>⟨[(6,.own 2096 4 (cat ls i.1)),(25,.pv (.sl 1 (slR ls))),(26,I (ls.length:Int)),(27,I (i.1:Int))],[],[(2096,(55,4,(cat ls i.1).length))],[]⟩) (fun i=>ls.length-i.1) ⟨0,Nat.zero_le _⟩ ?_ ?_
 ·apply lw_of<;>simp[leL,lk,sv,Nat.beq,I,S,ES.kill,has,drp,nilT,slRLen,cat]
 rintro⟨i,hi⟩;by_cases hlt:i<ls.length
 ·have d1:(i:Int)<(ls.length:Int):=by omega
  obtain⟨l,el⟩:∃l,ls[i]?=some l:=⟨_,gE hlt⟩
  have hc:=cat_succ el;have h1:=hcat (i+1);rw[hc,List.length_append]at h1;have w1:IntKind.i64.wrap ((i:Int)+1)=((i+1:Nat):Int):=by rw[wrap64 (by omega) (by omega)];omega
  simp only[vW,seval,slV,d1,el,w1];refine⟨⟨by omega,by unfold maxLen;omega⟩,z13 ⟨i+1,hlt⟩ (by show ls.length-(i+1)<ls.length-i;omega) ?_⟩;simp only[hc,List.length_append];apply lw_of<;>simp[leL,lk,sv,Nat.beq,I,S,ES.kill,has,drp,nilT]
 have d1:¬(i:Int)<(ls.length:Int):=by omega
 obtain rfl:i=ls.length:=by omega
 rw[hall];simp only[vW,seval,slV,d1]
theorem concatV_ok(g:Sh.Glob)(ls:List (List (List PV)))(hl:ls.length≤1000)(hf:ls.flatten.length≤1000000):SCalls Tryz.prog g 243 [.pv (.sl 1 (slR ls))] [] (.pv (.sl 4 ls.flatten)) []:=by
 have HG:=growV_ok g ls.flatten.length (by omega) (by omega);have hcat:=cat_le ls;have hall:=cat_all ls;refine startV1 tf_146 ?_;refine v_loop (σ:={i:Nat // i≤ls.length}) (fun i=>⟨[(0,.pv (.sl 1 (slR ls))),(3,I ((cat ls i.1).length:Int)),(9,.pv (.sl 1 (slR ls))),(10,I (ls.length:Int)),(11,I (i.1:Int))],[],[],[]⟩) (fun i=>ls.length-i.1) ⟨0,Nat.zero_le _⟩ ?_ ?_
 ·apply lw_of<;>simp[leL,lk,sv,Nat.beq,I,S,ES.kill,has,drp,nilT,slRLen,cat]
 rintro⟨i,hi⟩;by_cases hlt:i<ls.length
 ·have d1:(i:Int)<(ls.length:Int):=by omega
  obtain⟨l,el⟩:∃l,ls[i]?=some l:=⟨_,gE hlt⟩
  have hc:=cat_succ el;have h1:=hcat (i+1);rw[hc,List.length_append]at h1;have w1:IntKind.i64.wrap ((i:Int)+1)=((i+1:Nat):Int):=by rw[wrap64 (by omega) (by omega)];omega
  have w2:IntKind.i64.wrap (((cat ls i).length:Int)+(l.length:Int))=((cat ls i).length:Int)+(l.length:Int):=wrap64 (by omega) (by omega);have d2:¬((cat ls i).length:Int)+(l.length:Int)<0:=by omega
  simp only[vW,seval,slV,d1,d2,el,w1,w2];refine z13 ⟨i+1,hlt⟩ (by show ls.length-(i+1)<ls.length-i;omega) ?_;simp only[hc,List.length_append,Int.natCast_add];apply lw_of<;>simp[leL,lk,sv,Nat.beq,I,S,ES.kill,has,drp,nilT]
 have d1:¬(i:Int)<(ls.length:Int):=by omega
 obtain rfl:i=ls.length:=by omega
 rw[hall];simp only[vW,seval,slV,d1];refine z7 HG ?_;simp only[vW,seval,slV];refine v_loop (σ:={i:Nat // i≤ls.length}) (fun i=>⟨[(6,.own 2096 4 (cat ls i.1)),(25,.pv (.sl 1 (slR ls))),(26,I (ls.length:Int)),(27,I (i.1:Int))],[],[(2096,(37,4,(cat ls i.1).length))],[]⟩) (fun i=>ls.length-i.1) ⟨0,Nat.zero_le _⟩ ?_ ?_
 ·apply lw_of<;>simp[leL,lk,sv,Nat.beq,I,S,ES.kill,has,drp,nilT,slRLen,cat]
 rintro⟨i,hi⟩;by_cases hlt:i<ls.length
 ·have d1:(i:Int)<(ls.length:Int):=by omega
  obtain⟨l,el⟩:∃l,ls[i]?=some l:=⟨_,gE hlt⟩
  have hc:=cat_succ el;have h1:=hcat (i+1);rw[hc,List.length_append]at h1;have w1:IntKind.i64.wrap ((i:Int)+1)=((i+1:Nat):Int):=by rw[wrap64 (by omega) (by omega)];omega
  simp only[vW,seval,slV,d1,el,w1];refine⟨⟨by omega,by unfold maxLen;omega⟩,z13 ⟨i+1,hlt⟩ (by show ls.length-(i+1)<ls.length-i;omega) ?_⟩;simp only[hc,List.length_append];apply lw_of<;>simp[leL,lk,sv,Nat.beq,I,S,ES.kill,has,drp,nilT]
 have d1:¬(i:Int)<(ls.length:Int):=by omega
 obtain rfl:i=ls.length:=by omega
 rw[hall];simp only[vW,seval,slV,d1]
theorem rows_more{l:List V}{i:Nat}{v:V}(h:l[i]?=some v):V.rows (l.take (i+1))=V.rows (l.take i)++[V.row v]:=by rw[List.take_add_one,h];simp[V.rows]
theorem fresh7_n(g:Sh.Glob):∀(n:Nat) (l:List V),SizeOf.sizeOf l≤n→l.length≤1000→(∀v∈l,VFew v)→SCalls Tryz.prog g 241 [.pv (.sl 4 (V.rows l))] [] (.own 1000 4 (V.rows l)) [.row 37 4 l.length]:=by
 intro n
 induction n with
 |zero=>intro l hs;cases l<;>simp at hs
 |succ n ih=>
  intro l hs hl hf;have IH:∀v∈l,SCalls Tryz.prog g 241 [.pv (.sl 4 (V.rows v.l))] [] (.own 1000 4 (V.rows v.l)) [.row 37 4 v.l.length]:=fun v hv=>by
   have h1:=List.sizeOf_lt_of_mem hv;have h2:=hf v hv;refine ih v.l ?_ h2.len (fun y hy=>h2.sub hy);cases v with
   |mk k m s vl=>
    have:SizeOf.sizeOf vl<SizeOf.sizeOf (V.mk k m s vl):=by simp;omega
    simp only[Vl];omega
  refine startV2 tf_44 ?_;refine v_loop (σ:={i:Nat // i≤l.length}) (fun i=>⟨[(3,.own 3000 4 (V.rows (l.take i.1))),(6,.pv (.sl 4 (V.rows l))),(7,I (l.length:Int)),(8,I (i.1:Int))],[],[(3000,(37,4,i.1))],[]⟩) (fun i=>l.length-i.1) ⟨0,Nat.zero_le _⟩ ?_ ?_
  ·refine ES.Lw.trans ?_ (show ES.Lw ⟨[(3,nilT),(6,.pv (.sl 4 (V.rows l))),(7,I (l.length:Int)),(8,I 0)],[],[],[]⟩ _ by apply lw_of<;>simp[leL,lk,sv,Nat.beq,I,S,ES.kill,has,drp,nilT]);refine ES.Lw.trans ?_ (adT_lw (k:=3) (d:=3000) (e:=37) (W:=4) (.inr (by decide)) rfl);exact lw_eq rfl
  rintro⟨i,hi⟩;by_cases hlt:i<l.length
  ·have d1:(i:Int)<(l.length:Int):=by omega
   obtain⟨v,ev⟩:∃v,l[i]?=some v:=⟨_,gE hlt⟩
   have w1:IntKind.i64.wrap ((i:Int)+1)=((i+1:Nat):Int):=by rw[wrap64 (by omega) (by omega)];omega
   have HI:=IH v (gM ev);have hm:=rows_more ev;have hlen:(l.take i).length=i:=by rw[List.length_take];omega
   simp only[vW,seval,d1,ev];refine z7 HI ?_;simp only[vW,seval,hlen,w1];refine⟨⟨by omega,by unfold maxLen;omega⟩,z13 ⟨i+1,hlt⟩ (by show l.length-(i+1)<l.length-i;omega) ?_⟩;simp only[hm];apply lw_of<;>simp[leL,lk,sv,Nat.beq,I,S,ES.kill,has,drp,nilT,row4]
  have d1:¬(i:Int)<(l.length:Int):=by omega
  obtain rfl:i=l.length:=by omega
  rw[List.take_length];simp only[vW,seval,d1]
theorem fresh7_ok(g:Sh.Glob)(l:List V)(hl:l.length≤1000)(hf:∀v∈l,VFew v):SCalls Tryz.prog g 241 [.pv (.sl 4 (V.rows l))] [] (.own 1000 4 (V.rows l)) [.row 37 4 l.length]:=fresh7_n g _ l (Nat.le_refl _) hl hf
def flC(l:List Fld):List PV:=(flR l).flatten
theorem flW(l:List Fld):∀cs∈flR l,cs.length=4:=by
 intro cs h;unfold flR at h;obtain⟨f,_,rfl⟩:=List.mem_map.1 h;rfl
theorem flC_len(l:List Fld):(flC l).length=l.length*4:=by unfold flC;rw[flat_len (flW l),flLen]
theorem flC_at{l:List Fld}{k j:Nat}{f:Fld}{p:PV}(h:l[k]?=some f)(hj:(flR1 f)[j]?=some p):(flC l)[k*4+j]?=some p:=by
 unfold flC;exact flat_fwd (flW l) (by rw[flGet,h];rfl) hj
theorem flC_set{f':Fld}{p:PV}{j:Nat}(hj:j<4):∀{l:List Fld} {k:Nat} {f:Fld},l[k]?=some f→(flR1 f).set j p=flR1 f'→(flC l).set (k*4+j) p=flC (l.set k f')
 |[],k,f,h,_=>by simp at h
 |g::l,0,f,h,he=>by
  obtain rfl:g=f:=by simpa using h
  show(flR1 g++flC l).set (0*4+j) p=flR1 f'++flC l;rw[Nat.zero_mul,Nat.zero_add,List.set_append_left _ _ (by exact hj),he]
 |g::l,k+1,f,h,he=>by
  show(flR1 g++flC l).set ((k+1)*4+j) p=flR1 g++flC (l.set k f');have:(k+1)*4+j=(flR1 g).length+(k*4+j):=by show _=4+_;omega
  rw[this,List.set_append_right _ _ (by omega),Nat.add_sub_cancel_left,flC_set hj (by simpa using h) he]
theorem pvC_set2(y z:PV):∀{xs:List PV} {i:Nat},i+1<xs.length→List.take i (pvC xs)++[TV.pv y,TV.pv z]++List.drop (i+2) (pvC xs)=pvC ((xs.set i y).set (i+1) z)
 |[],i,h=>by simp at h
 |[a],i,h=>by simp at h
 |a::b::l,0,h=>rfl
 |a::b::l,i+1,h=>by
  have:=pvC_set2 y z (xs:=b::l) (i:=i) (by simpa using h);show TV.pv a::(List.take i (pvC (b::l))++[TV.pv y,TV.pv z]++List.drop (i+2) (pvC (b::l)))=TV.pv a::pvC (((b::l).set i y).set (i+1) z);rw[this]
theorem cloneB_ok(g:Sh.Glob)(l:List Fld)(hm:l.length≤1000)(hne:l≠[]):SCalls Tryz.prog g 240 [.pv (.sl 4 (flR l))] [] (.bs 1000 0 l.length l.length) [.box (pvC (flC l))]:=by
 have h:=(clone_ok g l (by unfold maxLen;omega) (by omega)).boxed (fun h=>hne (by unfold flR at h;simpa using h)) (fun cs hcs=>⟨flW l cs hcs,fun c hc=>by
  unfold flR at hcs;obtain⟨f,_,rfl⟩:=List.mem_map.1 hcs;simp only[flR1,List.mem_cons,List.not_mem_nil,or_false]at hc;rcases hc with rfl|rfl|rfl|rfl<;>rfl⟩)
 rw[flLen]at h;exact h
theorem putL_set{α:Type}{l:List α}{i:Nat}{x:α}(h:i<l.length):putL l i [x]=l.set i x:=by unfold putL;rw[List.set_eq_take_append_cons_drop,if_pos h];simp
theorem flR_putL(l:List Fld)(i:Nat)(xs:List Fld):flR (putL l i xs)=(flR l).take i++flR xs++(flR l).drop (i+1):=by unfold flR putL;simp[List.map_take,List.map_drop]
theorem has_at{fs:List Fld}{s:List UInt8}(h:hasV fs s=true):∃f,fs[atV fs s]?=some f∧f.n=s∧fs.getD (atV fs s) fld0=f:=by
 unfold hasV at h;have h0:¬fieldAt fs s<0:=by simpa using h
 obtain⟨f,hf,hn⟩:=z117 (fun f:Fld=>f.n==s) fs (atV fs s) (by unfold atV fieldAt at*;omega);exact⟨f,hf,by simpa using hn,by rw[List.getD_eq_getElem?_getD,hf];rfl⟩
theorem fields_ok(g:Sh.Glob)(c:Cls)(h:Chg)(hk:h.k=1∨h.k=2∨h.k=3∨h.k=4∨h.k=5∨h.k=6)(hl:c.fs.length≤1000)(hh:h.k≠1→hasV c.fs h.f=true):SCalls Tryz.prog g (fldF h.k) [.pv (.el (wkC c h))] [] (.pv (.sl 4 (flR (fieldsV c h)))) []:=by
 have HC:=clone_ok g c.fs (by unfold maxLen;omega) (by omega);have HK2:=fun ls h1 h2=>concatF_ok g ls h1 h2;have hidx:h.k≠1→∃f,c.fs[atV c.fs h.f]?=some f∧c.fs.getD (atV c.fs h.f) fld0=f:=fun hn=>by
  obtain⟨f,h1,_,h2⟩:=has_at (hh hn);exact⟨f,h1,h2⟩
 have HB:=fun(hne:c.fs≠[])=>cloneB_ok g c.fs hl hne;unfold wkC fieldsV fldF;generalize tlT c h.t (tellV c h.x h.t)=px at*;generalize tlT c h.t (tellV c h.o h.t)=po at*;generalize hasV c.fs h.f=hb at*;generalize atV c.fs h.f=i at*;obtain⟨k,f,n,m,t,x,o⟩:=h;simp only[]at*;by_cases h1:k=1
 ·subst h1;rw[if_pos rfl,if_pos rfl];refine startC1 tf_2 ?_;unfold wkP;simp only[vW,seval];left;refine z7 HC ?_;simp only[vW,seval,clV];refine⟨⟨by omega,by unfold maxLen;omega⟩,?_⟩;simp[flR,flR1]
 obtain⟨fd,ef,eg⟩:=hidx h1;rw[eg];have hi:=(gJ ef).1;have hne:c.fs≠[]:=fun e=>by rw[e]at hi;simp at hi
 have HB:=HB hne;rcases hk with rfl|rfl|rfl|rfl|rfl|rfl
 ·exact absurd rfl h1
 ·rw[if_neg (by decide),if_pos rfl,if_neg (by decide),if_pos rfl];have w1:IntKind.i64.wrap ((i:Int)+1)=((i+1:Nat):Int):=by rw[wrap64 (by omega) (by omega)];omega
  refine startC1 tf_4 ?_;unfold wkP;have HD:=HK2 [(flR c.fs).take i,(flR c.fs).drop (i+1)] (by show 2≤1000;decide) (by simp[flLen];omega);simp only[slR,List.map_cons,List.map_nil]at HD;have tl:List.take c.fs.length (flR c.fs)=flR c.fs:=List.take_of_length_le (by rw[flLen];omega);simp only[vW,seval,w1,clV,tl,List.drop_zero];refine⟨⟨by omega,by omega⟩,by omega,?_⟩;refine z8 HD ?_;rw[flR_putL];simp[flR]
 ·rw[if_neg (by decide),if_neg (by decide),if_pos rfl,if_neg (by decide),if_neg (by decide),if_pos rfl];refine z153 hmix tf_15 rfl ?_
  conv in SFunc.code _=>reduce
  unfold wkP;refine z52 hmix ?_;simp only[vW,seval];refine z52 hmix ?_;simp only[vW,seval];refine z8 HB ?_;refine z52 hmix ?_;simp only[vW,seval,clV];refine⟨by omega,by rw[flC_len];omega,?_⟩;rw[pvC_set (by rw[flC_len];omega),flC_set (by decide) ef (f':=⟨n,fd.t,fd.ix⟩) rfl];refine sem_lw (frT_lw (k:=3) (d:=2036) (es:=flR (c.fs.set i ⟨n,fd.t,fd.ix⟩)) (c:=c.fs.length) rfl (flW _) (by show some _=some _;rw[flLen,List.length_set])) (sem_swp hmix ?_);simp only[vW,seval];rw[putL_set hi]
 ·rw[if_neg (by decide),if_neg (by decide),if_neg (by decide),if_pos rfl,if_neg (by decide),if_neg (by decide),if_neg (by decide),if_pos rfl];refine z153 hmix tf_18 rfl ?_
  conv in SFunc.code _=>reduce
  unfold wkP;refine z52 hmix ?_;simp only[vW,seval];refine z52 hmix ?_;simp only[vW,seval];refine z8 HB ?_;refine z52 hmix ?_;have hs1:List.take (i*4+1) (pvC (flC c.fs))++[TV.pv (.v (.int .i64 t.k)),TV.pv (.v (.int .i64 t.o))]++List.drop (i*4+1+2) (pvC (flC c.fs))=pvC (flC (c.fs.set i ⟨fd.n,t,fd.ix⟩)):=by
   rw[pvC_set2 _ _ (by rw[flC_len];omega),flC_set (by decide) ef (f':=⟨fd.n,⟨t.k,fd.t.o⟩,fd.ix⟩) rfl,flC_set (j:=2) (by decide) (f:=⟨fd.n,⟨t.k,fd.t.o⟩,fd.ix⟩) (by simp[hi]) (f':=⟨fd.n,t,fd.ix⟩) rfl,List.set_set]
  simp only[vW,seval,clV,hs1];refine⟨by omega,by rw[flC_len];omega,by omega,by rw[flC_len,List.length_set];omega,?_⟩;rw[pvC_set (by rw[flC_len,List.length_set];omega),flC_set (by decide) (f:=⟨fd.n,t,fd.ix⟩) (by simp[hi]) (f':=⟨fd.n,t,false⟩) rfl,List.set_set];refine sem_lw (frT_lw (k:=3) (d:=2036) (es:=flR (c.fs.set i ⟨fd.n,t,false⟩)) (c:=c.fs.length) rfl (flW _) (by show some _=some _;rw[flLen,List.length_set])) (sem_swp hmix ?_);simp only[vW,seval];rw[putL_set hi]
 ·rw[if_neg (by decide),if_neg (by decide),if_neg (by decide),if_neg (by decide),if_pos rfl,if_neg (by decide),if_neg (by decide),if_neg (by decide),if_neg (by decide),if_pos rfl];have w1:IntKind.i64.wrap ((i:Int)+1)=((i+1:Nat):Int):=by rw[wrap64 (by omega) (by omega)];omega
  refine startC1 tf_16 ?_;unfold wkP;have HD:=HK2 [(flR c.fs).take i,flR [⟨n,t,false⟩,⟨m,t,false⟩],(flR c.fs).drop (i+1)] (by show 3≤1000;decide) (by simp[flR];omega);simp only[slR,List.map_cons,List.map_nil,flR,flR1]at HD;have tl:List.take c.fs.length (flR c.fs)=flR c.fs:=List.take_of_length_le (by rw[flLen];omega);simp only[vW,seval,w1,clV,tl,List.drop_zero];refine⟨⟨by omega,by omega⟩,by omega,?_⟩;refine z8 HD ?_;rw[flR_putL];simp[flR,flR1]
 ·rw[if_neg (by decide),if_neg (by decide),if_neg (by decide),if_neg (by decide),if_neg (by decide),if_neg (by decide),if_neg (by decide),if_neg (by decide),if_neg (by decide),if_neg (by decide)];refine z153 hmix tf_7 rfl ?_
  conv in SFunc.code _=>reduce
  unfold wkP;refine z52 hmix ?_;simp only[vW,seval];refine z52 hmix ?_;simp only[vW,seval];refine z8 HB ?_;refine z52 hmix ?_;have hg:(pvC (flC c.fs))[i*4+3]?=some (TV.pv (.v (.bool fd.ix))):=by rw[pvC_get,flC_at ef (j:=3) (p:=.v (.bool fd.ix)) rfl];rfl
  simp only[vW,seval,clV,hg];refine⟨by omega,by omega,by rw[flC_len];omega,?_⟩;rw[pvC_set (by rw[flC_len];omega),flC_set (by decide) ef (f':=⟨fd.n,fd.t, !fd.ix⟩) rfl];refine sem_lw (frT_lw (k:=3) (d:=2036) (es:=flR (c.fs.set i ⟨fd.n,fd.t, !fd.ix⟩)) (c:=c.fs.length) rfl (flW _) (by show some _=some _;rw[flLen,List.length_set])) (sem_swp hmix ?_);simp only[vW,seval];rw[putL_set hi]
def FreshB(g:Sh.Glob)(vals:List V):Prop:=SCalls Tryz.prog g 241 [.pv (.sl 4 (V.rows vals))] [] (.bs 1000 0 vals.length vals.length) [.box (pvC (V.rows vals).flatten)]
theorem rowsW(l:List V):∀cs∈V.rows l,cs.length=4:=by
 intro cs h;rw[z50]at h;obtain⟨f,_,rfl⟩:=List.mem_map.1 h;rw[row4];rfl
theorem freshB_flat(g:Sh.Glob)(l:List V)(hl:l.length≤1000)(hne:l≠[])(hf:∀v∈l,v.l=[]):FreshB g l:=by
 have h0:=fresh7_ok g l hl (fun v hv=>few0 (hf v hv));rw[←z58 l]at h0;have h:=h0.boxed (fun h=>hne (by rw[z50]at h;simpa using h)) (fun cs hcs=>⟨rowsW l cs hcs,fun c hc=>by
  rw[z50]at hcs;obtain⟨f,hfm,rfl⟩:=List.mem_map.1 hcs;rw[row4,hf f hfm]at hc;simp only[List.mem_cons,List.not_mem_nil,or_false]at hc;rcases hc with rfl|rfl|rfl|rfl<;>rfl⟩)
 rw[z58]at h;exact h
theorem row_set{W:Nat}{x:List PV}(hx:x.length=W):∀{X:List (List PV)} {k:Nat},(∀cs∈X,cs.length=W)→k<X.length→List.take (k*W) X.flatten++x++List.drop (k*W+W) X.flatten=(X.set k x).flatten
 |[],k,_,h=>by simp at h
 |y::X,0,hW,_=>by
  have hy:=hW y (List.mem_cons_self ..);rw[List.flatten_cons,List.set_cons_zero,List.flatten_cons,Nat.zero_mul,List.take_zero,List.nil_append,Nat.zero_add,List.drop_append,List.drop_eq_nil_of_le (by omega),hy,Nat.sub_self,List.drop_zero,List.nil_append]
 |y::X,k+1,hW,h=>by
  have hy:=hW y (List.mem_cons_self ..);have ih:=row_set hx (X:=X) (k:=k) (fun cs hc=>hW cs (List.mem_cons_of_mem _ hc)) (by simpa using h);rw[List.flatten_cons,List.set_cons_succ,List.flatten_cons,←ih];have e1:(k+1)*W=W+k*W:=by rw[Nat.add_mul];omega
  rw[e1,List.take_append,List.drop_append,List.take_of_length_le (by omega),List.drop_eq_nil_of_le (by omega),hy];simp[Nat.add_sub_cancel_left,Nat.add_assoc]
theorem vals_set(l:List V)(k:Nat)(v:V)(h:k<l.length):List.take (k*4) (pvC (V.rows l).flatten)++[TV.pv (.v (.int .i64 v.k)),TV.pv (.v (.int .i64 v.n)),TV.pv (.v (.string (str v.s))),TV.pv (.sl 4 (V.rows v.l))]++List.drop (k*4+4) (pvC (V.rows l).flatten)=pvC (V.rows (l.set k v)).flatten:=by
 have hs:V.rows (l.set k v)=(V.rows l).set k (V.row v):=by rw[z50,z50,List.map_set]
 rw[hs,←row_set (x:=V.row v) (by rw[row4];rfl) (rowsW l) (by rw[z58];exact h),row4];unfold pvC;simp[List.map_take,List.map_drop]
theorem tell_ok(m:Nat)(c:Cls)(t:Ty)(x:Tl)(vals:List V)(hx:x.is=true)(hs:∀e,x=.ev e→ESmall e)(hc:ClsOk c)(hf:∀v∈vals,VFew v∧VOk v)(hl:vals.length≤1000):
  (∃f p,tlT c t x=.fn (.func f) [] [p]∧SCalls Tryz.prog (glE m) f [.pv (.sl 4 (V.rows vals)),.pv p] [] (tv (x.val c t vals)) [])∨(∃f p q,tlT c t x=.fn (.func f) [] [p,q]∧SCalls Tryz.prog (glE m) f [.pv (.sl 4 (V.rows vals)),.pv p,.pv q] [] (tv (x.val c t vals)) []):=by
 cases x with
 |no=>cases hx
 |zero=>exact .inl ⟨_,_,rfl,teller1_ok (glE m) t vals⟩
 |ev e=>exact .inr ⟨_,_,_,rfl,teller2_ok m c e vals hc (hs e rfl) hf (by omega)⟩
theorem rows_putL(l:List V)(i:Nat)(xs:List V):V.rows (putL l i xs)=(V.rows l).take i++V.rows xs++(V.rows l).drop (i+1):=by simp only[z50];unfold putL;simp[List.map_take,List.map_drop]
theorem rows_take'(l:List V)(i:Nat):V.rows (l.take i)=(V.rows l).take i:=by simp only[z50,List.map_take]
theorem rows_drop'(l:List V)(i:Nat):V.rows (l.drop i)=(V.rows l).drop i:=by simp only[z50,List.map_drop]
theorem vals_add(m:Nat)(c:Cls)(h:Chg)(vals:List V)(hx:(tellV c h.x h.t).is=true)(hs:∀e,tellV c h.x h.t=.ev e→ESmall e)(hc:ClsOk c)(hf:∀v∈vals,VFew v∧VOk v)(hl:vals.length≤1000):
  SCalls Tryz.prog (glE m) 189 [.pv (.el (wkC c h)),.pv (.sl 4 (V.rows vals))] [] (.pv (.sl 4 (V.rows (vals++[(tellV c h.x h.t).val c h.t vals])))) []:=by
 have HF:=fresh7_ok (glE m) vals hl (fun v hv=>(hf v hv).1);have HT:=tell_ok m c h.t _ vals hx hs hc hf hl;unfold wkC;generalize(tellV c h.x h.t).val c h.t vals=r at*;generalize tlT c h.t (tellV c h.x h.t)=px at*;generalize tlT c h.t (tellV c h.o h.t)=po at*;refine startC1 tf_3 ?_;unfold wkP;rcases HT with⟨f,p,rfl,HT⟩|⟨f,p,q,rfl,HT⟩
 ·simp only[vW,seval];left;refine z8 HF ?_;(with_reducible apply z25);exact kv;exact HT;rfl;exact kv;simp only[vW,seval];refine⟨⟨by omega,by unfold maxLen;omega⟩,?_⟩;rw[z141]
 ·simp only[vW,seval];left;refine z8 HF ?_;(with_reducible apply z25);exact kv;exact HT;rfl;exact kv;simp only[vW,seval];refine⟨⟨by omega,by unfold maxLen;omega⟩,?_⟩;rw[z141]
theorem vals_keep(g:Sh.Glob)(c:Cls)(h:Chg)(vals:List V)(hf:∀v∈vals,VFew v∧VOk v)(hl:vals.length≤1000):
  SCalls Tryz.prog g 195 [.pv (.el (wkC c h)),.pv (.sl 4 (V.rows vals))] [] (.pv (.sl 4 (V.rows vals))) []:=by
 have HF:=fresh7_ok g vals hl (fun v hv=>(hf v hv).1);refine startV1 tf_8 ?_;exact z14 HF
theorem vals_drop(g:Sh.Glob)(c:Cls)(h:Chg)(vals:List V)(hf:∀v∈vals,VFew v∧VOk v)(hl:vals.length≤1000)(hi:atV c.fs h.f<vals.length):
  SCalls Tryz.prog g 192 [.pv (.el (wkC c h)),.pv (.sl 4 (V.rows vals))] [] (.pv (.sl 4 (V.rows (putL vals (atV c.fs h.f) [])))) []:=by
 unfold wkC;generalize tlT c h.t (tellV c h.x h.t)=px at*;generalize tlT c h.t (tellV c h.o h.t)=po at*;generalize atV c.fs h.f=i at*;have H1:=fresh7_ok g (vals.take i) (by rw[List.length_take];omega) (fun v hv=>(hf v (List.mem_of_mem_take hv)).1);have H2:=fresh7_ok g (vals.drop (i+1)) (by rw[List.length_drop];omega) (fun v hv=>(hf v (List.mem_of_mem_drop hv)).1);have HK:=concatV_ok g [(V.rows vals).take i,(V.rows vals).drop (i+1)] (by show 2≤1000;decide) (by simp[z58];omega);simp only[slR,List.map_cons,List.map_nil]at HK;rw[rows_take']at H1;rw[rows_drop']at H2;have tl:List.take vals.length (V.rows vals)=V.rows vals:=List.take_of_length_le (by rw[z58];omega);have w1:IntKind.i64.wrap ((i:Int)+1)=((i+1:Nat):Int):=by rw[wrap64 (by omega) (by omega)];omega
 refine startC1 tf_5 ?_;unfold wkP;simp only[vW,seval,w1,tl,List.drop_zero];refine⟨⟨by omega,by omega⟩,?_⟩;refine z7 H1 ?_;simp only[vW,seval,w1,tl,List.drop_zero];refine⟨by omega,?_⟩;refine z8 H2 ?_;refine z8 HK ?_;rw[rows_putL];simp[V.rows_nil]
theorem vals_turn(m:Nat)(c:Cls)(h:Chg)(vals:List V)(hb:FreshB (glE m) vals)(hx:(tellV c h.x h.t).is=true)(hs:∀e,tellV c h.x h.t=.ev e→ESmall e)(hc:ClsOk c)(hf:∀v∈vals,VFew v∧VOk v)(hl:vals.length≤1000)(hi:atV c.fs h.f<vals.length):
  SCalls Tryz.prog (glE m) 198 [.pv (.el (wkC c h)),.pv (.sl 4 (V.rows vals))] [] (.pv (.sl 4 (V.rows (putL vals (atV c.fs h.f) [(tellV c h.x h.t).val c h.t vals])))) []:=by
 have HT:=tell_ok m c h.t _ vals hx hs hc hf hl;unfold FreshB at hb;unfold wkC;generalize(tellV c h.x h.t).val c h.t vals=r at*;generalize tlT c h.t (tellV c h.x h.t)=px at*;generalize tlT c h.t (tellV c h.o h.t)=po at*;generalize atV c.fs h.f=i at*;have hset:=vals_set vals i r hi;have hln:(V.rows vals).flatten.length=vals.length*4:=by rw[flat_len (rowsW vals),z58]
 have hput:=putL_set (x:=r) hi;refine z153 hmix tf_19 rfl ?_
 conv in SFunc.code _=>reduce
 unfold wkP;refine z52 hmix ?_;simp only[vW,seval];refine z52 hmix ?_;simp only[vW,seval];refine z8 hb ?_;refine z52 hmix ?_;rcases HT with⟨f,p,rfl,HT⟩|⟨f,p,q,rfl,HT⟩
 ·simp only[vW,seval];(with_reducible apply z25);exact kv;exact HT;rfl;exact kv;simp only[vW,seval,hset];refine⟨by omega,by rw[hln];omega,?_⟩;refine sem_lw (frT_lw (k:=5) (d:=2028) (es:=V.rows (vals.set i r)) (c:=vals.length) rfl (rowsW _) (by show some _=some _;rw[z58,List.length_set])) (sem_swp hmix ?_);simp only[vW,seval];rw[hput]
 ·simp only[vW,seval];(with_reducible apply z25);exact kv;exact HT;rfl;exact kv;simp only[vW,seval,hset];refine⟨by omega,by rw[hln];omega,?_⟩;refine sem_lw (frT_lw (k:=5) (d:=2028) (es:=V.rows (vals.set i r)) (c:=vals.length) rfl (rowsW _) (by show some _=some _;rw[z58,List.length_set])) (sem_swp hmix ?_);simp only[vW,seval];rw[hput]
theorem vals_split(m:Nat)(c:Cls)(h:Chg)(vals:List V)(hx:(tellV c h.x h.t).is=true)(ho:(tellV c h.o h.t).is=true)(hs:∀e,tellV c h.x h.t=.ev e→ESmall e)(hs':∀e,tellV c h.o h.t=.ev e→ESmall e)(hc:ClsOk c)(hf:∀v∈vals,VFew v∧VOk v)(hl:vals.length≤1000)(hi:atV c.fs h.f<vals.length):
  SCalls Tryz.prog (glE m) 201 [.pv (.el (wkC c h)),.pv (.sl 4 (V.rows vals))] [] (.pv (.sl 4 (V.rows (putL vals (atV c.fs h.f) [(tellV c h.x h.t).val c h.t vals,(tellV c h.o h.t).val c h.t vals])))) []:=by
 have HT:=tell_ok m c h.t _ vals hx hs hc hf hl;have HU:=tell_ok m c h.t _ vals ho hs' hc hf hl;unfold wkC;generalize(tellV c h.x h.t).val c h.t vals=r at*;generalize(tellV c h.o h.t).val c h.t vals=u at*;generalize tlT c h.t (tellV c h.x h.t)=px at*;generalize tlT c h.t (tellV c h.o h.t)=po at*;generalize atV c.fs h.f=i at*;have H1:=fresh7_ok (glE m) (vals.take i) (by rw[List.length_take];omega) (fun v hv=>(hf v (List.mem_of_mem_take hv)).1);have H2:=fresh7_ok (glE m) (vals.drop (i+1)) (by rw[List.length_drop];omega) (fun v hv=>(hf v (List.mem_of_mem_drop hv)).1);have HK:=concatV_ok (glE m) [(V.rows vals).take i,[[.v (.int .i64 r.k),.v (.int .i64 r.n),.v (.string (str r.s)),.sl 4 (V.rows r.l)],[.v (.int .i64 u.k),.v (.int .i64 u.n),.v (.string (str u.s)),.sl 4 (V.rows u.l)]],(V.rows vals).drop (i+1)] (by show 3≤1000;decide) (by simp[z58];omega);simp only[slR,List.map_cons,List.map_nil]at HK;rw[rows_take']at H1;rw[rows_drop']at H2;have tl:List.take vals.length (V.rows vals)=V.rows vals:=List.take_of_length_le (by rw[z58];omega);have w1:IntKind.i64.wrap ((i:Int)+1)=((i+1:Nat):Int):=by rw[wrap64 (by omega) (by omega)];omega
 have hend:V.rows (putL vals i [r,u])=(V.rows vals).take i++([[.v (.int .i64 r.k),.v (.int .i64 r.n),.v (.string (str r.s)),.sl 4 (V.rows r.l)],[.v (.int .i64 u.k),.v (.int .i64 u.n),.v (.string (str u.s)),.sl 4 (V.rows u.l)]]++(V.rows vals).drop (i+1)):=by
  rw[rows_putL];show _++[V.row r,V.row u]++_=_;rw[row4 r,row4 u,List.append_assoc]
 rw[hend];refine startC1 tf_17 ?_;unfold wkP;rcases HT with⟨f,p,rfl,HT⟩|⟨f,p,q,rfl,HT⟩<;>rcases HU with⟨f',p',rfl,HU⟩|⟨f',p',q',rfl,HU⟩
 all_goals(
  simp only[vW,seval];(with_reducible apply z25);exact kv;exact HT;rfl;exact kv;simp only[vW,seval];(with_reducible apply z25);exact kv;exact HU;rfl;exact kv;simp only[vW,seval,tl,List.drop_zero];refine⟨⟨by omega,by omega⟩,?_⟩;refine z7 H1 ?_;simp only[vW,seval,w1,tl,List.drop_zero];refine⟨by omega,?_⟩;refine z8 H2 ?_;refine z8 HK ?_;simp)
def kdNone:TV:=.agg [.pv (.v .nilFunc),.pv (.v .nilFunc),.pv (.v .nilFunc)]
theorem begin_no(m:Nat)(c:Cls)(h:Chg)(hc:ClsOk c)(hh:ChOk m h)(hno:(z23 c&&wellV h)=false):SCalls Tryz.prog (glE m) 68 [clT c,chT h] [] (.tuple [kdNone,B false]) []:=by
 have HR:=classRight_ok (glE m) c hc;have HW:=wellFormed_ok m h hh;generalize z23 c=r at*;generalize wellV h=w at*;refine z10 tf_42 ?_;unfold clT chT B kdNone at*;cases r
 ·simp only[vW,seval];exact z14 HR
 ·cases w
  ·simp only[vW,seval];refine z8 HR ?_;exact z14 HW
  ·cases hno
theorem begin_k(m:Nat)(c:Cls)(h:Chg)(hc:ClsOk c)(hh:ChOk m h)(hr:z23 c=true)(hw:wellV h=true)(hk:h.k=1∨h.k=2∨h.k=3∨h.k=4∨h.k=5∨h.k=6)(j:Nat)
  (hj:findKs (TypeDesc.int .i64) (.int .i64 h.k) kdK 0=some (some j)) (hx:(kdL (wkC c h))[j]?=some (kdT (wkC c h) (mayF h.k) (fldF h.k) (valF h.k))):
  SCalls Tryz.prog (glE m) 68 [clT c,chT h] [] (.tuple [kdT (wkC c h) (mayF h.k) (fldF h.k) (valF h.k),B (mayV c h)]) []:=by
 have HR:=classRight_ok (glE m) c hc;have HW:=wellFormed_ok m h hh;rw[hr]at HR;rw[hw]at HW;have HF:=field_ok (glE m) c h.f hc.len;rw[fieldT_eq]at HF;have H1:=teller_ok m c h.x h.t hh.x hc;have H2:=teller_ok m c h.o h.t hh.o hc;have HM:=may_ok (glE m) c h hk hc.len;have HK:=kinds_ok (glE m) (wkC c h);unfold kdL kdT fnW at hx;unfold kdL kdT fnW at HK;unfold kdT fnW;have hps:(wkC c h).map TV.pv=[S (str c.n),.pv (.sl 4 (flR c.fs)),I h.k,S (str h.f),S (str h.n),S (str h.m),I h.t.k,I h.t.o,S (str h.x),S (str h.o),I (atV c.fs h.f:Int),.pv (.v (.bool (hasV c.fs h.f))),.pv (tlT c h.t (tellV c h.x h.t)),.pv (tlT c h.t (tellV c h.o h.t))]:=rfl;have tc:∀x,(TV.pv (tlT c h.t x)).cells=some [.pv (tlT c h.t x)]:=fun x=>by cases x<;>rfl
 refine z153 hmix tf_42 rfl ?_
 conv in SFunc.code _=>reduce
 generalize wkC c h=ps at*;unfold clT chT tyT B at*;refine z52 hmix ?_;simp only[vW,seval];refine z52 hmix ?_;simp only[vW,seval];refine z8 HR ?_;refine z8 HW ?_;refine z52 hmix ?_;simp only[vW,seval];refine z52 hmix ?_;simp only[vW,seval];refine z8 HF ?_;refine z52 hmix ?_;simp only[vW,seval];refine z7 H1 ?_;simp only[vW,seval,tc];refine z52 hmix ?_;simp only[vW,seval];refine z7 H2 ?_;simp only[vW,seval,tc];refine sem_lw (frE_lw (k:=6) (d:=20) (ps:=ps) (show lk _ 20=_ from congrArg some hps.symm) rfl) (sem_swp hmix ?_);simp only[vW,seval];refine z7 HK ?_;simp only[vW,seval,hj,hx];(with_reducible apply z25);exact kv;exact HM;rfl;exact kv;simp only[vW,seval]
theorem wk_tuple{cs ds:List TV}(hl:cs.length=ds.length)(h:∀(j:Nat) c d,cs[j]?=some c→ds[j]?=some d→Wk c d):Wk (.tuple cs) (.tuple ds):=by
 intro w E r v hr;cases hr with
 |tuple cs vs hl' hv=>
  refine .tuple ds vs (hl▸hl') (fun j d v hd hv'=> ?_);have hj:j<cs.length:=by
   rcases Nat.lt_or_ge j ds.length with h|h
   ·omega
   ·rw[List.getElem?_eq_none h]at hd;cases hd
  exact h j _ d (gE hj) hd w E r v (hv j _ v (gE hj) hv')
theorem wk_two{a b x y:TV}(h:Wk a b)(h':Wk x y):Wk (.tuple [a,x]) (.tuple [b,y]):=wk_tuple rfl (fun j p q hp hq=>by
 match j with
 |0=>simp at hp hq;subst hp;subst hq;exact h
 |1=>simp at hp hq;subst hp;subst hq;exact h'
 |j+2=>simp at hp)
theorem wk_cl(s:List UInt8):Wk (.agg [S (str s),nilT]) (clT ⟨s,[]⟩):=wk_agg rfl (fun j p q hp hq=>by
 match j with
 |0=>simp at hp hq;subst hp;subst hq;exact .refl _
 |1=>simp at hp hq;subst hp;subst hq;exact wk_nil 4
 |j+2=>simp at hp)
def applyT(r:Cls×Int):TV:=.tuple [clT r.1,I r.2]
def valsT(r:List V×Int):TV:=.tuple [.pv (.sl 4 (V.rows r.1)),I r.2]
theorem well_k{h:Chg}(hw:wellV h=true):h.k=1∨h.k=2∨h.k=3∨h.k=4∨h.k=5∨h.k=6:=by
 unfold wellV at hw;simp only[Bool.and_eq_true]at hw;have:=hw.1.1.1.1.1.1;unfold needV at this;by_cases h1:h.k=1
 ·exact .inl h1
 by_cases h2:h.k=2∨h.k=6
 ·omega
 by_cases h3:h.k=3
 ·omega
 by_cases h4:h.k=4
 ·omega
 by_cases h5:h.k=5
 ·omega
 rw[if_neg h1,if_neg h2,if_neg h3,if_neg h4,if_neg h5]at this;cases this
theorem tell_small{m:Nat}{c:Cls}{s:List UInt8}{t:Ty}(hs:TxOk m s):∀e,tellV c s t=.ev e→ESmall e:=by
 intro e h;unfold tellV at h;split at h
 ·cases h
 ·rename_i hne;split at h
  ·cases h
  ·split at h
   ·cases h;exact hs.sm hne
   ·cases h
theorem begin_yes(m:Nat)(c:Cls)(h:Chg)(hc:ClsOk c)(hh:ChOk m h)(hr:z23 c=true)(hw:wellV h=true):
  SCalls Tryz.prog (glE m) 68 [clT c,chT h] [] (.tuple [kdT (wkC c h) (mayF h.k) (fldF h.k) (valF h.k),B (mayV c h)]) []:=by
 have hk:=well_k hw;have H:=begin_k m c h hc hh hr hw hk;rcases hk with hk|hk|hk|hk|hk|hk
 ·exact H 0 (by rw[hk];rfl) (by rw[hk];rfl)
 ·exact H 1 (by rw[hk];rfl) (by rw[hk];rfl)
 ·exact H 2 (by rw[hk];rfl) (by rw[hk];rfl)
 ·exact H 3 (by rw[hk];rfl) (by rw[hk];rfl)
 ·exact H 4 (by rw[hk];rfl) (by rw[hk];rfl)
 ·exact H 5 (by rw[hk];rfl) (by rw[hk];rfl)
theorem changeRight_ok(m:Nat)(c:Cls)(h:Chg)(hc:ClsOk c)(hh:ChOk m h):SCalls Tryz.prog (glE m) 32 [clT c,chT h] [] (B (okV c h)) []:=by
 have HN:=begin_no m c h hc hh;have HY:=begin_yes m c h hc hh;unfold okV;refine z10 tf_39 ?_;cases hn:(z23 c&&wellV h)
 ·have HN:=HN hn;unfold clT chT kdNone B at*;simp only[vW,seval];exact z14 HN
 ·obtain⟨hr,hw⟩:=Bool.and_eq_true_iff.1 hn;have HY:=HY hr hw;unfold clT chT kdT fnW B at*;simp only[vW,seval];exact z14 HY
theorem may_has{c:Cls}{h:Chg}(hm:mayV c h=true)(h1:h.k≠1):hasV c.fs h.f=true:=by
 unfold mayV at hm;rw[if_neg h1]at hm;split at hm
 ·exact hm
 split at hm
 ·simp only[Bool.and_eq_true]at hm;exact hm.1
 split at hm
 ·simp only[Bool.and_eq_true]at hm;exact hm.1
 split at hm
 ·simp only[Bool.and_eq_true]at hm;exact hm.1.1.1.1.1.1
 ·simp only[Bool.and_eq_true]at hm;exact hm.1
theorem has_lt{fs:List Fld}{s:List UInt8}(h:hasV fs s=true):atV fs s<fs.length:=by
 obtain⟨f,hf,_⟩:=has_at h;exact(gJ hf).1
theorem valsK_ok(m:Nat)(c:Cls)(h:Chg)(vals:List V)(hh:ChOk m h)(hw:wellV h=true)(hm:mayV c h=true)(hB:h.k=4→vals≠[]→FreshB (glE m) vals)(hc:ClsOk c)(hf:∀v∈vals,VFew v∧VOk v)(hl:vals.length≤1000)(he:vals.length=c.fs.length):
  SCalls Tryz.prog (glE m) (valF h.k) [.pv (.el (wkC c h)),.pv (.sl 4 (V.rows vals))] [] (.pv (.sl 4 (V.rows (valsV c h vals)))) []:=by
 have hs:=fun e=>tell_small (c:=c) (t:=h.t) hh.x e;have hs':=fun e=>tell_small (c:=c) (t:=h.t) hh.o e;have hi:h.k≠1→atV c.fs h.f<vals.length:=fun h1=>by rw[he];exact has_lt (may_has hm h1)
 unfold valF valsV;rcases well_k hw with hk|hk|hk|hk|hk|hk
 ·rw[hk,if_pos rfl,if_pos rfl];unfold mayV at hm;rw[if_pos hk]at hm;simp only[Bool.and_eq_true]at hm;exact vals_add m c h vals hm.2 hs hc hf hl
 ·rw[hk,if_neg (by decide),if_pos rfl,if_neg (by decide),if_pos rfl];exact vals_drop (glE m) c h vals hf hl (hi (by omega))
 ·rw[hk,if_neg (by decide),if_neg (by decide),if_pos rfl,if_neg (by decide),if_neg (by decide),if_neg (by decide),if_neg (by decide)];exact vals_keep (glE m) c h vals hf hl
 ·unfold mayV at hm;rw[hk,if_neg (by decide),if_neg (by decide),if_neg (by decide),if_pos rfl]at hm;simp only[Bool.and_eq_true]at hm;rw[hk,if_neg (by decide),if_neg (by decide),if_neg (by decide),if_pos rfl,if_neg (by decide),if_neg (by decide),if_pos rfl];exact vals_turn m c h vals (hB hk (by intro e;have:=hi (by omega);rw[e]at this;simp at this)) hm.2 hs hc hf hl (hi (by omega))
 ·unfold mayV at hm;rw[hk,if_neg (by decide),if_neg (by decide),if_neg (by decide),if_neg (by decide),if_pos rfl]at hm;simp only[Bool.and_eq_true]at hm;rw[hk,if_neg (by decide),if_neg (by decide),if_neg (by decide),if_neg (by decide),if_pos rfl,if_neg (by decide),if_neg (by decide),if_neg (by decide),if_pos rfl];exact vals_split m c h vals hm.1.2 hm.2 hs hs' hc hf hl (hi (by omega))
 ·rw[hk,if_neg (by decide),if_neg (by decide),if_neg (by decide),if_neg (by decide),if_neg (by decide),if_neg (by decide),if_neg (by decide),if_neg (by decide),if_neg (by decide)];exact vals_keep (glE m) c h vals hf hl
theorem apply_ok(m:Nat)(c:Cls)(h:Chg)(hc:ClsOk c)(hh:ChOk m h)(hl:c.fs.length≤1000):SCalls Tryz.prog (glE m) 30 [clT c,chT h] [] (applyT (applyV c h)) []:=by
 have HR:=classRight_ok (glE m) c hc;have HN:=begin_no m c h hc hh;have HY:=begin_yes m c h hc hh;unfold applyV okV;cases hr:z23 c
 ·rw[hr]at HR;refine SCalls.out ?_ (wk_two (wk_cl []) (.refl _));refine z10 tf_36 ?_;unfold clT chT nilT B at*;simp only[vW,seval];refine z8 HR ?_;rfl
 rw[hr]at HR;cases hw:wellV h
 ·have HN:=HN (by rw[hr,hw];rfl);refine SCalls.out ?_ (wk_two (wk_cl []) (.refl _));refine z10 tf_36 ?_;unfold clT chT kdNone nilT B at*;simp only[vW,seval];refine z8 HR ?_;refine z8 HN ?_;rfl
 have HY:=HY hr hw;cases hm:mayV c h
 ·rw[hm]at HY;refine SCalls.out ?_ (wk_two (wk_cl []) (.refl _));refine z10 tf_36 ?_;unfold clT chT kdT fnW nilT B at*;simp only[vW,seval];refine z8 HR ?_;refine z8 HY ?_;rfl
 ·rw[hm]at HY;have HF:=fields_ok (glE m) c h (well_k hw) hl (may_has hm);refine z10 tf_36 ?_;unfold applyT clT chT kdT fnW B at*;simp only[vW,seval];refine z8 HR ?_;refine z8 HY ?_;(with_reducible apply z25);exact kv;exact HF;rfl;exact kv;simp only[vW,seval]
theorem changeVals_ok(m:Nat)(c:Cls)(h:Chg)(vals:List V)(hc:ClsOk c)(hh:ChOk m h)(hB:h.k=4→vals≠[]→FreshB (glE m) vals)(hf:∀v∈vals,VFew v∧VOk v)(hl:vals.length≤1000):SCalls Tryz.prog (glE m) 31 [clT c,chT h,.pv (.sl 4 (V.rows vals))] [] (valsT (valsA c h vals)) []:=by
 have HC:=sc_0E (classCheck_ok m c vals hc (fun v hv=>⟨(hf v hv).2,by have:=(hf v hv).1.len;unfold maxLen;omega⟩) (by omega));have HN:=begin_no m c h hc hh;have HY:=begin_yes m c h hc hh;have hck:(check c vals).2=0→z23 c=true∧vals.length=c.fs.length:=by
  intro h0;unfold check at h0;split at h0
  ·cases h0
  ·rename_i hr;split at h0
   ·cases h0
   ·rename_i he;exact⟨by simpa using hr,by omega⟩
 unfold valsA;by_cases h0:(check c vals).2=0
 ·obtain⟨hr,he⟩:=hck h0;rw[if_neg (by simpa using h0)];generalize check c vals=k at*;obtain⟨k1,k2⟩:=k;simp only at h0;subst h0;unfold okV;cases hw:wellV h
  ·have HN:=HN (by rw[hr,hw];rfl);rw[show(!(z23 c&&false&&mayV c h))=true by simp,if_pos rfl];refine SCalls.out ?_ (wk_two (wk_nil 4) (.refl _));refine z10 tf_41 ?_;unfold checkT clT chT kdNone B at*;simp only[vW,seval];refine z8 HC ?_;exact z14 HN
  have HY:=HY hr hw;cases hm:mayV c h
  ·rw[hm]at HY;rw[show(!(z23 c&&true&&false))=true by simp,if_pos rfl];refine SCalls.out ?_ (wk_two (wk_nil 4) (.refl _));refine z10 tf_41 ?_;unfold checkT clT chT kdT fnW B at*;simp only[vW,seval];refine z8 HC ?_;exact z14 HY
  ·rw[hm]at HY;have HV:=valsK_ok m c h vals hh hw hm hB hc hf hl he;rw[hr];refine z10 tf_41 ?_;unfold valsT checkT clT chT kdT fnW B at*;simp only[vW,seval];refine z8 HC ?_;refine z8 HY ?_;(with_reducible apply z25);exact kv;exact HV;rfl;exact kv;simp only[vW,seval]
 ·rw[if_pos h0];refine SCalls.out ?_ (wk_two (wk_nil 4) (.refl _));generalize check c vals=k at*;refine z10 tf_41 ?_;unfold checkT clT chT B at*;simp only[vW,seval];refine z7 HC ?_;simp only[vW,seval,h0]
end Go.Proofs.YtcpaleaajdilgaaGreatDoor
end

section
namespace Go.Proofs.YtcpaleaajdilgaaGreatDoor
open Go Go.RowKit Go.Mor Go.Sh Go.Sh.Cd1 Go.Sh.Cd5
set_option maxRecDepth 100000
set_option maxHeartbeats 1000000
theorem refArity_ok(g:Sh.Glob)(s:List UInt8):SCalls Tryz.prog g 298 [S (str s)] [] (I (takesV s)) []:=by
 refine z10 tf_124 ?_;have q1:(⟨#[108,101,110]⟩:ByteArray)=str [108,101,110]:=rfl;have q2:(⟨#[116,101,120,116]⟩:ByteArray)=str [116,101,120,116]:=rfl;have q3:(⟨#[110,117,109]⟩:ByteArray)=str [110,117,109]:=rfl;have q4:(⟨#[108,101,102,116]⟩:ByteArray)=str [108,101,102,116]:=rfl;have q5:(⟨#[114,105,103,104,116]⟩:ByteArray)=str [114,105,103,104,116]:=rfl;have q6:(⟨#[102,114,111,109]⟩:ByteArray)=str [102,114,111,109]:=rfl;have q7:(⟨#[102,105,110,100]⟩:ByteArray)=str [102,105,110,100]:=rfl;have q8:(⟨#[109,105,110]⟩:ByteArray)=str [109,105,110]:=rfl;have q9:(⟨#[109,97,120]⟩:ByteArray)=str [109,97,120]:=rfl;have q10:(⟨#[105,102]⟩:ByteArray)=str [105,102]:=rfl;have hb:∀t:List UInt8,(s==t)=decide (s=t):=fun t=>by rw[Bool.eq_iff_iff];simp
 unfold takesV;simp only[vW,seval,q1,q2,q3,q4,q5,q6,q7,q8,q9,q10,hb]
 repeat' (first|(apply And.intro)|(intro _))
 all_goals simp_all
theorem refBinds_ok(g:Sh.Glob)(s:List UInt8):SCalls Tryz.prog g 266 [S (str s)] [] (I (bindsV s)) []:=by
 refine z10 tf_125 ?_;have q1:(⟨#[42]⟩:ByteArray)=str [42]:=rfl;have q2:(⟨#[47]⟩:ByteArray)=str [47]:=rfl;have q3:(⟨#[37]⟩:ByteArray)=str [37]:=rfl;have q4:(⟨#[43]⟩:ByteArray)=str [43]:=rfl;have q5:(⟨#[45]⟩:ByteArray)=str [45]:=rfl;have q6:(⟨#[38]⟩:ByteArray)=str [38]:=rfl;have q7:(⟨#[61]⟩:ByteArray)=str [61]:=rfl;have q8:(⟨#[60,62]⟩:ByteArray)=str [60,62]:=rfl;have q9:(⟨#[60]⟩:ByteArray)=str [60]:=rfl;have q10:(⟨#[60,61]⟩:ByteArray)=str [60,61]:=rfl;have q11:(⟨#[62]⟩:ByteArray)=str [62]:=rfl;have q12:(⟨#[62,61]⟩:ByteArray)=str [62,61]:=rfl;have hb:∀t:List UInt8,(s==t)=decide (s=t):=fun t=>by rw[Bool.eq_iff_iff];simp
 unfold bindsV;simp only[vW,seval,q1,q2,q3,q4,q5,q6,q7,q8,q9,q10,q11,q12,hb]
 repeat' (first|(apply And.intro)|(intro _))
 all_goals simp_all
end Go.Proofs.YtcpaleaajdilgaaGreatDoor
end

section
namespace Go.Proofs.YtcpaleaajdilgaaGreatDoor
open Go Go.RowKit Go.Mor Go.Sh Go.Sh.Cd1
set_option maxRecDepth 100000
set_option maxHeartbeats 4000000
theorem u8_lt(b:UInt8):b.toNat<256:=b.toNat_lt
theorem wr3:IntKind.i64.wrap 3=3:=rfl
theorem wr4:IntKind.i64.wrap 4=4:=rfl
theorem wr5:IntKind.i64.wrap 5=5:=rfl
theorem getD_some{l:List UInt8}{i:Nat}{b:UInt8}(h:l[i]?=some b):l.getD i 0=b:=by rw[List.getD_eq_getElem?_getD,h];rfl
theorem signL_eq{l:List UInt8}(h:0<l.length):signL l=signN l.length (l.getD 0 0).toNat (l.getD 1 0).toNat (l.getD 2 0).toNat (l.getD 3 0).toNat:=by
 unfold signL;rw[if_neg (by rintro rfl;simp at h)]
theorem at_{l:List UInt8}{i:Nat}(h:i<l.length):∃b,l[i]?=some b:=⟨_,gE h⟩
theorem cvi8(n:Nat)(h:n<256):IntKind.i64.wrap (n:Int)=(n:Int):=wrap64 (by omega) (by omega)
theorem v_unr{P:Program}{g:Sh.Glob}{a:SCode}{Q:SExit→ES→Prop}{k:Nat}{s:ES}:unrollW P g a Q (k+1) s=swp P g a (thenW (unrollW P g a Q k) Q) s:=rfl
theorem sg{a b:Int}(h:a=b):some (TV.pv (PV.v (Value.int IntKind.i64 a)))=some (TV.pv (PV.v (Value.int IntKind.i64 b))):=by rw[h]
theorem sign_a(g:Sh.Glob)(l:List UInt8)(b0:UInt8)(hl:0<l.length)(e0:l[0]?=some b0)(hc:b0.toNat<128):SCalls Tryz.prog g 271 [S (str l)] [] (I (signN l.length b0.toNat (l.getD 1 0).toNat (l.getD 2 0).toNat (l.getD 3 0).toNat:Nat)) []:=by
 have hb:=u8_lt b0;have c0:=cvi8 b0.toNat hb;have hl0:¬(l.length:Int)=0:=by omega
 have t0:(b0.toNat:Int)<128:=by omega
 have t1:¬194≤(b0.toNat:Int):=by omega
 have t2:(b0.toNat:Int)≤223:=by omega
 have t3:¬224≤(b0.toNat:Int):=by omega
 have t4:(b0.toNat:Int)≤239:=by omega
 have t5:¬240≤(b0.toNat:Int):=by omega
 have t6:(b0.toNat:Int)≤244:=by omega
 have t7:¬(b0.toNat:Int)=224:=by omega
 have t8:¬(b0.toNat:Int)=237:=by omega
 have t9:¬(b0.toNat:Int)=240:=by omega
 have t10:¬(b0.toNat:Int)=244:=by omega
 refine z10 tf_117 ?_;simp only[vcA,seval,I,S,e0,c0,hl0,t0,t1,t2,t3,t4,t5,t6,t7,t8,t9,t10];exact sg (by unfold signN;(repeat' split)<;>omega)
theorem sign_b(g:Sh.Glob)(l:List UInt8)(b0:UInt8)(hl:0<l.length)(e0:l[0]?=some b0)(hc:128≤b0.toNat∧b0.toNat≤193):SCalls Tryz.prog g 271 [S (str l)] [] (I (signN l.length b0.toNat (l.getD 1 0).toNat (l.getD 2 0).toNat (l.getD 3 0).toNat:Nat)) []:=by
 have hb:=u8_lt b0;have c0:=cvi8 b0.toNat hb;have hl0:¬(l.length:Int)=0:=by omega
 have t0:¬(b0.toNat:Int)<128:=by omega
 have t1:¬194≤(b0.toNat:Int):=by omega
 have t2:(b0.toNat:Int)≤223:=by omega
 have t3:¬224≤(b0.toNat:Int):=by omega
 have t4:(b0.toNat:Int)≤239:=by omega
 have t5:¬240≤(b0.toNat:Int):=by omega
 have t6:(b0.toNat:Int)≤244:=by omega
 have t7:¬(b0.toNat:Int)=224:=by omega
 have t8:¬(b0.toNat:Int)=237:=by omega
 have t9:¬(b0.toNat:Int)=240:=by omega
 have t10:¬(b0.toNat:Int)=244:=by omega
 refine z10 tf_117 ?_;simp only[vcA,seval,I,S,e0,c0,hl0,t0,t1,t2,t3,t4,t5,t6,t7,t8,t9,t10];exact sg (by unfold signN;(repeat' split)<;>omega)
theorem sign_c(g:Sh.Glob)(l:List UInt8)(b0:UInt8)(hl:0<l.length)(e0:l[0]?=some b0)(hc:194≤b0.toNat∧b0.toNat≤223):SCalls Tryz.prog g 271 [S (str l)] [] (I (signN l.length b0.toNat (l.getD 1 0).toNat (l.getD 2 0).toNat (l.getD 3 0).toNat:Nat)) []:=by
 have hb:=u8_lt b0;have c0:=cvi8 b0.toNat hb;have hl0:¬(l.length:Int)=0:=by omega
 have t0:¬(b0.toNat:Int)<128:=by omega
 have t1:194≤(b0.toNat:Int):=by omega
 have t2:(b0.toNat:Int)≤223:=by omega
 have t3:¬224≤(b0.toNat:Int):=by omega
 have t4:(b0.toNat:Int)≤239:=by omega
 have t5:¬240≤(b0.toNat:Int):=by omega
 have t6:(b0.toNat:Int)≤244:=by omega
 have t7:¬(b0.toNat:Int)=224:=by omega
 have t8:¬(b0.toNat:Int)=237:=by omega
 have t9:¬(b0.toNat:Int)=240:=by omega
 have t10:¬(b0.toNat:Int)=244:=by omega
 refine z10 tf_117 ?_;by_cases hn:(l.length:Int)<2
 ·simp only[vcA,seval,I,S,e0,c0,hl0,hn,t0,t1,t2,t3,t4,t5,t6,t7,t8,t9,t10];exact sg (by unfold signN;(repeat' split)<;>omega)
 obtain⟨b1,e1⟩:=at_ (l:=l) (i:=1) (by omega);have hb1:=u8_lt b1;have g1:=getD_some e1;have c1:=cvi8 b1.toNat hb1;rw[g1];simp only[vcA,seval,I,S,e0,c0,e1,c1,hl0,hn,t0,t1,t2,t3,t4,t5,t6,t7,t8,t9,t10];refine⟨fun h1=>sg (by unfold signN;(repeat' split)<;>omega),fun h1=>⟨fun h2=>sg (by unfold signN;(repeat' split)<;>omega),fun h2=> ?_⟩⟩;refine z113 1 ?_;simp only[vcA,seval,I,S,v_unr,e1,wr3,wr4,wr5];exact sg (by unfold signN;(repeat' split)<;>omega)
theorem sign_d(g:Sh.Glob)(l:List UInt8)(b0:UInt8)(hl:0<l.length)(e0:l[0]?=some b0)(hc:b0.toNat=224):SCalls Tryz.prog g 271 [S (str l)] [] (I (signN l.length b0.toNat (l.getD 1 0).toNat (l.getD 2 0).toNat (l.getD 3 0).toNat:Nat)) []:=by
 have hb:=u8_lt b0;have c0:=cvi8 b0.toNat hb;have hl0:¬(l.length:Int)=0:=by omega
 refine z10 tf_117 ?_;have q0:(b0.toNat:Int)=224:=by omega
 have q1:IntKind.i64.wrap 224=224:=rfl;by_cases hn:(l.length:Int)<3
 ·simp only[vcA,seval,I,S,e0,c0,hl0,hn,q0,q1];exact sg (by unfold signN;(repeat' split)<;>omega)
 obtain⟨b1,e1⟩:=at_ (l:=l) (i:=1) (by omega);have hb1:=u8_lt b1;have g1:=getD_some e1;obtain⟨b2,e2⟩:=at_ (l:=l) (i:=2) (by omega);have hb2:=u8_lt b2;have g2:=getD_some e2;have c1:=cvi8 b1.toNat hb1;rw[g1,g2];simp only[vcA,seval,I,S,e0,c0,e1,c1,hl0,hn,q0,q1];refine⟨fun h1=>sg (by unfold signN;(repeat' split)<;>omega),fun h1=>⟨fun h2=>sg (by unfold signN;(repeat' split)<;>omega),fun h2=> ?_⟩⟩;refine z113 2 ?_;simp only[vcA,seval,I,S,v_unr,e1,e2,wr3,wr4,wr5]
 repeat' (first|(apply And.intro)|(intro _))
 all_goals exact sg (by unfold signN;(repeat' split)<;>omega)
theorem sign_e(g:Sh.Glob)(l:List UInt8)(b0:UInt8)(hl:0<l.length)(e0:l[0]?=some b0)(hc:225≤b0.toNat∧b0.toNat≤239∧b0.toNat≠237):SCalls Tryz.prog g 271 [S (str l)] [] (I (signN l.length b0.toNat (l.getD 1 0).toNat (l.getD 2 0).toNat (l.getD 3 0).toNat:Nat)) []:=by
 have hb:=u8_lt b0;have c0:=cvi8 b0.toNat hb;have hl0:¬(l.length:Int)=0:=by omega
 have t0:¬(b0.toNat:Int)<128:=by omega
 have t1:194≤(b0.toNat:Int):=by omega
 have t2:¬(b0.toNat:Int)≤223:=by omega
 have t3:224≤(b0.toNat:Int):=by omega
 have t4:(b0.toNat:Int)≤239:=by omega
 have t5:¬240≤(b0.toNat:Int):=by omega
 have t6:(b0.toNat:Int)≤244:=by omega
 have t7:¬(b0.toNat:Int)=224:=by omega
 have t8:¬(b0.toNat:Int)=237:=by omega
 have t9:¬(b0.toNat:Int)=240:=by omega
 have t10:¬(b0.toNat:Int)=244:=by omega
 refine z10 tf_117 ?_;by_cases hn:(l.length:Int)<3
 ·simp only[vcA,seval,I,S,e0,c0,hl0,hn,t0,t1,t2,t3,t4,t5,t6,t7,t8,t9,t10];exact sg (by unfold signN;(repeat' split)<;>omega)
 obtain⟨b1,e1⟩:=at_ (l:=l) (i:=1) (by omega);have hb1:=u8_lt b1;have g1:=getD_some e1;obtain⟨b2,e2⟩:=at_ (l:=l) (i:=2) (by omega);have hb2:=u8_lt b2;have g2:=getD_some e2;have c1:=cvi8 b1.toNat hb1;rw[g1,g2];simp only[vcA,seval,I,S,e0,c0,e1,c1,hl0,hn,t0,t1,t2,t3,t4,t5,t6,t7,t8,t9,t10];refine⟨fun h1=>sg (by unfold signN;(repeat' split)<;>omega),fun h1=>⟨fun h2=>sg (by unfold signN;(repeat' split)<;>omega),fun h2=> ?_⟩⟩;refine z113 2 ?_;simp only[vcA,seval,I,S,v_unr,e1,e2,wr3,wr4,wr5]
 repeat' (first|(apply And.intro)|(intro _))
 all_goals exact sg (by unfold signN;(repeat' split)<;>omega)
theorem sign_f(g:Sh.Glob)(l:List UInt8)(b0:UInt8)(hl:0<l.length)(e0:l[0]?=some b0)(hc:b0.toNat=237):SCalls Tryz.prog g 271 [S (str l)] [] (I (signN l.length b0.toNat (l.getD 1 0).toNat (l.getD 2 0).toNat (l.getD 3 0).toNat:Nat)) []:=by
 have hb:=u8_lt b0;have c0:=cvi8 b0.toNat hb;have hl0:¬(l.length:Int)=0:=by omega
 refine z10 tf_117 ?_;have q0:(b0.toNat:Int)=237:=by omega
 have q1:IntKind.i64.wrap 237=237:=rfl;by_cases hn:(l.length:Int)<3
 ·simp only[vcA,seval,I,S,e0,c0,hl0,hn,q0,q1];exact sg (by unfold signN;(repeat' split)<;>omega)
 obtain⟨b1,e1⟩:=at_ (l:=l) (i:=1) (by omega);have hb1:=u8_lt b1;have g1:=getD_some e1;obtain⟨b2,e2⟩:=at_ (l:=l) (i:=2) (by omega);have hb2:=u8_lt b2;have g2:=getD_some e2;have c1:=cvi8 b1.toNat hb1;rw[g1,g2];simp only[vcA,seval,I,S,e0,c0,e1,c1,hl0,hn,q0,q1];refine⟨fun h1=>sg (by unfold signN;(repeat' split)<;>omega),fun h1=>⟨fun h2=>sg (by unfold signN;(repeat' split)<;>omega),fun h2=> ?_⟩⟩;refine z113 2 ?_;simp only[vcA,seval,I,S,v_unr,e1,e2,wr3,wr4,wr5]
 repeat' (first|(apply And.intro)|(intro _))
 all_goals exact sg (by unfold signN;(repeat' split)<;>omega)
theorem sign_g(g:Sh.Glob)(l:List UInt8)(b0:UInt8)(hl:0<l.length)(e0:l[0]?=some b0)(hc:b0.toNat=240):SCalls Tryz.prog g 271 [S (str l)] [] (I (signN l.length b0.toNat (l.getD 1 0).toNat (l.getD 2 0).toNat (l.getD 3 0).toNat:Nat)) []:=by
 have hb:=u8_lt b0;have c0:=cvi8 b0.toNat hb;have hl0:¬(l.length:Int)=0:=by omega
 refine z10 tf_117 ?_;have q0:(b0.toNat:Int)=240:=by omega
 have q1:IntKind.i64.wrap 240=240:=rfl;by_cases hn:(l.length:Int)<4
 ·simp only[vcA,seval,I,S,e0,c0,hl0,hn,q0,q1];exact sg (by unfold signN;(repeat' split)<;>omega)
 obtain⟨b1,e1⟩:=at_ (l:=l) (i:=1) (by omega);have hb1:=u8_lt b1;have g1:=getD_some e1;obtain⟨b2,e2⟩:=at_ (l:=l) (i:=2) (by omega);have hb2:=u8_lt b2;have g2:=getD_some e2;obtain⟨b3,e3⟩:=at_ (l:=l) (i:=3) (by omega);have hb3:=u8_lt b3;have g3:=getD_some e3;have c1:=cvi8 b1.toNat hb1;rw[g1,g2,g3];simp only[vcA,seval,I,S,e0,c0,e1,c1,hl0,hn,q0,q1];refine⟨fun h1=>sg (by unfold signN;(repeat' split)<;>omega),fun h1=>⟨fun h2=>sg (by unfold signN;(repeat' split)<;>omega),fun h2=> ?_⟩⟩;refine z113 3 ?_;simp only[vcA,seval,I,S,v_unr,e1,e2,e3,wr3,wr4,wr5]
 repeat' (first|(apply And.intro)|(intro _))
 all_goals exact sg (by unfold signN;(repeat' split)<;>omega)
theorem sign_h(g:Sh.Glob)(l:List UInt8)(b0:UInt8)(hl:0<l.length)(e0:l[0]?=some b0)(hc:241≤b0.toNat∧b0.toNat≤243):SCalls Tryz.prog g 271 [S (str l)] [] (I (signN l.length b0.toNat (l.getD 1 0).toNat (l.getD 2 0).toNat (l.getD 3 0).toNat:Nat)) []:=by
 have hb:=u8_lt b0;have c0:=cvi8 b0.toNat hb;have hl0:¬(l.length:Int)=0:=by omega
 have t0:¬(b0.toNat:Int)<128:=by omega
 have t1:194≤(b0.toNat:Int):=by omega
 have t2:¬(b0.toNat:Int)≤223:=by omega
 have t3:224≤(b0.toNat:Int):=by omega
 have t4:¬(b0.toNat:Int)≤239:=by omega
 have t5:240≤(b0.toNat:Int):=by omega
 have t6:(b0.toNat:Int)≤244:=by omega
 have t7:¬(b0.toNat:Int)=224:=by omega
 have t8:¬(b0.toNat:Int)=237:=by omega
 have t9:¬(b0.toNat:Int)=240:=by omega
 have t10:¬(b0.toNat:Int)=244:=by omega
 refine z10 tf_117 ?_;by_cases hn:(l.length:Int)<4
 ·simp only[vcA,seval,I,S,e0,c0,hl0,hn,t0,t1,t2,t3,t4,t5,t6,t7,t8,t9,t10];exact sg (by unfold signN;(repeat' split)<;>omega)
 obtain⟨b1,e1⟩:=at_ (l:=l) (i:=1) (by omega);have hb1:=u8_lt b1;have g1:=getD_some e1;obtain⟨b2,e2⟩:=at_ (l:=l) (i:=2) (by omega);have hb2:=u8_lt b2;have g2:=getD_some e2;obtain⟨b3,e3⟩:=at_ (l:=l) (i:=3) (by omega);have hb3:=u8_lt b3;have g3:=getD_some e3;have c1:=cvi8 b1.toNat hb1;rw[g1,g2,g3];simp only[vcA,seval,I,S,e0,c0,e1,c1,hl0,hn,t0,t1,t2,t3,t4,t5,t6,t7,t8,t9,t10];refine⟨fun h1=>sg (by unfold signN;(repeat' split)<;>omega),fun h1=>⟨fun h2=>sg (by unfold signN;(repeat' split)<;>omega),fun h2=> ?_⟩⟩;refine z113 3 ?_;simp only[vcA,seval,I,S,v_unr,e1,e2,e3,wr3,wr4,wr5]
 repeat' (first|(apply And.intro)|(intro _))
 all_goals exact sg (by unfold signN;(repeat' split)<;>omega)
theorem sign_i(g:Sh.Glob)(l:List UInt8)(b0:UInt8)(hl:0<l.length)(e0:l[0]?=some b0)(hc:b0.toNat=244):SCalls Tryz.prog g 271 [S (str l)] [] (I (signN l.length b0.toNat (l.getD 1 0).toNat (l.getD 2 0).toNat (l.getD 3 0).toNat:Nat)) []:=by
 have hb:=u8_lt b0;have c0:=cvi8 b0.toNat hb;have hl0:¬(l.length:Int)=0:=by omega
 refine z10 tf_117 ?_;have q0:(b0.toNat:Int)=244:=by omega
 have q1:IntKind.i64.wrap 244=244:=rfl;by_cases hn:(l.length:Int)<4
 ·simp only[vcA,seval,I,S,e0,c0,hl0,hn,q0,q1];exact sg (by unfold signN;(repeat' split)<;>omega)
 obtain⟨b1,e1⟩:=at_ (l:=l) (i:=1) (by omega);have hb1:=u8_lt b1;have g1:=getD_some e1;obtain⟨b2,e2⟩:=at_ (l:=l) (i:=2) (by omega);have hb2:=u8_lt b2;have g2:=getD_some e2;obtain⟨b3,e3⟩:=at_ (l:=l) (i:=3) (by omega);have hb3:=u8_lt b3;have g3:=getD_some e3;have c1:=cvi8 b1.toNat hb1;rw[g1,g2,g3];simp only[vcA,seval,I,S,e0,c0,e1,c1,hl0,hn,q0,q1];refine⟨fun h1=>sg (by unfold signN;(repeat' split)<;>omega),fun h1=>⟨fun h2=>sg (by unfold signN;(repeat' split)<;>omega),fun h2=> ?_⟩⟩;refine z113 3 ?_;simp only[vcA,seval,I,S,v_unr,e1,e2,e3,wr3,wr4,wr5]
 repeat' (first|(apply And.intro)|(intro _))
 all_goals exact sg (by unfold signN;(repeat' split)<;>omega)
theorem sign_j(g:Sh.Glob)(l:List UInt8)(b0:UInt8)(hl:0<l.length)(e0:l[0]?=some b0)(hc:245≤b0.toNat):SCalls Tryz.prog g 271 [S (str l)] [] (I (signN l.length b0.toNat (l.getD 1 0).toNat (l.getD 2 0).toNat (l.getD 3 0).toNat:Nat)) []:=by
 have hb:=u8_lt b0;have c0:=cvi8 b0.toNat hb;have hl0:¬(l.length:Int)=0:=by omega
 have t0:¬(b0.toNat:Int)<128:=by omega
 have t1:194≤(b0.toNat:Int):=by omega
 have t2:¬(b0.toNat:Int)≤223:=by omega
 have t3:224≤(b0.toNat:Int):=by omega
 have t4:¬(b0.toNat:Int)≤239:=by omega
 have t5:240≤(b0.toNat:Int):=by omega
 have t6:¬(b0.toNat:Int)≤244:=by omega
 have t7:¬(b0.toNat:Int)=224:=by omega
 have t8:¬(b0.toNat:Int)=237:=by omega
 have t9:¬(b0.toNat:Int)=240:=by omega
 have t10:¬(b0.toNat:Int)=244:=by omega
 refine z10 tf_117 ?_;simp only[vcA,seval,I,S,e0,c0,hl0,t0,t1,t2,t3,t4,t5,t6,t7,t8,t9,t10];exact sg (by unfold signN;(repeat' split)<;>omega)
theorem sign_ok(g:Sh.Glob)(l:List UInt8):SCalls Tryz.prog g 271 [S (str l)] [] (I (signL l)) []:=by
 by_cases h0:l.length=0
 ·have:l=[]:=List.eq_nil_of_length_eq_zero h0;subst this;refine z10 tf_117 ?_;simp only[vcA,seval,I,S,Int.natCast_zero,List.length_nil];rfl
 have hl:0<l.length:=by omega
 obtain⟨b0,e0⟩:=at_ hl;rw[signL_eq hl,getD_some e0];have hb:=u8_lt b0;by_cases c0:b0.toNat<128
 ·exact sign_a g l b0 hl e0 c0
 by_cases c1:128≤b0.toNat∧b0.toNat≤193
 ·exact sign_b g l b0 hl e0 c1
 by_cases c2:194≤b0.toNat∧b0.toNat≤223
 ·exact sign_c g l b0 hl e0 c2
 by_cases c3:b0.toNat=224
 ·exact sign_d g l b0 hl e0 c3
 by_cases c4:225≤b0.toNat∧b0.toNat≤239∧b0.toNat≠237
 ·exact sign_e g l b0 hl e0 c4
 by_cases c5:b0.toNat=237
 ·exact sign_f g l b0 hl e0 c5
 by_cases c6:b0.toNat=240
 ·exact sign_g g l b0 hl e0 c6
 by_cases c7:241≤b0.toNat∧b0.toNat≤243
 ·exact sign_h g l b0 hl e0 c7
 by_cases c8:b0.toNat=244
 ·exact sign_i g l b0 hl e0 c8
 exact sign_j g l b0 hl e0 (by omega)
end Go.Proofs.YtcpaleaajdilgaaGreatDoor
end

section
namespace Go.Proofs.YtcpaleaajdilgaaGreatDoor
open Go Go.RowKit Go.Mor Go.Sh Go.Sh.Cd1
set_option maxRecDepth 100000
set_option maxHeartbeats 8000000
def isTextN:Nat→List UInt8→Bool
 |0,_=>true
 |n+1,l=>match l with
  |[]=>true
  |b::r=> !(signL (b::r)==0)&& !decide (b.toNat<32)&& !(b.toNat==127)&&isTextN n ((b::r).drop (signL (b::r)))
def isText(l:List UInt8):Bool:=isTextN l.length l
theorem isTextN_more:∀(n:Nat) (l:List UInt8),l.length≤n→isTextN n l=isText l:=by
 intro n
 induction n using Nat.strongRecOn with
 |_ n ih=>
  intro l hl;unfold isText;cases l with
  |nil=>cases n<;>rfl
  |cons b r=>
   obtain⟨m,rfl⟩:∃m,n=m+1:=⟨n-1,by simp at hl;omega⟩
   simp only[isTextN,List.length_cons];by_cases h0:signL (b::r)=0
   ·simp[h0]
   ·have h1:((b::r).drop (signL (b::r))).length≤r.length:=by simp;omega
    simp at hl;rw[ih m (by omega) _ (by omega)];by_cases he:r.length=m
    ·subst he;rw[ih r.length (by omega) _ h1]
    ·rw[ih r.length (by omega) _ h1]
theorem isText_cons(b:UInt8)(r:List UInt8):isText (b::r)=(!(signL (b::r)==0)&& !decide (b.toNat<32)&& !(b.toNat==127)&&isText ((b::r).drop (signL (b::r)))):=by
 conv=>lhs;unfold isText
 simp only[isTextN,List.length_cons];by_cases h0:signL (b::r)=0
 ·simp[h0]
 ·rw[isTextN_more r.length _ (by simp;omega)]
theorem signL_le(l:List UInt8):signL l≤l.length∧signL l≤4:=by
 unfold signL;cases l with
 |nil=>simp
 |cons b r=>
  rw[if_neg (by simp)];unfold signN;simp only[List.length_cons]
  repeat' split
  all_goals omega
theorem str_drop(l:List UInt8)(a:Nat):(str l).extract a l.length=str (l.drop a):=by
 rw[str_extract,List.take_of_length_le (by simp)]
theorem isText_ok(g:Sh.Glob)(l:List UInt8)(hl:l.length≤9223372036854775807):SCalls Tryz.prog g 232 [S (str l)] [] (.pv (.v (.bool (isText l)))) []:=by
 refine z10 tf_113 ?_;obtain⟨r,hr⟩:∃r,isText l=r:=⟨_,rfl⟩
 rw[hr];simp only[vW,seval];refine v_loop (σ:={ i:Nat // i≤l.length∧r=isText (l.drop i) }) (fun i=>⟨[(0,S (str l)),(3,I (i.1:Int))],[],[],[]⟩) (fun i=>l.length-i.1) ⟨0,Nat.zero_le _,hr.symm⟩ ?_ ?_
 ·apply lw_of<;>simp[leL,lk,sv,Nat.beq,I,S,ES.kill,has,drp,nilT]
 rintro⟨i,hi,hT⟩;by_cases hlt:i<l.length
 ·have d1:(i:Int)<(l.length:Int):=by omega
  have hd:=str_drop l i;obtain⟨b,eb⟩:=at_ hlt;have hcons:l.drop i=b::l.drop (i+1):=by
   rw[List.drop_eq_getElem_cons hlt];congr 1;rw[gE hlt]at eb;exact Option.some.inj eb
  have hs:=signL_le (l.drop i);have hb:=isText_cons b (l.drop (i+1));rw[←hcons,←hT]at hb;simp only[List.length_drop]at hs;have HS:=sign_ok g (l.drop i);simp only[vW,seval,d1,hd];refine⟨by omega,?_⟩;refine z7 HS ?_;generalize signL (l.drop i)=n at hs hb ⊢;by_cases h0:n=0
  ·have d2:(n:Int)=0:=by omega
   have hf:r=false:=by rw[hb];simp[h0]
   subst hf;simp only[vW,seval,d2]
  have d2:¬(n:Int)=0:=by omega
  by_cases h1:b.toNat<32
  ·have d3:(b.toNat:Int)<32:=by omega
   have hf:r=false:=by rw[hb];simp[h1]
   subst hf;simp only[vW,seval,d2,eb,d3]
  have d3:¬(b.toNat:Int)<32:=by omega
  by_cases h2:b.toNat=127
  ·have d4:(b.toNat:Int)=127:=by omega
   have hf:r=false:=by rw[hb];simp[h2]
   subst hf;simp only[vW,seval,d2,eb,d3,d4]
  have d4:¬(b.toNat:Int)=127:=by omega
  have w1:IntKind.i64.wrap ((i:Int)+(n:Int))=((i+n:Nat):Int):=by rw[wrap64 (by omega) (by omega)];omega
  have hT2:r=isText (l.drop (i+n)):=by rw[hb,List.drop_drop];simp[h0,h1,h2]
  simp only[vW,seval,d2,eb,d3,d4,w1];refine z13 ⟨i+n,by omega,hT2⟩ (by show l.length-(i+n)<l.length-i;omega) ?_;apply lw_of<;>simp[leL,lk,sv,Nat.beq,I,S,ES.kill,has,drp,nilT]
 ·have d1:¬(i:Int)<(l.length:Int):=by omega
  have hf:r=true:=by rw[hT,List.drop_eq_nil_of_le (by omega)];rfl
  subst hf;simp only[vW,seval,d1]
end Go.Proofs.YtcpaleaajdilgaaGreatDoor
end

section
namespace Go.Proofs.YtcpaleaajdilgaaGreatDoor
open Go Go.RowKit Go.Mor
theorem byte_lt(l:List UInt8)(i:Nat):(l.getD i 0).toNat<256:=(l.getD i 0).toNat_lt
theorem signL_decode(b:UInt8)(t:List UInt8):signL (b::t)=if(Lib.decodeL (b::t)).1=65533∧(Lib.decodeL (b::t)).2=1 then 0 else(Lib.decodeL (b::t)).2:=by
 rw[Lib.decodeL_N,signL,if_neg (by simp)];exact signN_decode _ _ _ _ _ (byte_lt _ _) (byte_lt _ _) (byte_lt _ _) (byte_lt _ _)
theorem rune_lo(n b0 b1 b2 b3:Nat):(b0<128→(Lib.decodeN n b0 b1 b2 b3).1=b0)∧(128≤b0→128≤(Lib.decodeN n b0 b1 b2 b3).1):=by
 unfold Lib.decodeN;refine⟨fun h=>by rw[if_pos h],fun h=> ?_⟩;rw[if_neg (by omega)]
 (repeat' split)<;>simp only<;>omega
theorem plainR_lead(b:UInt8)(t:List UInt8):plainR (Lib.decodeL (b::t)).1=(!decide (b.toNat<32)&& !(b.toNat==127)):=by
 rw[Lib.decodeL_N];have h:=rune_lo (b::t).length ((b::t).getD 0 0).toNat ((b::t).getD 1 0).toNat ((b::t).getD 2 0).toNat ((b::t).getD 3 0).toNat;have e:(b::t).getD 0 0=b:=rfl;rw[e]at h ⊢;generalize(Lib.decodeN _ _ _ _ _).1=r at h ⊢;unfold plainR;rw[Bool.eq_iff_iff];rcases Nat.lt_or_ge b.toNat 128 with hb|hb
 ·rw[h.1 hb];simp
 ·have:=h.2 hb;simp;omega
theorem isText_eq:∀(n:Nat) (l:List UInt8),l.length≤n→isText l=(Lib.validD l&&plainD l):=by
 intro n
 induction n with
 |zero=>intro l hl;obtain rfl:=List.eq_nil_of_length_eq_zero (by omega:l.length=0);rfl
 |succ n ih=>
  intro l hl;cases l with
  |nil=>rfl
  |cons b t=>
   rw[isText_cons,Lib.validD_step _ (by simp),z151 _ (by simp),plainR_lead,signL_decode];have hw:=Lib.decodeL_width (b::t);split
   ·simp
   ·rw[ih _ (by simp at hl ⊢;omega)];have h0:((Lib.decodeL (b::t)).2==0)=false:=by simp;omega
    rw[h0];generalize Lib.validD _=p;generalize plainD _=q;cases p<;>cases q<;>simp
end Go.Proofs.YtcpaleaajdilgaaGreatDoor
end

section
namespace Go.Sh.Cd2
open Go Go.Sh
set_option maxRecDepth 100000
abbrev gQ(a:GA):Prop:=gT Go.Proofs.Tryz.prog a
abbrev a_115:GA:=⟨176,138,[],[],[(0,[0,0,2,2]),(1,[6,6]),(2,[9,9]),(3,[1,1,7,8,10,23]),(4,[8,8,25,25]),(5,[1,1,7,7,24,24,26,44]),(6,[24,24,46,46]),(7,[7,7,45,45,47,49]),(8,[1,1,3,3,50,67]),(9,[45,45,69,69]),(10,[70,70]),(11,[1,1,7,7,68,68,71,99]),(12,[7,7,68,68,101,101]),(13,[100,100,102,114]),(14,[1,1,115,115]),(15,[2,2,115,115]),(16,[116,119]),(18,[120,120,123,128]),(19,[1,1,4,4,129,129]),(20,[2,2,129,135]),(21,[5,5,136,136]),(22,[1,1,4,4,137,137]),(17,[2,2,121,122,137,137]),(23,[1,1,4,4]),(24,[1,1,100,100])],[.tmp 2],false⟩
theorem tf_115:gQ a_115:=by unfold gQ gT;kernel_rfl
noncomputable def funcs:Nat→Option SFunc
 |_=>none
end Go.Sh.Cd2
end

section
namespace Go.Proofs.YtcpaleaajdilgaaGreatDoor
open Go Go.RowKit Go.Mor Go.Sh Go.Sh.Cd1 Go.Sh.Cd2
set_option maxRecDepth 100000
set_option maxHeartbeats 4000000
theorem rightText_doc(s:List UInt8):z19 s=(isText s&&decide (s.length≤60)):=by
 unfold z19;rw[isText_eq s.length s (Nat.le_refl _),Bool.and_comm]
theorem rightID_doc(n:Int):rightID n=(decide (1≤n)&&decide (n≤100000)||decide (-20≤n)&&decide (n≤ -1)):=by
 unfold rightID;rw[Bool.eq_iff_iff];simp
theorem refRight1_ok(g:Sh.Glob)(x:V)(hs:z104 x)(h5:x.k≠5):SCalls Tryz.prog g 176 [tv x] [] (B (right1 x)) []:=by
 obtain⟨k,n,s,l⟩:=x;have HT:=isText_ok g s hs;have hln:decide ((l.length:Int)=0)=(l.length==0):=by rw[Bool.eq_iff_iff];simp
 have k5:¬k=5:=h5;have hl60:decide ((s.length:Int)≤60)=decide (s.length≤60):=by rw[Bool.eq_iff_iff];simp;omega
 have hb:bare (.mk k n s l)=(s==[]&&l.length==0):=rfl;have hn0:(n==0)=decide (n=0):=by rw[Bool.eq_iff_iff];simp
 rw[right1_mk,hb,rightText_doc,rightID_doc,hn0];clear h5 hs hb;have key:∀(kk:Int),kk=3∨kk=4→SCalls Tryz.prog g 176 [tv (.mk kk n s l)] [] (.pv (.v (.bool ((s==[]&&l.length==0)&&(decide (1≤n)&&decide (n≤100000)||decide (-20≤n)&&decide (n≤ -1)))))) []:=by
  intro kk hkk;refine z10 tf_115 ?_;rcases hkk with rfl|rfl
  all_goals
   by_cases hid:(1≤n∧n≤100000)∨(-20≤n∧n≤ -1)
   ·have e:(decide (1≤n)&&decide (n≤100000)||decide (-20≤n)&&decide (n≤ -1))=true:=by simpa using hid
    rw[e];rcases hid with⟨q1,q2⟩|⟨q3,q4⟩
    ·cases hs:s==[]<;>simp only[vW,seval,e0,q1,q2,hs,hln]
    ·have q1:¬1≤n:=by omega
     cases hs:s==[]<;>simp only[vW,seval,e0,q1,q3,q4,hs,hln]
   ·have e:(decide (1≤n)&&decide (n≤100000)||decide (-20≤n)&&decide (n≤ -1))=false:=by rw[←Bool.not_eq_true];simpa using hid
    rw[e];by_cases q1:1≤n
    ·have q2:¬n≤100000:=by omega
     have q3: -20≤n:=by omega
     have q4:¬n≤ -1:=by omega
     simp only[vW,seval,q1,q2,q3,q4]
    ·by_cases q3: -20≤n
     ·have q4:¬n≤ -1:=by omega
      simp only[vW,seval,q1,q3,q4]
     ·simp only[vW,seval,q1,q3]
 by_cases k34:k=3∨k=4
 ·rw[if_neg (by omega),if_neg (by omega),if_neg (by omega),if_pos k34];exact key k k34
 clear key;refine z10 tf_115 ?_;unfold B at*;by_cases k0:k=0
 ·subst k0;by_cases n0:n=0
  ·subst n0;cases hs:s==[]<;>simp only[vW,seval,e0,hs,hln]
  ·simp only[vW,seval,n0]
 rw[if_neg k0];by_cases k1:k=1
 ·subst k1;by_cases q1: -1000000000000000≤n
  ·by_cases q2:n≤1000000000000000
   ·cases hs:s==[]<;>simp only[vW,seval,e0,q1,q2,hs,hln]
   ·simp only[vW,seval,q1,q2]
  ·simp only[vW,seval,q1]
 rw[if_neg k1];by_cases k2:k=2
 ·subst k2;simp only[vW,seval];refine z7 HT ?_;by_cases n0:n=0
  ·subst n0;cases isText s
   ·simp only[vW,seval]
   ·by_cases q:(s.length:Int)≤60
    ·have q':s.length≤60:=by omega
     simp only[vW,seval,q,q',hln]
    ·have q':¬s.length≤60:=by omega
     simp only[vW,seval,q,q']
  ·simp only[vW,seval,n0]
 rw[if_neg k2];rw[if_neg k34];have k3:¬k=3:=fun h=>k34 (.inl h);have k4:¬k=4:=fun h=>k34 (.inr h);simp only[vW,seval,k0,k1,k2,k3,k4,k5]
end Go.Proofs.YtcpaleaajdilgaaGreatDoor
end

section
namespace Go.Proofs.YtcpaleaajdilgaaGreatDoor
open Go Go.RowKit Go.Mor Go.Sh Go.Sh.Cd1 Go.Sh.Cd5
set_option maxRecDepth 100000
set_option maxHeartbeats 4000000
theorem refName_ok(g:Sh.Glob)(l:List UInt8)(hl:l.length<4611686018427387904):SCalls Tryz.prog g 170 [S (str l)] [] (B (z11 l)) []:=by
 refine z10 tf_119 ?_;unfold B;by_cases h1:1≤l.length
 ·have d1:¬(l.length:Int)<1:=by omega
  by_cases h20:l.length≤20
  ·have d2:¬(20:Int)<(l.length:Int):=by omega
   have hR:z11 l=(small (l.headD 0)&&l.all nameB):=by unfold z11;rw[decide_eq_true ⟨h1,h20⟩];simp
   rw[hR];obtain⟨r,hr⟩:∃r,(small (l.headD 0)&&l.all nameB)=r:=⟨_,rfl⟩
   rw[hr];simp only[vW,seval,d1,d2];refine v_loop (σ:={ k:Nat // k≤l.length∧(0<k→small (l.headD 0)=true)∧(l.drop k).all nameB=l.all nameB })
    (fun k=>⟨[(0,S (str l)),(3,I (k.1:Int))],[],[],[]⟩) (fun k=>l.length-k.1) ⟨0,Nat.zero_le _,by omega,rfl⟩ ?_ ?_
   ·apply lw_of<;>simp[leL,lk,sv,Nat.beq,I,S,ES.kill,has,drp,nilT]
   rintro⟨k,hk,hh,hd⟩;by_cases hlt:k<l.length
   ·have d3:(k:Int)<(l.length:Int):=by omega
    obtain⟨b,eb⟩:∃b,l[k]?=some b:=⟨_,gE hlt⟩
    rw[z73 eb,List.all_cons]at hd;have hbn:=b.toNat_lt;have w4:IntKind.i64.wrap ((k:Int)+1)=((k+1:Nat):Int):=by rw[wrap64 (by omega) (by omega)];omega
    have h0:k=0→l.headD 0=b:=by
     rintro rfl;cases l with
     |nil=>simp at eb
     |cons x r=>simpa using eb
    have cls:(b.toNat<48)∨(48≤b.toNat∧b.toNat≤57)∨(57<b.toNat∧b.toNat<97∧b.toNat≠95)∨b.toNat=95∨(97≤b.toNat∧b.toNat≤122)∨122<b.toNat:=by omega
    rcases cls with q|q|q|q|q|q
    ·have t1:¬(97:Int)≤(b.toNat:Int):=by omega
     have t3:¬(48:Int)≤(b.toNat:Int):=by omega
     have t5:¬(b.toNat:Int)=95:=by omega
     have hn:nameB b=false:=by unfold nameB small;simp;omega
     rw[hn,Bool.false_and]at hd;have hf:r=false:=by rw[←hr,←hd,Bool.and_false]
     subst hf;by_cases k0:(k:Int)=0
     ·have k00:k=0:=by omega
      have d30:(0:Int)<(l.length:Int):=by omega
      have e00:l[0]?=some b:=by rw[←k00];exact eb
      simp only[vW,seval,d3,eb,t1,t3,t5,k0,d30,e00]
     ·simp only[vW,seval,d3,eb,t1,t3,t5,k0]
    ·have t1:¬(97:Int)≤(b.toNat:Int):=by omega
     have t3:(48:Int)≤(b.toNat:Int):=by omega
     have t4:(b.toNat:Int)≤57:=by omega
     have hn:nameB b=true:=by unfold nameB;simp;omega
     have hs:small b=false:=by unfold small;simp;omega
     rw[hn,Bool.true_and]at hd;by_cases k0:(k:Int)=0
     ·have k00:k=0:=by omega
      have d30:(0:Int)<(l.length:Int):=by omega
      have e00:l[0]?=some b:=by rw[←k00];exact eb
      have hf:r=false:=by rw[←hr,h0 (by omega),hs];rfl
      subst hf;simp only[vW,seval,d3,eb,t1,t3,t4,k0,d30,e00]
     ·simp only[vW,seval,d3,eb,t1,t3,t4,k0,w4];refine z13 ⟨k+1,hlt,fun _=>hh (by omega),hd⟩ (by show l.length-(k+1)<l.length-k;omega) ?_;apply lw_of<;>simp[leL,lk,sv,Nat.beq,I,S,ES.kill,has,drp,nilT]
    ·have t1:¬(97:Int)≤(b.toNat:Int):=by omega
     have t3:(48:Int)≤(b.toNat:Int):=by omega
     have t4:¬(b.toNat:Int)≤57:=by omega
     have t5:¬(b.toNat:Int)=95:=by omega
     have hn:nameB b=false:=by unfold nameB small;simp;omega
     rw[hn,Bool.false_and]at hd;have hf:r=false:=by rw[←hr,←hd,Bool.and_false]
     subst hf;by_cases k0:(k:Int)=0
     ·have k00:k=0:=by omega
      have d30:(0:Int)<(l.length:Int):=by omega
      have e00:l[0]?=some b:=by rw[←k00];exact eb
      simp only[vW,seval,d3,eb,t1,t3,t4,t5,k0,d30,e00]
     ·simp only[vW,seval,d3,eb,t1,t3,t4,t5,k0]
    ·have t1:¬(97:Int)≤(b.toNat:Int):=by omega
     have t3:(48:Int)≤(b.toNat:Int):=by omega
     have t4:¬(b.toNat:Int)≤57:=by omega
     have t5:(b.toNat:Int)=95:=by omega
     have hn:nameB b=true:=by unfold nameB;simp[q]
     have hs:small b=false:=by unfold small;simp;omega
     rw[hn,Bool.true_and]at hd;by_cases k0:(k:Int)=0
     ·have k00:k=0:=by omega
      have d30:(0:Int)<(l.length:Int):=by omega
      have e00:l[0]?=some b:=by rw[←k00];exact eb
      have hf:r=false:=by rw[←hr,h0 (by omega),hs];rfl
      subst hf;simp only[vW,seval,d3,eb,t1,t3,t4,t5,k0,d30,e00]
     ·simp only[vW,seval,d3,eb,t1,t3,t4,t5,k0,w4];refine z13 ⟨k+1,hlt,fun _=>hh (by omega),hd⟩ (by show l.length-(k+1)<l.length-k;omega) ?_;apply lw_of<;>simp[leL,lk,sv,Nat.beq,I,S,ES.kill,has,drp,nilT]
    ·have t1:(97:Int)≤(b.toNat:Int):=by omega
     have t2:(b.toNat:Int)≤122:=by omega
     have t3:(48:Int)≤(b.toNat:Int):=by omega
     have t4:¬(b.toNat:Int)≤57:=by omega
     have t5:¬(b.toNat:Int)=95:=by omega
     have hs:small b=true:=by unfold small;simp;omega
     have hn:nameB b=true:=by unfold nameB;rw[hs];rfl
     rw[hn,Bool.true_and]at hd;simp only[vW,seval,d3,eb,t1,t2,t3,t4,t5,w4];refine z13 ⟨k+1,hlt,fun _=> ?_,hd⟩ (by show l.length-(k+1)<l.length-k;omega) ?_
     ·by_cases k0:k=0
      ·rw[h0 k0];exact hs
      ·exact hh (by omega)
     apply lw_of<;>simp[leL,lk,sv,Nat.beq,I,S,ES.kill,has,drp,nilT]
    ·have t1:(97:Int)≤(b.toNat:Int):=by omega
     have t2:¬(b.toNat:Int)≤122:=by omega
     have t3:(48:Int)≤(b.toNat:Int):=by omega
     have t4:¬(b.toNat:Int)≤57:=by omega
     have t5:¬(b.toNat:Int)=95:=by omega
     have hn:nameB b=false:=by unfold nameB small;simp;omega
     rw[hn,Bool.false_and]at hd;have hf:r=false:=by rw[←hr,←hd,Bool.and_false]
     subst hf;by_cases k0:(k:Int)=0
     ·have k00:k=0:=by omega
      have d30:(0:Int)<(l.length:Int):=by omega
      have e00:l[0]?=some b:=by rw[←k00];exact eb
      simp only[vW,seval,d3,eb,t1,t2,t3,t4,t5,k0,d30,e00]
     ·simp only[vW,seval,d3,eb,t1,t2,t3,t4,t5,k0]
   ·have d3:¬(k:Int)<(l.length:Int):=by omega
    rw[List.drop_eq_nil_of_le (by omega)]at hd;have hf:r=true:=by rw[←hr,←hd,hh (by omega)];rfl
    subst hf;simp only[vW,seval,d3]
  ·have d2:(20:Int)<(l.length:Int):=by omega
   have hR:z11 l=false:=by unfold z11;rw[decide_eq_false (by omega)];rfl
   rw[hR];simp only[vW,seval,d1,d2]
 ·have d1:(l.length:Int)<1:=by omega
  have hR:z11 l=false:=by unfold z11;rw[decide_eq_false (by omega)];rfl
  rw[hR];simp only[vW,seval,d1]
theorem refTextR_ok(g:Sh.Glob)(l:List UInt8)(hl:l.length<4611686018427387904):SCalls Tryz.prog g 176 [nv (.mk 2 0 l [])] [] (B (z19 l)) []:=by
 have HR:=refRight1_ok g (.mk 2 0 l []) (by unfold z104 V.s;simp only;omega) (by simp[V.k]);have hk:right1 (.mk 2 0 l [])=z19 l:=by unfold right1;simp[V.k,V.n,V.l,V.s]
 rw[hk]at HR;exact HR.inp (xs:=[nv (.mk 2 0 l [])]) rfl (fun j c d hc hd=>by
  match j with
  |0=>simp at hc hd;subst hc;subst hd;exact nv_tv rfl
  |j+1=>simp at hc)
theorem refNode_ok(g:Sh.Glob)(e:V)(he:ESmall e):SCalls Tryz.prog g 301 [tv e] [] (B (nodeE e)) []:=by
 refine z10 tf_130 ?_;have HT:=refTextR_ok g e.s he.txt;have HN:=refName_ok g e.s he.txt;have HB:=refBinds_ok g e.s;have HK:=refArity_ok g e.s;have e0:(⟨#[]⟩:ByteArray)=str []:=rfl;have hlen0:decide ((e.l.length:Int)=0)=(e.l.length==0):=by rw[Bool.eq_iff_iff];simp
 have hlen1:decide ((e.l.length:Int)=1)=(e.l.length==1):=by rw[Bool.eq_iff_iff];simp;omega
 have hlen2:decide ((e.l.length:Int)=2)=(e.l.length==2):=by rw[Bool.eq_iff_iff];simp;omega
 have e45:(⟨#[45]⟩:ByteArray)=str [45]:=rfl;unfold nv at HT;unfold B at*;unfold nodeE;by_cases k1:e.k=1
 ·rw[if_neg (by simp[k1]),if_pos k1];simp only[vW,seval,bmV,k1,e0,beqL]
  repeat' (first|(apply And.intro)|(intro _))
  all_goals(first|(simp_all;done)|(simp only[Option.some.injEq,Prod.mk.injEq,TV.pv.injEq,PV.v.injEq,Value.bool.injEq];rw[Bool.eq_iff_iff];simp_all<;>omega))
 by_cases n0:e.n=0
 ·rw[if_neg (by simp[n0]),if_neg k1];by_cases k2:e.k=2
  ·rw[if_pos k2];simp only[vW,seval,bmV,k2,n0];refine z7 HT ?_;cases z19 e.s
   ·simp only[vW,seval,bmV]
   ·simp only[vW,seval,bmV,hlen0,Bool.true_and]
  rw[if_neg k2];by_cases k3:e.k=3
  ·rw[if_pos k3];simp only[vW,seval,bmV,k3,n0];refine z7 HN ?_;cases z11 e.s
   ·simp only[vW,seval,bmV]
   ·simp only[vW,seval,bmV,hlen0,Bool.true_and]
  rw[if_neg k3];by_cases k4:e.k=4
  ·rw[if_pos k4];simp only[vW,seval,bmV,k4,n0];refine z7 HB ?_;simp only[vW,seval,bmV];refine⟨fun h=> ?_,fun h=> ?_⟩
   ·rw[decide_eq_true h,hlen2,Bool.true_and]
   ·rw[decide_eq_false h,Bool.false_and]
  rw[if_neg k4];by_cases k5:e.k=5
  ·rw[if_pos k5];simp only[vW,seval,bmV,k5,n0,e45];cases e.s==[45]
   ·simp only[vW,seval,bmV]
   ·simp only[vW,seval,bmV,hlen1,Bool.true_and]
  rw[if_neg k5];by_cases k6:e.k=6
  ·rw[if_pos k6];simp only[vW,seval,bmV,k6,n0];refine z7 HK ?_;simp only[vW,seval,bmV];refine⟨fun h=> ?_,fun h=> ?_⟩
   ·refine z7 HK ?_;simp only[vW,seval,bmV,h]
   ·rw[decide_eq_false h,Bool.false_and]
  ·rw[if_neg k6];simp only[vW,seval,bmV,k1,k2,k3,k4,k5,k6,n0]
 ·rw[if_pos ⟨k1,n0⟩];by_cases k2:e.k=2
  ·simp only[vW,seval,bmV,k2,n0]
  by_cases k3:e.k=3
  ·simp only[vW,seval,bmV,k3,n0]
  by_cases k4:e.k=4
  ·simp only[vW,seval,bmV,k4,n0]
  by_cases k5:e.k=5
  ·simp only[vW,seval,bmV,k5,n0]
  by_cases k6:e.k=6
  ·simp only[vW,seval,bmV,k6,n0]
  simp only[vW,seval,bmV,k1,k2,k3,k4,k5,k6]
end Go.Proofs.YtcpaleaajdilgaaGreatDoor
end

section
namespace Go.Proofs.YtcpaleaajdilgaaGreatDoor
open Go Go.RowKit Go.Mor Go.Sh Go.Sh.Cd1 Go.Sh.Cd7
set_option maxRecDepth 100000
set_option maxHeartbeats 4000000
theorem b_ne(b c:UInt8)(h:b≠c):¬(b.toNat:Int)=(c.toNat:Int):=fun e=>h (UInt8.toNat_inj.1 (by omega))
theorem refDigit5_ok(g:Sh.Glob)(b:UInt8):SCalls Tryz.prog g 263 [.pv (.v (.int .u8 (b.toNat:Int)))] [] (B (digB b)) []:=by
 refine z10 tf_128 ?_;have hb:digB b=(decide (48≤(b.toNat:Int))&&decide ((b.toNat:Int)≤57)):=by unfold digB;rw[Bool.eq_iff_iff];simp;omega
 rw[hb];unfold B;by_cases h1:48≤(b.toNat:Int)
 ·simp only[vW,seval,h1]
 ·simp only[vW,seval,h1]
theorem refWord5_ok(g:Sh.Glob)(b:UInt8):SCalls Tryz.prog g 265 [.pv (.v (.int .u8 (b.toNat:Int)))] [] (B (nameB b)) []:=by
 refine z10 tf_133 ?_;have h1:decide (97≤(b.toNat:Int))=decide (97≤b.toNat):=by rw[Bool.eq_iff_iff];simp;omega
 have h2:decide ((b.toNat:Int)≤122)=decide (b.toNat≤122):=by rw[Bool.eq_iff_iff];simp;omega
 have h3:decide (48≤(b.toNat:Int))=decide (48≤b.toNat):=by rw[Bool.eq_iff_iff];simp;omega
 have h4:decide ((b.toNat:Int)≤57)=decide (b.toNat≤57):=by rw[Bool.eq_iff_iff];simp;omega
 have h5:decide ((b.toNat:Int)=95)=(b.toNat==95):=by rw[Bool.eq_iff_iff];simp;omega
 unfold B nameB small;rw[Bool.decide_and,Bool.decide_and];simp only[vW,seval]
 repeat' (first|(apply And.intro)|(intro _))
 all_goals(first|(simp_all;done)|(simp_all;omega)|(simp_all<;>omega))
def txtT5(a:Nat)(r:Option (List UInt8×Nat)):TV:=match r with|some (t,k)=> .tuple [S (str t),I ((a+k:Nat):Int)]|none=> .tuple [S (str []),I 0]
theorem refText5_ok(g:Sh.Glob)(s:List UInt8)(a:Nat)(ha:a<s.length)(hs:s.length≤1000):SCalls Tryz.prog g 264 [S (str s),I (a:Int)] [] (txtT5 a (quoG (s.drop (a+1)) [] 1)) []:=by
 obtain⟨R,hR⟩:∃R,quoG (s.drop (a+1)) [] 1=R:=⟨_,rfl⟩
 rw[hR];have e0:(⟨#[]⟩:ByteArray)=str []:=rfl;have w0:IntKind.i64.wrap ((a:Int)+1)=((a+1:Nat):Int):=by rw[wrap64 (by omega) (by omega)];omega
 refine z10 tf_132 ?_;simp only[vW,seval,e0,w0];refine v_loop (σ:={x:Nat×List UInt8 // a<x.1∧x.1≤s.length∧quoG (s.drop x.1) x.2 (x.1-a)=R∧x.2.length≤x.1}) (fun x=>⟨[(0,S (str s)),(6,S (str x.1.2)),(7,I (x.1.1:Int))],[],[],[]⟩) (fun x=>s.length-x.1.1) ⟨(a+1,[]),by dsimp only;omega,by dsimp only;omega,by dsimp only;rw[show a+1-a=1 by omega];exact hR,by simp⟩ ?_ ?_
 ·apply lw_of<;>simp[leL,lk,sv,Nat.beq,I,S,ES.kill,has,drp,nilT,e0]
 rintro⟨⟨i,t⟩,h1,h2,h3,h4⟩
 dsimp only at h1 h2 h3 h4
 by_cases hlt:i<s.length
 ·have d1:(i:Int)<(s.length:Int):=by omega
  obtain⟨b,eb⟩:∃b,s[i]?=some b:=⟨_,gE hlt⟩
  have hd:s.drop i=b::s.drop (i+1):=by rw[List.drop_eq_getElem_cons hlt];congr 1;rw[gE hlt]at eb;exact Option.some.inj eb
  have w1:IntKind.i64.wrap ((i:Int)+1)=((i+1:Nat):Int):=by rw[wrap64 (by omega) (by omega)];omega
  rw[hd,quoG.eq_def]at h3
  dsimp only at h3
  have hbl:=b.toNat_lt;by_cases hq:b=34
  ·subst hq;rw[if_pos rfl]at h3;have HR:=refTextR_ok g t (by omega);unfold nv B at HR;simp only[vW,seval,d1,eb,w1,e0];refine z7 HR ?_;cases hr:z19 t
   ·rw[hr]at h3;simp only[Bool.false_eq_true,if_false]at h3;subst h3;unfold txtT5;simp only[vW,seval,e0]
   ·rw[hr]at h3;simp only[if_true]at h3;subst h3;unfold txtT5;simp only[vW,seval,w1];rw[show a+(i-a+1)=i+1 by omega]
  rw[if_neg hq]at h3;have t34:¬(b.toNat:Int)=34:=b_ne b 34 hq;by_cases hq2:b=92
  ·subst hq2;rw[if_pos rfl]at h3;have t92:(92:UInt8).toNat=92:=rfl;by_cases hlt2:i+1<s.length
   ·have d2:¬(s.length:Int)≤((i+1:Nat):Int):=by omega
    obtain⟨c,ec⟩:∃c,s[i+1]?=some c:=⟨_,gE hlt2⟩
    have hd2:s.drop (i+1)=c::s.drop (i+1+1):=by rw[List.drop_eq_getElem_cons hlt2];congr 1;rw[gE hlt2]at ec;exact Option.some.inj ec
    rw[hd2]at h3
    dsimp only at h3
    have w2:IntKind.i64.wrap (((i+1:Nat):Int)+1)=((i+1+1:Nat):Int):=by rw[wrap64 (by omega) (by omega)];omega
    have htk:List.take 1 (List.drop (i+1) s)=[c]:=by rw[hd2];rfl
    have go:∀(hc:c=34∨c=92),quoG (s.drop (i+1+1)) (t++[c]) (i+1+1-a)=R:=fun hc=>by
     rw[if_pos hc]at h3;rw[show i+1+1-a=i-a+2 by omega];exact h3
    by_cases c34:c=34
    ·subst c34;simp only[vW,seval,d1,eb,w1,d2,ec,w2];refine⟨⟨by omega,by omega⟩,by rw[List.length_take];omega,z13 ⟨(i+1+1,t++[34]),by dsimp only;omega,by dsimp only;omega,go (.inl rfl),by simp;omega⟩ (by show s.length-(i+1+1)<s.length-i;omega) ?_⟩;apply lw_of<;>simp[leL,lk,sv,Nat.beq,I,S,ES.kill,has,drp,nilT,htk]
    have n34:¬(c.toNat:Int)=34:=b_ne c 34 c34;by_cases c92:c=92
    ·subst c92;simp only[vW,seval,d1,eb,w1,d2,ec,w2,n34];refine⟨⟨by omega,by omega⟩,by rw[List.length_take];omega,z13 ⟨(i+1+1,t++[92]),by dsimp only;omega,by dsimp only;omega,go (.inr rfl),by simp;omega⟩ (by show s.length-(i+1+1)<s.length-i;omega) ?_⟩;apply lw_of<;>simp[leL,lk,sv,Nat.beq,I,S,ES.kill,has,drp,nilT,htk]
    have n92:¬(c.toNat:Int)=92:=b_ne c 92 c92;rw[if_neg (by simp[c34,c92])]at h3;subst h3;unfold txtT5;simp only[vW,seval,d1,eb,w1,d2,ec,w2,n34,n92,e0]
   ·have d2:(s.length:Int)≤((i+1:Nat):Int):=by omega
    rw[List.drop_eq_nil_of_le (by omega)]at h3
    dsimp only at h3
    subst h3;unfold txtT5;simp only[vW,seval,d1,eb,w1,d2,e0]
  rw[if_neg hq2]at h3;have t92:¬(b.toNat:Int)=92:=b_ne b 92 hq2;have htk:List.take 1 (List.drop i s)=[b]:=by rw[hd];rfl
  simp only[vW,seval,d1,eb,w1,t34,t92];refine⟨⟨by omega,by omega⟩,by rw[List.length_take];omega,z13 ⟨(i+1,t++[b]),by dsimp only;omega,by dsimp only;omega,by dsimp only;rw[show i+1-a=i-a+1 by omega];exact h3,by simp;omega⟩ (by show s.length-(i+1)<s.length-i;omega) ?_⟩;apply lw_of<;>simp[leL,lk,sv,Nat.beq,I,S,ES.kill,has,drp,nilT,htk]
 have d1:¬(i:Int)<(s.length:Int):=by omega
 rw[List.drop_eq_nil_of_le (by omega),quoG.eq_def]at h3
 dsimp only at h3
 subst h3;unfold txtT5;simp only[vW,seval,d1,e0]
end Go.Proofs.YtcpaleaajdilgaaGreatDoor
end

section
namespace Go.Mor
open Go
set_option maxHeartbeats 1000000
def failB(L:List Pc)(sz p:Nat)(b:Int):Int:=if b<0 then((pkP L sz p).p:Int)else b
def wantS(L:List Pc)(sz:Nat)(t:List UInt8)(p:Nat)(b:Int):Nat×Int:=if 0≤b then(p,b)else if isSg (pkP L sz p) t then(p+1,b)else(p,failB L sz p b)
mutual
def mE(L:List Pc)(sz:Nat):Nat→Int→Nat→Int→Option (V×Nat×Int)
 |0,_,_,_=>none
 |f+1,least,p,b=>match mT L sz f p b with
  |some (e,p',b')=>mL L sz f least e p' b'
  |none=>none
def mL(L:List Pc)(sz:Nat):Nat→Int→V→Nat→Int→Option (V×Nat×Int)
 |0,_,_,_,_=>none
 |f+1,least,e,p,b=>
  if b<0∧(pkP L sz p).k=4∧least≤bindsV (pkP L sz p).s then(match mE L sz f (bindsV (pkP L sz p).s+1) (p+1) b with
   |some (e2,p2,b2)=>mL L sz f least (.mk 4 0 (pkP L sz p).s [e,e2]) p2 b2
   |none=>none)
  else some (e,p,b)
def mT(L:List Pc)(sz:Nat):Nat→Nat→Int→Option (V×Nat×Int)
 |0,_,_=>none
 |f+1,p,b=>
  if 0≤b∨L.length≤p then some (V.nil,p,failB L sz p b)
  else if(pkP L sz p).k=1∨(pkP L sz p).k=2 then some (.mk (pkP L sz p).k (pkP L sz p).n (pkP L sz p).s [],p+1,b)
  else if(pkP L sz p).k=3 then(if isSg (pkP L sz (p+1)) [40]=true∧0<takesV (pkP L sz p).s then mH L sz f (pkP L sz p).s 0 (p+1+1) b []
   else some (.mk 3 0 (pkP L sz p).s [],p+1,b))
  else if(pkP L sz p).s=[45] then(match mT L sz f (p+1) b with
   |some (e,p',b')=>some (.mk 5 0 [45] [e],p',b')
   |none=>none)
  else if(pkP L sz p).s=[40] then(match mE L sz f 1 (p+1) b with
   |some (e,p',b')=>some (e,wantS L sz [41] p' b')
   |none=>none)
  else some (V.nil,p,failB L sz p b)
def mH(L:List Pc)(sz:Nat):Nat→List UInt8→Nat→Nat→Int→List V→Option (V×Nat×Int)
 |0,_,_,_,_,_=>none
 |f+1,s,k,p,b,acc=>
  if(k:Int)<takesV s∧b<0 then(match mE L sz f 1 (if 0<k then wantS L sz [44] p b else(p,b)).1 (if 0<k then wantS L sz [44] p b else(p,b)).2 with
   |some (e,p2,b2)=>mH L sz f s (k+1) p2 b2 (acc++[e])
   |none=>none)
  else some (.mk 6 0 s acc,wantS L sz [41] p b)
end
structure PcOk(q:Pc):Prop where
 k:q.k=1∨q.k=2∨q.k=3∨q.k=4
 n:q.k=2→q.n=0
 s:q.k=1→q.s=[]
section
variable{L:List Pc}{sz:Nat}
theorem pk_none{p:Nat}(h:L.length≤p):pkP L sz p=⟨0,0,[],sz⟩:=by grind [pkP,List.getElem?_eq_none]
theorem pk_some{p:Nat}{q:Pc}(h:L[p]?=some q):pkP L sz p=q:=by grind [pkP]
theorem fail_neg(p:Nat):0≤failB L sz p (-1):=by unfold failB;simp
theorem fail_pos{p:Nat}{b:Int}(h:0≤b):failB L sz p b=b:=by grind [failB]
theorem want_pos{t:List UInt8}{p:Nat}{b:Int}(h:0≤b):wantS L sz t p b=(p,b):=by grind [wantS]
theorem want_is{t:List UInt8}{p:Nat}(h:isSg (pkP L sz p) t=true):wantS L sz t p (-1)=(p+1, -1):=by grind [wantS]
theorem want_no{t:List UInt8}{p:Nat}(h:isSg (pkP L sz p) t=false):0≤(wantS L sz t p (-1)).2:=by
 unfold wantS;rw[if_neg (by omega),if_neg (by grind)];exact fail_neg p
theorem mE_bad{b:Int}(h:0≤b)(f:Nat)(least:Int)(p:Nat):mE L sz (f+2) least p b=some (V.nil,p,b):=by
 rw[mE,mT,if_pos (.inl h),fail_pos h]
 grind [mL]
def Agree(r:Rs V)(o:Option (V×Nat×Int)):Prop:=match r with
 | .ok e p=>o=some (e,p, -1)
 | .bad _ _=>∃e q b,0≤b∧o=some (e,q,b)
theorem agree_all(hL:∀q∈L,PcOk q):∀f:Nat,
  (∀least p r,pE L sz f least p=some r→Agree r (mE L sz (f+3) least p (-1)))∧
  (∀least e p r,pL L sz f least e p=some r→Agree r (mL L sz (f+3) least e p (-1)))∧
  (∀p r,pT L sz f p=some r→Agree r (mT L sz (f+3) p (-1)))∧
  (∀(s:List UInt8) k p acc r,pH L sz f (takesV s).toNat k p acc=some r→match r with
   | .ok l p'=>mH L sz (f+3) s k p (-1) acc=some (.mk 6 0 s l,p', -1)
   | .bad _ _=>∃e q b,0≤b∧mH L sz (f+3) s k p (-1) acc=some (e,q,b)):=by
 intro f
 induction f with
 |zero=>grind [pE,pL,pT,pH]
 |succ f ih=>
  obtain⟨iE,iL,iT,iH⟩:=ih;refine⟨fun least p r h=> ?_,fun least e p r h=> ?_,fun p r h=> ?_,fun s k p acc r h=> ?_⟩
  ·rw[pE]at h;rw[show f+1+3=(f+3)+1 by omega,mE];split at h
   ·rename_i e p' hT;have:=iT p _ hT
    grind [Agree]
   ·rename_i a p' hT;cases h;obtain⟨e,q,b,hb,ho⟩:=iT p _ hT;rw[ho];refine⟨e,q,b,hb,?_⟩
    dsimp only
    grind [mL]
   ·cases h
  ·rw[pL]at h;rw[show f+1+3=(f+3)+1 by omega,mL];split at h
   ·rename_i hc;cases h;show _=_
    grind
   ·rename_i hc;have h1:(pkP L sz p).k=4:=Decidable.byContradiction fun h=>hc (.inl h);have h2:bindsV (pkP L sz p).s≥least:=by
     omega
    rw[if_pos ⟨by omega,h1,h2⟩];split at h
    ·grind [Agree]
    ·rename_i a p' hE;cases h;obtain⟨e2,q,b,hb,ho⟩:=iE _ _ _ hE;rw[ho];refine⟨.mk 4 0 (pkP L sz p).s [e,e2],q,b,hb,?_⟩
     dsimp only
     grind [mL]
    ·cases h
  ·rw[show f+1+3=(f+3)+1 by omega,mT];rw[pT]at h;by_cases hp:L.length≤p
   ·rw[if_pos (.inr hp)];rw[pk_none hp]at h;simp[isSg]at h;subst h;exact⟨V.nil,p,_,fail_neg p,rfl⟩
   have hpl:p<L.length:=by omega
   rw[if_neg (by omega)];have hq:=hL (L[p]) (List.getElem_mem hpl);rw[←pk_some (sz:=sz) (gE hpl)]at hq;generalize pkP L sz p=x at*;rcases hq.k with k|k|k|k
   ·have s1:isSg x [40]=false:=by unfold isSg;rw[k];rfl
    have s2:isSg x [45]=false:=by grind [isSg]
    simp only[s1,s2,k,if_true,Bool.false_eq_true,if_false]at h;cases h;rw[if_pos (.inl k),k,hq.s k];rfl
   ·have s1:isSg x [40]=false:=by unfold isSg;rw[k];rfl
    have s2:isSg x [45]=false:=by grind [isSg]
    simp only[s1,s2,k,if_true,Bool.false_eq_true,if_false,show ¬(2:Int)=1 by decide]at h;cases h;rw[if_pos (.inr k),k,hq.n k];rfl
   ·have s1:isSg x [40]=false:=by unfold isSg;rw[k];rfl
    have s2:isSg x [45]=false:=by grind [isSg]
    simp only[s1,s2,k,if_true,Bool.false_eq_true,if_false,show ¬(3:Int)=1 by decide,show ¬(3:Int)=2 by decide]at h;rw[if_neg (by omega),if_pos k];split at h
    ·rename_i hc;rw[if_pos ⟨hc.2,hc.1⟩];split at h
     ·rename_i l p' hH;cases h;have:=iH x.s 0 (p+2) [] _ hH;exact this
     ·rename_i a p' hH;cases h;have:=iH x.s 0 (p+2) [] _ hH;exact this
     ·cases h
    ·rename_i hc;cases h;rw[if_neg (fun h=>hc ⟨h.2,h.1⟩)];rfl
   ·rw[if_neg (by omega),if_neg (by omega)];have hs:∀t,isSg x t=decide (x.s=t):=fun t=>by unfold isSg;rw[k,Bool.eq_iff_iff];simp
    rw[hs,hs]at h;by_cases h40:x.s=[40]
    ·rw[if_neg (by grind),if_pos h40];rw[if_pos (by grind)]at h;split at h
     ·rename_i e p' hE;have:=iE _ _ _ hE;unfold Agree at this
      dsimp only at this
      rw[this]
      dsimp only
      split at h
      ·rename_i h41;cases h;rw[want_is h41];rfl
      ·rename_i h41;cases h;exact⟨_,_,_,want_no (by grind),rfl⟩
     ·rename_i a p' hE;cases h;obtain⟨e,q,b,hb,ho⟩:=iE _ _ _ hE;rw[ho]
      dsimp only
      grind [want_pos]
     ·cases h
    rw[if_neg (by grind)]at h;by_cases h45:x.s=[45]
    ·rw[if_pos h45];rw[if_pos (by grind)]at h;split at h
     ·rename_i e p' hT;cases h;have:=iT _ _ hT;unfold Agree at this
      dsimp only at this
      rw[this];rfl
     ·rename_i a p' hT;cases h;obtain⟨e,q,b,hb,ho⟩:=iT _ _ hT;rw[ho];exact⟨_,_,_,hb,rfl⟩
     ·cases h
    rw[if_neg (by grind)]at h;rw[if_neg h45,if_neg h40];rw[if_neg (by omega),if_neg (by omega),if_neg (by omega)]at h;cases h;exact⟨_,_,_,fail_neg p,rfl⟩
  ·rw[show f+1+3=(f+3)+1 by omega,mH];rw[pH]at h;by_cases hk:k<(takesV s).toNat
   ·rw[if_pos hk]at h;rw[if_pos ⟨by omega,by omega⟩];by_cases h0:0<k
    ·simp only[if_pos h0];by_cases h44:isSg (pkP L sz p) [44]=false
     ·rw[if_pos ⟨h0,h44⟩]at h;cases h;have hb:=want_no h44;rw[show f+3=(f+1)+2 by omega,mE_bad hb]
      dsimp only
      rw[show f+1+2=(f+2)+1 by omega,mH,if_neg (by omega),want_pos hb]
      grind
     ·rw[if_neg (fun h=>h44 h.2),if_pos h0]at h;rw[want_is (by grind)]
      dsimp only
      split at h
      ·grind [Agree]
      ·rename_i a p' hE;cases h;obtain⟨e,q,b,hb,ho⟩:=iE _ _ _ hE;rw[ho]
       dsimp only
       grind [mH,want_pos]
      ·cases h
    ·simp only[if_neg h0];rw[if_neg (fun h=>h0 h.1),if_neg h0]at h;split at h
     ·grind [Agree]
     ·rename_i a p' hE;cases h;obtain⟨e,q,b,hb,ho⟩:=iE _ _ _ hE;rw[ho]
      dsimp only
      grind [mH,want_pos]
     ·cases h
   ·rw[if_neg hk]at h;rw[if_neg (by omega)];split at h
    ·rename_i h41;cases h
     dsimp only
     rw[want_is h41]
    ·rename_i h41;cases h;exact⟨_,_,_,want_no (by grind),rfl⟩
end
end Go.Mor
end

section
namespace Go.Proofs.YtcpaleaajdilgaaGreatDoor
open Go Go.RowKit Go.Mor Go.Sh Go.Sh.Cd1 Go.Sh.Cd7
set_option maxRecDepth 100000
set_option maxHeartbeats 4000000
def qcK(k:Int):Int:=if k=4 then 0 else k
def qcT(q:Pc):TV:=.agg [I (qcK q.k),I q.n,S (str q.s),I (q.p:Int)]
def NextOk(g:Sh.Glob)(s:List UInt8)(i:Nat)(r:Option (Pc×Nat)):Prop:=match r with
 |some (q,z)=>SCalls Tryz.prog g 227 [S (str s),I (i:Int)] [] (.tuple [qcT q,I ((i+z:Nat):Int)]) []
 |none=>∃(k n:Int) (t:List UInt8),SCalls Tryz.prog g 227 [S (str s),I (i:Int)] [] (.tuple [.agg [I k,I n,S (str t),I (i:Int)],I 0]) []
theorem numG_big(l:List UInt8)(z:Nat):(numG l 1000000000000001 z).1=1000000000000001:=by
 induction l generalizing z with
 |nil=>rfl
 |cons b r ih=>
  rw[numG];split
  ·rename_i h;unfold digB at h;simp only[decide_eq_true_eq]at h;rw[show min (10*(1000000000000001:Int)+((b.toNat:Int) - 48)) 1000000000000001=1000000000000001 by omega];exact ih _
  ·rfl
def ovf:List UInt8→Int→Option Int
 |[],_=>none
 |b::r,n=>if digB b then(if 1000000000000000<10*n+((b.toNat:Int) - 48)then some (10*n+((b.toNat:Int) - 48))else ovf r (10*n+((b.toNat:Int) - 48)))else none
theorem ovf_num(l:List UInt8):∀(n:Int) (z:Nat),0≤n→n≤1000000000000000→(ovf l n=none∧¬1000000000000000<(numG l n z).1)∨(∃m,ovf l n=some m∧1000000000000000<(numG l n z).1):=by
 induction l with
 |nil=>intro n z h0 h1;exact .inl ⟨rfl,by show ¬_<n;omega⟩
 |cons b r ih=>
  intro n z h0 h1;rw[ovf,numG];by_cases hd:digB b=true
  ·rw[if_pos hd,if_pos hd];have hd':=hd;unfold digB at hd';simp only[decide_eq_true_eq]at hd';by_cases hb:1000000000000000<10*n+((b.toNat:Int) - 48)
   ·rw[if_pos hb,show min (10*n+((b.toNat:Int) - 48)) 1000000000000001=1000000000000001 by omega,numG_big];exact .inr ⟨_,rfl,by decide⟩
   ·rw[if_neg hb,show min (10*n+((b.toNat:Int) - 48)) 1000000000000001=10*n+((b.toNat:Int) - 48) by omega];exact ih _ _ (by omega) (by omega)
  ·rw[if_neg hd,if_neg hd];exact .inl ⟨rfl,by show ¬_<n;omega⟩
theorem next_num(g:Sh.Glob)(s:List UInt8)(i:Nat)(hs:s.length≤1000){b:UInt8}(hb:s[i]?=some b)(hd:digB b=true):NextOk g s i (readP (s.drop i) i):=by
 have hlt:i<s.length:=(gJ hb).1;have hdr:s.drop i=b::s.drop (i+1):=by rw[List.drop_eq_getElem_cons hlt];congr 1;rw[gE hlt]at hb;exact Option.some.inj hb
 have hD0:=refDigit5_ok g b;rw[hd]at hD0;have e0:(⟨#[]⟩:ByteArray)=str []:=rfl;have hR:readP (s.drop i) i=if 1000000000000000<(numG (s.drop i) 0 0).1 then none else some (⟨1,(numG (s.drop i) 0 0).1,[],i⟩,(numG (s.drop i) 0 0).2):=by
  rw[hdr,readP];simp only[hd,if_true]
 rw[hR];obtain⟨R,hRn⟩:∃R,numG (s.drop i) 0 0=R:=⟨_,rfl⟩
 have hov:=ovf_num (s.drop i) 0 0 (by omega) (by omega);rw[hRn]at hov ⊢;unfold B at hD0;rcases hov with⟨o1,o2⟩|⟨m,o1,o2⟩
 ·rw[if_neg o2];change SCalls _ _ _ _ _ (.tuple [.agg [I 1,I R.1,S (str []),I (i:Int)],I ((i+R.2:Nat):Int)]) _;refine z10 tf_129 ?_;simp only[vW,seval,hb,e0];refine z8 hD0 ?_;refine v_loop (σ:={x:Nat×Int // i≤x.1∧x.1≤s.length∧numG (s.drop x.1) x.2 (x.1-i)=R∧ovf (s.drop x.1) x.2=none∧0≤x.2∧x.2≤1000000000000000}) (fun x=>⟨[(0,S (str s)),(1,I (i:Int)),(4,.ptr 4 0),(6,.ptr 6 0),(7,I (x.1.1:Int))],[(4,[I 0,I 0,S (str []),I 0]),(6,[I 0,I x.1.2,S (str []),I (i:Int)])],[],[]⟩) (fun x=>s.length-x.1.1) ⟨(i,0),Nat.le_refl _,by dsimp only;omega,by dsimp only;rw[Nat.sub_self];exact hRn,o1,Int.le_refl _,by dsimp only;omega⟩ ?_ ?_
  ·apply lw_of<;>simp[leL,lk,sv,Nat.beq,I,S,ES.kill,has,drp,nilT,e0]
  rintro⟨⟨t,n⟩,h1,h2,h3,h4,h5,h6⟩
  dsimp only at h1 h2 h3 h4 h5 h6
  by_cases hlt2:t<s.length
  ·have d1:(t:Int)<(s.length:Int):=by omega
   obtain⟨c,ec⟩:∃c,s[t]?=some c:=⟨_,gE hlt2⟩
   have hdr2:s.drop t=c::s.drop (t+1):=by rw[List.drop_eq_getElem_cons hlt2];congr 1;rw[gE hlt2]at ec;exact Option.some.inj ec
   have w1:IntKind.i64.wrap ((t:Int)+1)=((t+1:Nat):Int):=by rw[wrap64 (by omega) (by omega)];omega
   have hD:=refDigit5_ok g c;unfold B at hD;rw[hdr2]at h3 h4;cases hc:digB c
   ·rw[hc]at hD;rw[numG,hc]at h3;simp only[Bool.false_eq_true,if_false]at h3;subst h3;simp only[vW,seval,d1,ec];refine z8 hD ?_;rw[show i+(t-i)=t by omega]
   ·rw[hc]at hD;have hc':=hc;unfold digB at hc';simp only[decide_eq_true_eq]at hc';rw[ovf,if_pos hc]at h4;split at h4
    ·cases h4
    rename_i hno;rw[numG,hc,if_pos rfl,show min (10*n+((c.toNat:Int) - 48)) 1000000000000001=10*n+((c.toNat:Int) - 48) by omega]at h3;have v1:IntKind.u8.wrap ((c.toNat:Int) - 48)=(c.toNat:Int) - 48:=by rw[IntKind.wrap_u8];omega
    have v2:IntKind.i64.wrap ((c.toNat:Int) - 48)=(c.toNat:Int) - 48:=wrap64 (by omega) (by omega);have v3:IntKind.i64.wrap (10*n)=10*n:=wrap64 (by omega) (by omega);have v4:IntKind.i64.wrap (10*n+((c.toNat:Int) - 48))=10*n+((c.toNat:Int) - 48):=wrap64 (by omega) (by omega);simp only[vW,seval,d1,ec];refine z7 hD ?_;simp only[vW,seval,ec,v1,v2,v3,v4,hno,w1];refine z13 ⟨(t+1,10*n+((c.toNat:Int) - 48)),by dsimp only;omega,hlt2,by dsimp only;rw[show t+1-i=t-i+1 by omega];exact h3,h4,by dsimp only;omega,by dsimp only;omega⟩ (by show s.length-(t+1)<s.length-t;omega) ?_;apply lw_of<;>simp[leL,lk,sv,Nat.beq,I,S,ES.kill,has,drp,nilT]
  ·have d1:¬(t:Int)<(s.length:Int):=by omega
   rw[List.drop_eq_nil_of_le (by omega),numG]at h3;subst h3;simp only[vW,seval,d1];rw[show i+(t-i)=t by omega]
 ·rw[if_pos o2];refine⟨0,m,[],?_⟩;refine z10 tf_129 ?_;simp only[vW,seval,hb,e0];refine z8 hD0 ?_;refine v_loop (σ:={x:Nat×Int // i≤x.1∧x.1≤s.length∧ovf (s.drop x.1) x.2=some m∧0≤x.2∧x.2≤1000000000000000}) (fun x=>⟨[(0,S (str s)),(1,I (i:Int)),(4,.ptr 4 0),(6,.ptr 6 0),(7,I (x.1.1:Int))],[(4,[I 0,I 0,S (str []),I 0]),(6,[I 0,I x.1.2,S (str []),I (i:Int)])],[],[]⟩) (fun x=>s.length-x.1.1) ⟨(i,0),Nat.le_refl _,by dsimp only;omega,o1,Int.le_refl _,by dsimp only;omega⟩ ?_ ?_
  ·apply lw_of<;>simp[leL,lk,sv,Nat.beq,I,S,ES.kill,has,drp,nilT,e0]
  rintro⟨⟨t,n⟩,h1,h2,h4,h5,h6⟩
  dsimp only at h1 h2 h4 h5 h6
  by_cases hlt2:t<s.length
  ·have d1:(t:Int)<(s.length:Int):=by omega
   obtain⟨c,ec⟩:∃c,s[t]?=some c:=⟨_,gE hlt2⟩
   have hdr2:s.drop t=c::s.drop (t+1):=by rw[List.drop_eq_getElem_cons hlt2];congr 1;rw[gE hlt2]at ec;exact Option.some.inj ec
   have w1:IntKind.i64.wrap ((t:Int)+1)=((t+1:Nat):Int):=by rw[wrap64 (by omega) (by omega)];omega
   have hD:=refDigit5_ok g c;unfold B at hD;rw[hdr2,ovf]at h4;cases hc:digB c
   ·rw[hc]at h4;simp at h4
   ·rw[hc]at hD;rw[if_pos hc]at h4;have hc':=hc;unfold digB at hc';simp only[decide_eq_true_eq]at hc';have v1:IntKind.u8.wrap ((c.toNat:Int) - 48)=(c.toNat:Int) - 48:=by rw[IntKind.wrap_u8];omega
    have v2:IntKind.i64.wrap ((c.toNat:Int) - 48)=(c.toNat:Int) - 48:=wrap64 (by omega) (by omega);have v3:IntKind.i64.wrap (10*n)=10*n:=wrap64 (by omega) (by omega);have v4:IntKind.i64.wrap (10*n+((c.toNat:Int) - 48))=10*n+((c.toNat:Int) - 48):=wrap64 (by omega) (by omega);by_cases hno:1000000000000000<10*n+((c.toNat:Int) - 48)
    ·rw[if_pos hno]at h4;cases h4;simp only[vW,seval,d1,ec];refine z7 hD ?_;simp only[vW,seval,ec,v1,v2,v3,v4,hno,w1]
    ·rw[if_neg hno]at h4;simp only[vW,seval,d1,ec];refine z7 hD ?_;simp only[vW,seval,ec,v1,v2,v3,v4,hno,w1];refine z13 ⟨(t+1,10*n+((c.toNat:Int) - 48)),by dsimp only;omega,hlt2,h4,by dsimp only;omega,by dsimp only;omega⟩ (by show s.length-(t+1)<s.length-t;omega) ?_;apply lw_of<;>simp[leL,lk,sv,Nat.beq,I,S,ES.kill,has,drp,nilT]
  ·rw[List.drop_eq_nil_of_le (by omega),ovf]at h4;cases h4
end Go.Proofs.YtcpaleaajdilgaaGreatDoor
end
