/- Merged texts: WrapB Open0 OpenN RawD OpenR PFits Pk1 Pk4 RawHD OpenH Wire1 Wire2 Wire3 Wire4 Wire5 Wire6 Pr1 PrA PrX. No statement of the program is proved here. -/
import Derived.Test.YtcpaleaajdilgaaGreatDoorM1
import Derived.Test.YtcpaleaajdilgaaGreatDoorM2
import Derived.Test.YtcpaleaajdilgaaGreatDoorM3
import Derived.Test.YtcpaleaajdilgaaGreatDoorM4
import Derived.Test.YtcpaleaajdilgaaGreatDoorM7
import Derived.Test.YtcpaleaajdilgaaGreatDoorCards
import Derived.Test.YtcpaleaajdilgaaGreatDoorTie
import Derived.Lib.LaidIn
import Derived.Lib.LaidU8T
import Derived.Deep.DeepHandedRow
import Derived.Deep.DeepWitnessRowRef
import Derived.ProofKit
import Derived.SizedLaws
import Derived.OpenShut
import Derived.Stop.LaidTwo
import Derived.Deep.Slices
import Derived.Deep.Fields
import Derived.ChangeSame
import Derived.SevenTiedAt
import Derived.PinnedBridge
import Derived.Shelf.Vars
import Derived.RangeFuncNested
import Derived.RangeFuncBound
import Derived.RangeFuncLeaves
import Derived.RangeFuncBox
import Derived.Shelf.Abstract
import Derived.Shelf.RegionOpen
import Derived.OwnWalkIn
import Derived.TacticsInMore
import Derived.LoopNIn
import Derived.LoopIn
import Derived.Maps.AppendAt
import Derived.LaidEql
import Derived.Stop.Asserts
import Derived.RowKitTokens
import Derived.Deep.QuietTactic
import Derived.BigQuiet
set_option linter.unusedSimpArgs false
set_option linter.unusedVariables false
set_option maxRecDepth 100000
set_option maxHeartbeats 8000000
section
namespace Go.Proofs.YtcpaleaajdilgaaGreatDoor
open Go.ChangeShapes Go.WideShapes Go.ChangeAt Go.RowKit Go.Lib Go.Mor Go.Deep
open Go.ChangeMaps (open_string shut_string)
theorem own:ownKnob Tryz.prog.godebug=none:=by kernel_rfl
theorem acc_eq:Rows.laid_unicode_utf8_acceptRanges=Lib.acceptData:=by kernel_rfl
theorem hv_of{W:World}(h:W.ShapedOpen Tryz.prog):10≤W.heap.size:=by
 obtain⟨o,o0,h1,_⟩:=h.2 10 (of_decide_eq_true (by kernel_rfl)) (of_decide_eq_true (by kernel_rfl));exact Nat.le_of_lt (gA h1).1
theorem globU_of{W:World}{L:List (String×DataW Unit)}(hL:laidMet Tryz.prog L W)(h1:("unicode/utf8.first",Rows.laid_unicode_utf8_first)∈L)(h2:("unicode/utf8.acceptRanges",Rows.laid_unicode_utf8_acceptRanges)∈L):GlobU W:=
 ⟨utf8Tabs_of_readsT (U8Types.of196 Tryz.laysValid) ⟨by kernel_rfl,by kernel_rfl,by kernel_rfl,by kernel_rfl,by kernel_rfl,by kernel_rfl,by kernel_rfl⟩ (by rw[←Pinned.utf8First_eq];exact Lib.laidMet.reads hL h1) (by rw[←acc_eq];exact Lib.laidMet.reads hL h2)⟩
def litsOf:DataW Unit→List Value
 | .agg l=>l.map fun x=>match x with| .lit y=>y.value|_=>undef
 |_=>[]
def textOf:DataW Unit→zB
 | .iface _ (.ptr (.agg [.lit (.string l)]))=>l
 |_=>[]
noncomputable def z123(os:Os):World:=
 let N:=(World.settled Tryz.prog os).heap.size
 let w0:=World.holding Tryz.prog os ⟨#[.cells #[.string ⟨(textOf Rows.laid_moraine_wire_errEnd).toArray⟩] 354,.cells #[.string ⟨(textOf Rows.laid_moraine_wire_errForm).toArray⟩] 354,.cells #[.string ⟨(textOf Rows.laid_strconv_ErrRange).toArray⟩] 354,.cells #[.string ⟨(textOf Rows.laid_strconv_ErrSyntax).toArray⟩] 354],#[],[]⟩
 let put (h:Array Obj) (g:Nat) (cs:Array Value):Array Obj:=h.modify g fun
  | .cells _ t frozen=> .cells cs t frozen
  |o=>o
 let h:=w0.heap
 let h:=put h 8 (litsOf Rows.laid_math_bits_deBruijn32tab).toArray
 let h:=put h 9 (litsOf Rows.laid_math_bits_deBruijn64tab).toArray
 let h:=put h 5 (litsOf Rows.laid_internal_strconv_uint64pow10).toArray
 let h:=put h 1 ((List.range 16).flatMap fun i=>[Value.int .u8 (Lib.accLo i),Value.int .u8 (Lib.accHi i)]).toArray
 let h:=put h 2 #[.iface 352 (.pointer (some ⟨N,0,none⟩))]
 let h:=put h 3 #[.iface 352 (.pointer (some ⟨N+1,0,none⟩))]
 let h:=put h 0 (Lib.firstTab.map fun z=>Value.int .u8 z).toArray
 let h:=put h 7 #[.iface 352 (.pointer (some ⟨N+2,0,none⟩))]
 let h:=put h 6 #[.iface 352 (.pointer (some ⟨N+3,0,none⟩))]
 { w0 with heap:=h }
noncomputable abbrev N0:Nat:=(World.settled Tryz.prog default).heap.size
theorem laidOut:laidOutB Tryz.prog=true:=by kernel_rfl
section
variable{H:Type}{enc:TypeId×Value→H}
theorem trodAll_stays{W W':World}(hb:Below W.heap.size W W'){sp:Nat→Bool}:∀{ts:List TypeId} {vs:List Value} {ds:List (DataW H)} {ps:List MemPlace},
  (ts.all fun t=>Tryz.prog.readableRec t&&decide (t<Tryz.prog.types.size))=true→DataW.TrodAll enc Tryz.prog W 0 (fun _=>true) true ts vs ds ps→(∀x∈ps,x.block<W.heap.size)→(∀x∈ps,sp x.block=true)→
  DataW.TrodAll enc Tryz.prog W' 0 sp true ts vs ds ps:=by
 intro ts
 induction ts with
 |nil=>
  intro vs ds ps _ h _ _;obtain⟨rfl,rfl,rfl⟩:=trodAll_nil h;exact trodAll_mk0
 |cons t ts ih=>
  intro vs ds ps hr h hlt hsp;obtain⟨v,vs',d,ds',p,q,rfl,rfl,rfl,h1,h2⟩:=trodAll_cons h;simp only[List.all_cons,Bool.and_eq_true,decide_eq_true_iff]at hr;refine trodAll_cons_mk (WideElems.Trod_stays laidOut hr.1.1 hr.1.2 h1 (fun x hx=>hb.same (hlt x (by simp[hx]))) (fun x hx=>hsp x (by simp[hx]))) (ih hr.2 h2 (fun x hx=>hlt x (by simp[hx])) (fun x hx=>hsp x (by simp[hx])))
theorem post_of_below{P:Program}{f:Func}{s:ChangeSpec}{apart fresh handsOn again:Bool}{W W':World}{args:Array Value}{v:Value}{ds gs:List (DataW H)}{before pa pv:List MemPlace}
  (hW:DataW.Whole enc P f.params.toList s.vars apart W args.toList ds gs before)
  (hres:∀(b:Nat) (sp:Nat→Bool) (hd:Bool),DataW.TrodAll enc P W' b sp hd f.resultTypes.toList (v.resultList f.resultTypes.size) (s.fn H (ds++gs)).results [])
  (hargs:∀sp:Nat→Bool,(∀p∈before,sp p.block=true)→DataW.TrodAll enc P W' 0 sp true f.params.toList args.toList (s.fn H (ds++gs)).args pa)
  (hvars:∀sp:Nat→Bool,(∀p∈before,sp p.block=true)→DataW.TrodVars enc P W' sp s.vars (s.fn H (ds++gs)).vars pv)
  (hps:before=pa++pv) (hb:Below W.heap.size W W')
  (hok:∀(j:Nat) (t:TypeId) (r:Value),f.resultTypes[j]?=some t→(v.resultList f.resultTypes.size)[j]?=some r→Value.okWide P W' .any 0 t r):
  s.post enc P f apart fresh handsOn again W args v W':=by
 have hlt:∀p∈before,p.block<W.heap.size:=fun p hp=>hW.lt p hp;have hold:∀p∈before,(fun b=>decide (b<W.heap.size)) p.block=true:=fun p hp=>by simpa using hlt p hp
 refine⟨ds,gs,before,[],pa,pv,hW,hres _ _ _,hargs _ hold,hvars _ hold,World.keptBut_mono (fun p hp=>⟨hp,?_⟩) (hb.frame (·∈before)),fun _=> ?_⟩
 ·rw[hps,List.mem_append]at hp;exact Or.inr hp
 ·obtain⟨_,_,_,_,_,hz,hn⟩:=hW;refine⟨hok,_,_,([]++pa)++pv,⟨[]++pa,pv,trodAll_append (hargs _ (fun _ _=>rfl)) (hres _ _ _),hvars _ (fun _ _=>rfl),rfl,?_,?_⟩,?_⟩
  ·intro b off hp;have hin:MemPlace.cell b off∈before:=by rw[hps];simpa using hp
   rw[hb.frozen (hlt _ hin)];exact hz b off hin
  ·intro ha;have:=hn ha;rw[hps]at this;simpa using this
  ·intro p hp _;rw[hps];simpa using hp
theorem lifts(f:FuncId)(fn:Func)(sp:ChangeSpec){W W':World}{args:Array Value}{ds gs:List (DataW H)}{before:List MemPlace}{fresh handsOn again:Bool}
  (hv:sp.vars=[]) (hr:(fn.params.toList.all fun t=>Tryz.prog.readableRec t&&decide (t<Tryz.prog.types.size))=true) (hres:fn.resultTypes= #[4])
  (hfn:sp.fn H (ds++[])={ results:=[.lit (.bool true)],args:=ds })
  (hW:DataW.Whole enc Tryz.prog fn.params.toList sp.vars false W args.toList ds gs before) (hb:Below W.heap.size W W'):
  sp.post enc Tryz.prog fn false fresh handsOn again W args (.bool true) W':=by
 have hW':=hW;obtain⟨p,q,hA,hV,rfl,_,_⟩:=hW;rw[hv]at hV;obtain⟨rfl,rfl⟩:=trodVars_none hV;have hlt:∀x∈p,x.block<W.heap.size:=fun x hx=>hW'.lt x (by simp[hx]);refine post_of_below (pa:=p) (pv:=[]) hW' (fun b sp' hd=> ?_) (fun sp' hsp=> ?_) (fun sp' hsp=> ?_) rfl hb ?_
 ·rw[hfn,hres];exact trodAll_mk1 (shut_bool Tryz.underlying4 _)
 ·rw[hfn];exact trodAll_stays hb hr hA hlt (fun x hx=>hsp x (by simp[hx]))
 ·rw[hfn,hv];rfl
 ·exact ok_one hres rfl (okWide_bool_mk Tryz.underlying4 _)
end
end Go.Proofs.YtcpaleaajdilgaaGreatDoor
end

section
namespace Go.Proofs.YtcpaleaajdilgaaGreatDoor
open Go.ChangeShapes Go.WideShapes Go.ChangeAt Go.RowKit Go.Lib Go.Mor Go.Deep Go.Joins
open Go.Sh (RelT RelV TV PV SCalls Env MSim objB objR objX Low)
open Go.ChangeMaps (open_string shut_string)
def envAll(w:World):Env:=⟨fun k _=>k<w.heap.size,fun _=>0,fun _=>none,fun _=>0⟩
theorem z124(d:Nat):objB [] d=none:=by simp[objB]
theorem objR_nil(d:Nat):objR [] d=none:=by simp[objR]
theorem calls_of_sc{P:Program}{f:Nat}{xs:List TV}{vs:List Value}{w:World}{g:Go.Sh.Glob}{b:Value}(h:SCalls P g f xs [] (.pv (.v b)) [])(hG:g.G w)(hl:xs.length=vs.length)
  (hr:∀(j:Nat) x v,xs[j]?=some x→vs[j]?=some v→RelT w (envAll w) (objR []) x v):Calls P f vs.toArray w fun e w'=>e=.returned b∧Below w.heap.size w w':=by
 have hX:∀d k,¬objX (envAll w) [] d k:=by
  rintro d k (⟨cs,h1,_⟩|⟨q,cap,h1,_⟩)
  ·rw[z124]at h1;cases h1
  ·rw[objR_nil]at h1;cases h1
 refine(h.2 w (envAll w) vs hG ?_ (fun d k hd=>absurd hd (hX d k)) hl hr).mono ?_
 ·refine⟨fun d cs hd=> ?_,fun d e W n hd=> ?_,fun d d' cs cs' hd=> ?_,fun d d' cs q k cap hd=> ?_,fun d d' q q' k cap cap' hd=> ?_,fun k o hk=>hk,⟨rfl,rfl,rfl,Nat.le_refl _,fun _ _ _=>rfl⟩,fun k o u hk hu=>⟨hk,hu⟩,fun k o hk=> .inl hk,?_⟩
  ·rw[z124]at hd;cases hd
  ·rw[objR_nil]at hd;cases hd
  ·rw[z124]at hd;cases hd
  ·rw[z124]at hd;cases hd
  ·rw[objR_nil]at hd;cases hd
  ·have hold:∀d,¬(Go.Sh.start w (envAll w) [] 0).old d:=fun d h=>by have h1:1000≤d∧d<1000+0:=h;omega
   constructor<;>(intros;first|(exfalso;apply hold;assumption)|rfl)
 ·rintro e w' ⟨v,E',rfl,hm,hv,_⟩;obtain rfl:=Go.Sh.val_rel (y:=b) hv rfl;exact⟨rfl,hm.low.os,hm.low.tape,hm.low.output,hm.low.size,fun k hk=>hm.low.block k hk (fun d=>hX d k)⟩
end Go.Proofs.YtcpaleaajdilgaaGreatDoor
end

section
namespace Go.Proofs.YtcpaleaajdilgaaGreatDoor
open Go.ChangeShapes Go.WideShapes Go.ChangeAt Go.RowKit Go.Lib Go.Mor Go.Deep Go.Joins
open Go.Sh (RelT RelV TV PV SCalls Env MSim objB objR objX Low)
open Go.ChangeMaps (open_string shut_string)
section
variable{H:Type}{enc:TypeId×Value→H}
theorem open_nums{t e:TypeId}{k:IntKind}(ht:Tryz.prog.underlying t=some (.slice e))(he:Tryz.prog.underlying e=some (.int k))(hc:Tryz.prog.cellsOf e=1)
  {W:World} {b0 base:Nat} {spare:Nat→Bool} {held:Bool} {v:Value} {d:DataW H} {p:List MemPlace} (hok:Value.okWide Tryz.prog W .any b0 t v) (h:DataW.Trod enc Tryz.prog W base spare held t v d p):
  ∃l:List Int,(∀x∈l,(Lit.int k x).wf=true)∧l.length≤9223372036854775807∧∀r,RelT W (envAll W) r (.pv (.sl 1 (l.map fun z=>[PV.v (.int k z)]))) v:=by
 obtain⟨a0,len,cap,rfl⟩:=okWide_slice ht hok;obtain⟨fuel,hf⟩:=h;rcases open_ints ht he hc hf with⟨hcs,hx⟩|⟨a,len',cap',zs,hcs,_,hl,hm,hz,hx,hcell,hwz⟩
 ·obtain⟨rfl,rfl,rfl⟩:a0=none∧len=0∧cap=0:=by simpa [Value.cells]using hcs
  exact⟨[],by simp,by simp,fun r=> .pv (.sl 1 [] 0 0 0 none (fun _ _=>undef) (by simp) (by simp) (by simp) (by simp) (by simp) (by simp))⟩
 ·obtain⟨rfl,rfl,rfl⟩:a0=some a∧len=len'∧cap=cap':=by simpa [Value.cells]using hcs
  have hlz:len≤zs.length:=by rw[hz];split<;>omega
  have hlen:(zs.take len).length=len:=by rw[List.length_take];omega
  refine⟨zs.take len,fun x hx=>hwz x (List.mem_of_mem_take hx),by unfold maxLen at hm;omega,fun r=> ?_⟩;have hL:((zs.take len).map fun z=>[PV.v (.int k z)]).length=len:=by rw[List.length_map,hlen]
  rcases Nat.eq_zero_or_pos zs.length with h0|h0
  ·obtain rfl:len=0:=by omega
   have e0:(zs.take 0).map (fun z=>[PV.v (.int k z)])=[]:=by simp
   rw[e0];exact .pv (.sl 1 [] 0 0 cap (some a) (fun _ _=>undef) (by simp) (by simp) hm (by simp) (by simp) (by simp))
  ·obtain⟨b,off,rfl,hcl⟩:=ints_at hcell h0;have cell:∀(i j:Nat) cs q,((zs.take len).map fun z=>[PV.v (.int k z)])[i]?=some cs→cs[j]?=some q→∃u,q=.v u∧W.cell? ⟨b,off+i*1+j,none⟩=some u∧Go.Sh.one u:=by
    intro i j cs q h1 h2;rw[List.getElem?_map,Option.map_eq_some_iff]at h1;obtain⟨z,hz1,rfl⟩:=h1;obtain⟨hi,he⟩:=gJ hz1;have hi':i<zs.length:=by rw[hlen]at hi;omega
    match j with
    |0=>
     simp at h2;subst h2;refine⟨_,rfl,?_,rfl⟩;have:=hcl i hi';rw[List.getElem_take]at he;rw[List.getD_eq_getElem?_getD,gE hi',Option.getD_some,he]at this;simpa using this
    |j+1=>simp at h2
   have key:RelV W (envAll W).K (.sl 1 ((zs.take len).map fun z=>[PV.v (.int k z)])) (.slice (some ⟨b,off,none⟩) ((zs.take len).map fun z=>[PV.v (.int k z)]).length cap):=by
    refine .sl 1 _ b off cap (some ⟨b,off,none⟩) (fun i j=>(W.cell? ⟨b,off+i*1+j,none⟩).getD undef) (fun _=>rfl) (by omega) hm (fun cs hcs=> ?_) (fun i j cs q h1 h2=> ?_) (fun i j cs q h1 h2=> ?_)
    ·obtain⟨r,_,rfl⟩:=List.mem_map.1 hcs;rfl
    ·obtain⟨u,_,hu,ho⟩:=cell i j cs q h1 h2;rw[hu];exact⟨z38 (a:=⟨b,off+i*1+j,none⟩) hu,rfl,ho⟩
    ·obtain⟨u,rfl,hu,ho⟩:=cell i j cs q h1 h2;rw[hu];exact .v u
   rw[hL]at key;exact .pv key
end
end Go.Proofs.YtcpaleaajdilgaaGreatDoor
end

section
namespace Go.Proofs.YtcpaleaajdilgaaGreatDoor
open Go Go.RowKit Go.Mor Go.Sh
def rfR1(r:RawF):List PV:=[.v (.int .i64 r.n),.v (.int .i64 r.k),.v (.int .i64 r.o),.v (.bool r.ix)]
def rfR(l:List RawF):List (List PV):=l.map rfR1
def rawT(x:Raw):TV:=.agg [.pv (.v (.int .i64 x.n)),.pv (.sl 4 (rfR x.fs))]
structure RawOk(x:Raw):Prop where
 n:I64 x.n
 fs:∀r∈x.fs,I64 r.n∧I64 r.k∧I64 r.o
 len:x.fs.length≤9223372036854775807
theorem rfGet(l:List RawF)(k:Nat):(rfR l)[k]?=(l[k]?).map rfR1:=by unfold rfR;rw[List.getElem?_map]
theorem rfLen(l:List RawF):(rfR l).length=l.length:=by unfold rfR;rw[List.length_map]
theorem class_step(l:List RawF)(i:Nat)(r:RawF)(h:l[i]?=some r):(l.take (i+1)).foldl addF []=addF ((l.take i).foldl addF []) r:=by
 rw[List.take_add_one,h];simp only[Option.toList_some,List.foldl_append,List.foldl_cons,List.foldl_nil]
theorem class_len(l:List RawF)(i:Nat):((l.take i).foldl addF []).length≤i:=by
 induction i with
 |zero=>simp
 |succ i ih=>
  cases h:l[i]? with
  |none=>
   have h1:l.take (i+1)=l.take i:=by rw[List.take_add_one,h];simp
   rw[h1];omega
  |some r=>
   rw[class_step l i r h];generalize(l.take i).foldl addF []=acc at ih ⊢;unfold addF;split
   ·rw[List.length_append,List.length_singleton];omega
   ·omega
theorem nmF_at{i:Nat}(h:i<6):([[PV.v (.string ⟨#[97]⟩)],[.v (.string ⟨#[98,50]⟩)],[.v (.string ⟨#[110,97,109,101]⟩)],[.v (.string ⟨#[110,101,120,116,95,111,110,101]⟩)],[.v (.string ⟨#[107,105,100,115]⟩)],[.v (.string ⟨#[120]⟩)]]:List (List PV))[i]?=some [.v (.string (str (nmF (i:Int))))]:=by
 have:i=0∨i=1∨i=2∨i=3∨i=4∨i=5:=by omega
 rcases this with rfl|rfl|rfl|rfl|rfl|rfl<;>rfl
theorem nmC_at{i:Nat}(h:i<6):([[PV.v (.string ⟨#[110,111,100,101]⟩)],[.v (.string ⟨#[105,116,101,109]⟩)],[.v (.string ⟨#[117,115,101,114]⟩)],[.v (.string ⟨#[112,97,103,101,95,49]⟩)],[.v (.string ⟨#[108,101,97,102]⟩)],[.v (.string ⟨#[113]⟩)]]:List (List PV))[i]?=some [.v (.string (str (nmC (i:Int))))]:=by
 have:i=0∨i=1∨i=2∨i=3∨i=4∨i=5:=by omega
 rcases this with rfl|rfl|rfl|rfl|rfl|rfl<;>rfl
end Go.Proofs.YtcpaleaajdilgaaGreatDoor
end

section
namespace Go.Proofs.YtcpaleaajdilgaaGreatDoor.OpR
open Go.ChangeShapes Go.WideShapes Go.ChangeAt Go.RowKit Go.Lib Go.Mor Go.Deep Go.Joins
open Go.ChangeMaps (open_string shut_string)
theorem list_of{α:Type}{n:Nat}{Q:Nat→α→Prop}(h:∀i,i<n→∃r,Q i r):∃l:List α,l.length=n∧∀(i:Nat) r,l[i]?=some r→Q i r:=by
 induction n with
 |zero=>exact⟨[],rfl,by simp⟩
 |succ n ih=>
  obtain⟨l,hl,hq⟩:=ih fun i hi=>h i (by omega);obtain⟨r,hr⟩:=h n (by omega);refine⟨l++[r],by simp[hl],fun i x hx=> ?_⟩;rw[List.getElem?_append]at hx;split at hx
  ·exact hq i x hx
  ·rw[List.getElem?_singleton]at hx;split at hx
   ·injection hx with hx;subst hx
    obtain rfl:i=n:=by omega
    exact hr
   ·cases hx
section
variable{H:Type}{enc:TypeId×Value→H}{P:Program}{w:World}{base:Nat}{spare:Nat→Bool}{held:Bool}
theorem open_fields{t e:TypeId}{fs:Array Field}{fuel:Nat}{cs:List Value}{x:DataW H×List MemPlace}(ht:P.underlying t=some (.slice e))(he:P.underlying e=some (.struct fs))
  (hone:oneCellFields P fs=true) (hC:P.cellsOf e=fs.size) (h:DataW.trod enc P w base spare held fuel t cs=some x):
  (cs=[.slice none 0 0])∨
  ∃(a:Addr) (len cap:Nat),cs=[.slice (some a) len cap]∧len≤cap∧cap≤maxLen∧
   ∀i,i<len→∃n,∀(j:Nat) (f:Field),fs[j]?=some f→∃(v:Value) (y:DataW H×List MemPlace),w.cell? (a.add (i*fs.size+j))=some v∧DataW.trod enc P w base spare held n f.type [v]=some y:=by
 rcases open_slice ht h with h0|⟨a,len,cap,m,n,D,Pl,hcs,hb,hl,hm,hmm,hx,hi⟩
 ·exact .inl h0.1
 ·refine .inr ⟨a,len,cap,hcs,hl,hm,fun i him=> ?_⟩;obtain⟨cs',hc,ht'⟩:=hi i (by rw[hmm];split<;>omega);rw[hC]at hc;obtain⟨ys,n',hn',hy,hlen,hyl,hf⟩:=DataW.trod_struct he ht';obtain⟨_,hcl,hat⟩:=World.cells?_some hc;refine⟨n',fun j f hj=> ?_⟩;obtain⟨ho,hk⟩:=hone_of hone j f hj;have hjl:j<fs.size:=(gA hj).1;have hcell:=hat j hjl;have hv:cs'[j]?=some (cs'[j]'(by omega)):=gE (by omega);have h1:=hf j f hj;rw[ho,hk]at h1;have hone':(cs'.drop j).take 1=[cs'[j]'(by omega)]:=by
   rw[List.drop_eq_getElem_cons (by omega)];rfl
  rw[hone']at h1;have hys:ys[j]?=some (ys[j]'(by omega)):=gE (by omega);refine⟨_,_,?_,h1.trans hys⟩;rw[←Go.Deep.add_add,hcell,hv]
end
theorem add_form{a:Addr}{w:World}{k:Nat}{v:Value}(h0:w.cell? a=some v):a=⟨a.block,a.off,none⟩∧a.add k=⟨a.block,a.off+k,none⟩:=by
 have:=World.cell?_spot h0;obtain⟨b,off,spot⟩:=a;simp at this;subst this;exact⟨rfl,Go.WideShapes.add_plain ..⟩
end Go.Proofs.YtcpaleaajdilgaaGreatDoor.OpR
namespace Go.Proofs.YtcpaleaajdilgaaGreatDoor
open Go.ChangeShapes Go.WideShapes Go.ChangeAt Go.RowKit Go.Lib Go.Mor Go.Deep Go.Joins
open Go.Sh (RelT RelV TV PV SCalls Env MSim objB objR objX Low)
open Go.ChangeMaps (open_string shut_string)
open Go.Proofs.YtcpaleaajdilgaaGreatDoor.OpR
section
variable{H:Type}{enc:TypeId×Value→H}
theorem open_rfs{W:World}{base:Nat}{spare:Nat→Bool}{held:Bool}{fuel:Nat}{c:Value}{y:DataW H×List MemPlace}(h:DataW.trod enc Tryz.prog W base spare held fuel 22 [c]=some y):
  ∃l:List RawF,(∀r∈l,I64 r.n∧I64 r.k∧I64 r.o)∧l.length≤9223372036854775807∧RelV W (envAll W).K (.sl 4 (rfR l)) c:=by
 rcases open_fields Tryz.underlying22 Tryz.underlying95 (by kernel_rfl) (by kernel_rfl) h with h0|⟨a,len,cap,hcs,hl,hm,hi⟩
 ·obtain rfl:c=.slice none 0 0:=by simpa using h0
  exact⟨[],by simp,by simp,.sl 4 [] 0 0 0 none (fun _ _=>undef) (by simp) (by simp) (by simp) (by simp) (by simp) (by simp)⟩
 ·obtain rfl:c=.slice (some a) len cap:=by simpa using hcs
  have key:∀i,i<len→∃r:RawF,(I64 r.n∧I64 r.k∧I64 r.o)∧a=⟨a.block,a.off,none⟩∧W.cell? ⟨a.block,a.off+i*4,none⟩=some (.int .i64 r.n)∧W.cell? ⟨a.block,a.off+i*4+1,none⟩=some (.int .i64 r.k)
    ∧W.cell? ⟨a.block,a.off+i*4+2,none⟩=some (.int .i64 r.o)∧W.cell? ⟨a.block,a.off+i*4+3,none⟩=some (.bool r.ix):=by
   intro i hlt;obtain⟨n0,hf0⟩:=hi 0 (by omega);obtain⟨v,y,hc0,_⟩:=hf0 0 _ rfl;have ha:a=⟨a.block,a.off,none⟩:=(add_form (k:=0) (by simpa [Addr.add]using hc0)).1;have hadd:∀k,a.add k=⟨a.block,a.off+k,none⟩:=fun k=>(add_form (k:=k) (by simpa [Addr.add]using hc0)).2;obtain⟨n,hf⟩:=hi i hlt;obtain⟨v0,y0,c0,t0⟩:=hf 0 _ rfl;obtain⟨v1,y1,c1,t1⟩:=hf 1 _ rfl;obtain⟨v2,y2,c2,t2⟩:=hf 2 _ rfl;obtain⟨v3,y3,c3,t3⟩:=hf 3 _ rfl;obtain⟨z0,e0,_,w0⟩:=DataW.trod_int Tryz.underlying3 t0;obtain⟨z1,e1,_,w1⟩:=DataW.trod_int Tryz.underlying3 t1;obtain⟨z2,e2,_,w2⟩:=DataW.trod_int Tryz.underlying3 t2;obtain⟨z3,e3,_⟩:=DataW.trod_bool Tryz.underlying4 t3;simp at e0 e1 e2 e3;subst e0 e1 e2 e3;rw[hadd]at c0 c1 c2 c3;exact⟨⟨z0,z1,z2,z3⟩,⟨bounds_i64 w0,bounds_i64 w1,bounds_i64 w2⟩,ha,c0,c1,c2,c3⟩
  obtain⟨l,hlen,hq⟩:=list_of key;refine⟨l,fun r hr=> ?_,by unfold maxLen at hm;omega,?_⟩
  ·obtain⟨i,hi⟩:=List.getElem?_of_mem hr;exact(hq i r hi).1
  ·have hL:(rfR l).length=len:=by rw[rfLen,hlen]
   rw[←hL];have cell:∀(i j:Nat) cs q,(rfR l)[i]?=some cs→cs[j]?=some q→∃u,q=.v u∧W.cell? ⟨a.block,a.off+i*4+j,none⟩=some u∧Go.Sh.one u:=by
    intro i j cs q h1 h2;rw[rfGet,Option.map_eq_some_iff]at h1;obtain⟨r,hr,rfl⟩:=h1;obtain⟨_,_,c0,c1,c2,c3⟩:=hq i r hr
    match j with
    |0=>simp[rfR1]at h2;subst h2;exact⟨_,rfl,c0,rfl⟩
    |1=>simp[rfR1]at h2;subst h2;exact⟨_,rfl,c1,rfl⟩
    |2=>simp[rfR1]at h2;subst h2;exact⟨_,rfl,c2,rfl⟩
    |3=>simp[rfR1]at h2;subst h2;exact⟨_,rfl,c3,rfl⟩
    |j+4=>simp[rfR1]at h2
   refine .sl 4 (rfR l) a.block a.off cap (some a) (fun i j=>(W.cell? ⟨a.block,a.off+i*4+j,none⟩).getD undef) (fun hne=> ?_) (by omega) hm (fun cs hcs=> ?_) (fun i j cs q h1 h2=> ?_) (fun i j cs q h1 h2=> ?_)
   ·obtain⟨r,hr⟩:∃r,l[0]?=some r:=by
     cases l with
     |nil=>exact absurd rfl hne
     |cons r q=>exact⟨r,rfl⟩
    rw[(hq 0 r hr).2.1]
   ·obtain⟨r,_,rfl⟩:=List.mem_map.1 hcs;rfl
   ·obtain⟨u,_,hu,ho⟩:=cell i j cs q h1 h2;rw[hu];exact⟨z38 (a:=⟨a.block,a.off+i*4+j,none⟩) hu,rfl,ho⟩
   ·obtain⟨u,rfl,hu,ho⟩:=cell i j cs q h1 h2;rw[hu];exact .v u
theorem open_raw4{W:World}{b0 base:Nat}{spare:Nat→Bool}{held:Bool}{v:Value}{d:DataW H}{p:List MemPlace}(hok:Value.okWide Tryz.prog W .any b0 24 v)(h:DataW.Trod enc Tryz.prog W base spare held 24 v d p):
  ∃x:Raw,RawOk x∧∀r,RelT W (envAll W) r (rawT x) v:=by
 obtain⟨c0,c1,y0,y1,m,rfl,_,_,hy0,hy1⟩:=open_agg2 Tryz.underlying24 (by kernel_rfl) (by kernel_rfl) hok h;obtain⟨z0,e0,_,w0⟩:=DataW.trod_int Tryz.underlying3 hy0;obtain rfl:c0=_:=by simpa using e0
 obtain⟨l,hl,hlen,hr⟩:=open_rfs hy1;refine⟨⟨z0,l⟩,⟨bounds_i64 w0,hl,hlen⟩,fun r=> ?_⟩;unfold rawT;refine .agg _ [_,c1] rfl (fun j q u hq hu=> ?_) (fun u hu=> ?_)
 ·match j with
  |0=>simp at hq hu;subst hq;subst hu;exact .pv (.v _)
  |1=>simp at hq hu;subst hq;subst hu;exact .pv hr
  |j+2=>simp at hq
 ·simp at hu;rcases hu with rfl|rfl
  ·rfl
  ·cases hr;rfl
end
end Go.Proofs.YtcpaleaajdilgaaGreatDoor
end

section
namespace Go.Mor
open Go
section
open Go.RowKit
theorem checkGo_ok:∀(fs:List Fld) (vs:List V) (k:Nat),(∀(i:Nat) f v,fs[i]?=some f→vs[i]?=some v→fitsV v f.t=true)→z108 k fs vs=(0,0):=by
 intro fs
 induction fs with
 |nil=>grind [z108]
 |cons f r ih=>
  intro vs k h;cases vs with
  |nil=>simp[z108]
  |cons v q=>
   rw[z108,if_pos (h 0 f v rfl rfl)];exact ih q (k+1) fun i f v hf hv=>h (i+1) f v (by grind) (by grind)
theorem check_ok{c:Cls}{vs:List V}(hc:z19 c=true)(hl:vs.length=c.fs.length)(h:∀(i:Nat) f v,c.fs[i]?=some f→vs[i]?=some v→fitsV v f.t=true):check c vs=(0,0):=by
 simp only[check,hc,Bool.not_true,Bool.false_eq_true,if_false,hl,ne_eq,not_true_eq_false]
 grind [checkGo_ok]
theorem fits_mkVal(t:Ty)(n many:Int)(ht:z16 t=true)(hm:many≤100000):fitsV (mkVal t n many) t=true∧(mkVal t n many).s.length≤60∧∀y∈(mkVal t n many).l,y.s.length≤60:=by
 obtain⟨k,o⟩:=t;by_cases h5:k=5
 ·subst h5;have ho:1≤o∧o≤4:=by grind [z16]
  have hp:=z25 n 4 (by omega);have hall:∀y∈(List.range (pick n 4).toNat).map (fun i:Nat=>mkVal1 o (n.tdiv 4+(i:Int)) many),noItem y=false∧ofKind y o=true∧y.s.length≤60:=by
   grind [right1_of,noItem]
  have e:mkVal ⟨5,o⟩ n many=.mk 5 0 [] ((List.range (pick n 4).toNat).map (fun i:Nat=>mkVal1 o (n.tdiv 4+(i:Int)) many)):=if_pos rfl;rw[e];refine⟨?_,by simp[V.s],fun y hy=>(hall y hy).2.2⟩;simp only[fitsV,Bool.and_eq_true];refine⟨⟨⟨?_,ht⟩,by simp[ofKind,V.k]⟩,?_⟩
  ·simp only[rightV,V.k,V.n,V.s,V.l,if_true,Bool.and_eq_true,Bool.not_eq_true',List.any_eq_false]
   grind
  ·simp only[V.l,Bool.not_eq_true',List.any_eq_false]
   grind
 ·have hk:1≤k∧k≤4:=by simp[z16,h5]at ht;omega
  obtain⟨h1,h2,h3,h4,h6⟩:=right1_of k n many hk hm;have e:mkVal ⟨k,o⟩ n many=mkVal1 k n many:=if_neg h5;rw[e];refine⟨?_,h6,by rw[h2];intro y hy;cases hy⟩;simp only[fitsV,rightV,if_neg h4,h1,ht,h3,h2];simp
theorem fits_zero(t:Ty)(ht:z16 t=true):fitsV (zeroV t) t=true:=by
 obtain⟨k,o⟩:=t;by_cases h5:k=5
 ·subst h5;simp[zeroV,ht,fitsV,rightV,ofKind,V.k,V.n,V.s,V.l]
 ·have hk:(1≤k∧k≤4)∧o=0:=by simp[z16,h5]at ht;omega
  obtain⟨hk,rfl⟩:=hk;have:k=1∨k=2∨k=3∨k=4:=by omega
  rcases this with rfl|rfl|rfl|rfl<;>rfl
def other:zB:=[111,116,104,101,114]
end
structure Chg where
 k:Int
 f:zB
 n:zB
 m:zB
 t:Ty
 x:zB
 o:zB
def rdV(s:zB):V×Int×Int:=(parseV 1000 s).getD (V.nil,0,50)
structure Nd where
 f:Bool
 n:Bool
 m:Bool
 t:Bool
 x:Bool
 o:Bool
 ok:Bool
def needV(k:Int):Nd:=
 if k=1 then⟨false,true,false,true,true,false,true⟩
 else if k=2∨k=6 then⟨true,false,false,false,false,false,true⟩
 else if k=3 then⟨true,true,false,false,false,false,true⟩
 else if k=4 then⟨true,false,false,true,true,false,true⟩
 else if k=5 then⟨true,true,true,true,true,true,true⟩
 else⟨false,false,false,false,false,false,false⟩
def nameV(s:zB)(b:Bool):Bool:=if b then z11 s else s==[]
def formV(s:zB)(b:Bool):Bool:=if s==[] then true else if b then decide ((rdV s).2.2=0)else false
def wellV(h:Chg):Bool:=
 (needV h.k).ok&&nameV h.f (needV h.k).f&&nameV h.n (needV h.k).n&&nameV h.m (needV h.k).m&&(if(needV h.k).t then z16 h.t else eqTy h.t ty0)&&formV h.x (needV h.k).x&&formV h.o (needV h.k).o
inductive Tl where
 |no
 |zero
 |ev (e:V)
def tellV(c:Cls)(s:zB)(t:Ty):Tl:=
 if s=[] then .zero else if(rdV s).2.2≠0 then .no else if(typeA c (rdV s).1).2=0∧eqTy (typeA c (rdV s).1).1 t=true then .ev (rdV s).1 else .no
def Tl.is:Tl→Bool
 | .no=>false
 |_=>true
def Tl.val(c:Cls)(t:Ty)(vals:List V):Tl→V
 | .no=>V.nil
 | .zero=>zeroV t
 | .ev e=>(evalA c vals e).1
def hasV(fs:List Fld)(s:zB):Bool:= !decide (fieldAt fs s<0)
def freeV(fs:List Fld)(s but:zB):Bool:=decide (fieldAt fs s<0)||s==but
def atV(fs:List Fld)(s:zB):Nat:=(fieldAt fs s).toNat
def fld0:Fld:=⟨[],ty0,false⟩
def mayV(c:Cls)(h:Chg):Bool:=
 if h.k=1 then decide (c.fs.length<8)&&freeV c.fs h.n []&&(tellV c h.x h.t).is
 else if h.k=2 then hasV c.fs h.f
 else if h.k=3 then hasV c.fs h.f&&freeV c.fs h.n []
 else if h.k=4 then hasV c.fs h.f&&(tellV c h.x h.t).is
 else if h.k=5 then hasV c.fs h.f&&decide (c.fs.length<8)&& !(h.n==h.m)&&freeV c.fs h.n h.f&&freeV c.fs h.m h.f&&(tellV c h.x h.t).is&&(tellV c h.o h.t).is
 else hasV c.fs h.f&&decide ((c.fs.getD (atV c.fs h.f) fld0).t.k≤3)
def putL{α:Type}(l:List α)(i:Nat)(xs:List α):List α:=l.take i++xs++l.drop (i+1)
def z39(c:Cls)(h:Chg):List Fld:=
 let i:=atV c.fs h.f
 let f:=c.fs.getD i fld0
 if h.k=1 then c.fs++[⟨h.n,h.t,false⟩]
 else if h.k=2 then putL c.fs i []
 else if h.k=3 then putL c.fs i [⟨h.n,f.t,f.ix⟩]
 else if h.k=4 then putL c.fs i [⟨f.n,h.t,false⟩]
 else if h.k=5 then putL c.fs i [⟨h.n,h.t,false⟩,⟨h.m,h.t,false⟩]
 else putL c.fs i [⟨f.n,f.t, !f.ix⟩]
def valsV(c:Cls)(h:Chg)(vals:List V):List V:=
 let i:=atV c.fs h.f
 let a:=(tellV c h.x h.t).val c h.t vals
 let b:=(tellV c h.o h.t).val c h.t vals
 if h.k=1 then vals++[a]
 else if h.k=2 then putL vals i []
 else if h.k=4 then putL vals i [a]
 else if h.k=5 then putL vals i [a,b]
 else vals
def okV(c:Cls)(h:Chg):Bool:=z19 c&&wellV h&&mayV c h
def applyV(c:Cls)(h:Chg):Cls×Int:=if !z19 c then(⟨[],[]⟩,40)else if !okV c h then(⟨[],[]⟩,70)else(⟨c.n,z39 c h⟩,0)
def valsA(c:Cls)(h:Chg)(vals:List V):List V×Int:=if(check c vals).2≠0 then([],(check c vals).2)else if !okV c h then([],70)else(valsV c h vals,0)
def fldGo(fs:List Fld)(n:Nat)(t:Ty):Nat→Nat→Option (zB)
 |0,_=>none
 |k+1,i=>if eqTy (fs.getD ((n+i)%fs.length) fld0).t t then some (fs.getD ((n+i)%fs.length) fld0).n else fldGo fs n t k (i+1)
def fldH(c:Cls)(n:Int)(t:Ty):Option (zB):=fldGo c.fs (pick n 100).toNat t c.fs.length 0
def numX(a b:zB):List (zB):=[[],[51],a,a++[32,42,32,50,32,45,32,49],[108,101,110,40]++b++[41],[105,102,40]++a++[32,62,32,50,44,32]++a++[44,32,48,32,45,32]++a++[41],[102,105,110,100,40,34,98,34,44,32]++b++[41],a++[32,47,32]++a]
def txtX(a b:zB):List (zB):=[[],[34,120,34],b,b++[32,38,32,34,45,34,32,38,32]++b,[116,101,120,116,40]++a++[41],[108,101,102,116,40]++b++[44,32,50,41],[102,114,111,109,40]++b++[44,32,51,41],[105,102,40]++a++[32,61,32,49,44,32]++b++[44,32,34,110,111,34,41]]
def numH(c:Cls)(n:Int):zB:=(fldH c n ⟨1,0⟩).getD [55]
def txtH(c:Cls)(n:Int):zB:=(fldH c (n.tdiv 2) ⟨2,0⟩).getD [34,97,32,98,34]
def exprH(n:Int)(t:Ty)(c:Cls):zB:=
 if t.k=1 then(numX (numH c n) (txtH c n)).getD (pick n 8).toNat []
 else if t.k=2 then(txtX (numH c n) (txtH c n)).getD (pick n 8).toNat []
 else match fldH c n t with
  |some s=>if 0<pick n 3 then s else []
  |none=>[]
structure RawH where
 k:Int
 f:Int
 n:Int
 m:Int
 t:Ty
 x:Int
 o:Int
def nmH(i:Int):zB:=([[110,101,119,95,49],[109,111,114,101],[122,57],[97],[110,97,109,101],[107,105,100,115]]:List (zB)).getD i.toNat []
def tyH(t:Ty):Ty:=⟨1+pick t.k 5,if pick t.k 5=4 then 1+pick t.o 4 else 0⟩
def chgOf(x:RawH)(c:Cls):Chg:=
 let f:=if c.fs=[] then [] else(c.fs.getD (pick x.f c.fs.length).toNat fld0).n
 let k:=1+pick x.k 6
 let t:=tyH x.t
 let e:=exprH x.x t c
 if k=1 then⟨k,[],nmH (pick x.n 6),[],t,e,[]⟩
 else if k=3 then⟨k,f,nmH (pick x.n 6),[],ty0,[],[]⟩
 else if k=4 then⟨k,f,[],[],t,e,[]⟩
 else if k=5 then⟨k,f,nmH (pick x.n 6),nmH (pick x.m 6),t,e,exprH x.o t c⟩
 else⟨k,f,[],[],ty0,[],[]⟩
def nmL:List (zB):=[[97],[98,50],[110,97,109,101],[110,101,120,116,95,111,110,101],[107,105,100,115],[120]]
def numL:List (zB):=[55]::nmL
def txtL:List (zB):=[34,97,32,98,34]::nmL
def exA(a:zB):List (zB):=[a++[32,42,32,50,32,45,32,49],[105,102,40]++a++[32,62,32,50,44,32]++a++[44,32,48,32,45,32]++a++[41],a++[32,47,32]++a,[116,101,120,116,40]++a++[41]]
def exB(b:zB):List (zB):=[[108,101,110,40]++b++[41],[102,105,110,100,40,34,98,34,44,32]++b++[41],b++[32,38,32,34,45,34,32,38,32]++b,[108,101,102,116,40]++b++[44,32,50,41],[102,114,111,109,40]++b++[44,32,51,41]]
def exC(a b:zB):zB:=[105,102,40]++a++[32,61,32,49,44,32]++b++[44,32,34,110,111,34,41]
def exN:List (zB):=[55]::[34,97,32,98,34]::nmL++[[51],[34,120,34]]
def exL:List (zB):=exN++numL.flatMap exA++txtL.flatMap exB++numL.flatMap fun a=>txtL.map (exC a)
theorem exN_a{a:zB}(h:a∈numL):a∈exL:=by
 refine List.mem_append_left _ (List.mem_append_left _ (List.mem_append_left _ ?_))
 grind [exN,numL]
theorem exN_b{b:zB}(h:b∈txtL):b∈exL:=by
 refine List.mem_append_left _ (List.mem_append_left _ (List.mem_append_left _ ?_))
 grind [exN,txtL]
theorem exN_n{e:zB}(h:e∈exN):e∈exL:=List.mem_append_left _ (List.mem_append_left _ (List.mem_append_left _ h))
theorem exL_a{a e:zB}(h:a∈numL)(he:e∈exA a):e∈exL:=List.mem_append_left _ (List.mem_append_left _ (List.mem_append_right _ (List.mem_flatMap.2 ⟨a,h,he⟩)))
theorem exL_b{b e:zB}(h:b∈txtL)(he:e∈exB b):e∈exL:=List.mem_append_left _ (List.mem_append_right _ (List.mem_flatMap.2 ⟨b,h,he⟩))
theorem exL_c{a b:zB}(ha:a∈numL)(hb:b∈txtL):exC a b∈exL:=List.mem_append_right _ (List.mem_flatMap.2 ⟨a,ha,List.mem_map.2 ⟨b,hb,rfl⟩⟩)
theorem numX_ex{a b:zB}(ha:a∈numL)(hb:b∈txtL){e:zB}(he:e∈numX a b):e=[]∨e∈exL:=by
 unfold numX at he;simp only[List.mem_cons,List.not_mem_nil,or_false]at he;rcases he with rfl|rfl|rfl|rfl|rfl|rfl|rfl|rfl
 ·simp
 ·exact .inr (exN_n (by decide))
 ·grind [exN_a]
 ·grind [exL_a,exA]
 ·grind [exL_b,exB]
 ·grind [exL_a,exA]
 ·grind [exL_b,exB]
 ·grind [exL_a,exA]
theorem txtX_ex{a b:zB}(ha:a∈numL)(hb:b∈txtL){e:zB}(he:e∈txtX a b):e=[]∨e∈exL:=by
 unfold txtX at he;simp only[List.mem_cons,List.not_mem_nil,or_false]at he;rcases he with rfl|rfl|rfl|rfl|rfl|rfl|rfl|rfl
 ·simp
 ·exact .inr (exN_n (by decide))
 ·grind [exN_b]
 ·grind [exL_b,exB]
 ·exact .inr (exL_a ha (by simp[exA]))
 ·exact .inr (exL_b hb (by simp[exB]))
 ·exact .inr (exL_b hb (by simp[exB]))
 ·exact .inr (exL_c ha hb)
theorem fldGo_mem{fs:List Fld}(hne:fs≠[]){n:Nat}{t:Ty}:∀{k i:Nat} {s:zB},fldGo fs n t k i=some s→∃f∈fs,f.n=s∧eqTy f.t t=true
 |0,_,s,h=>by cases h
 |k+1,i,s,h=>by
  rw[fldGo]at h;split at h
  ·grind [Nat.mod_lt,List.length_pos_iff,List.getElem_mem,List.getElem?_eq_getElem]
  ·exact fldGo_mem hne h
theorem fldH_mem{c:Cls}{n:Int}{t:Ty}{s:zB}(h:fldH c n t=some s):∃f∈c.fs,f.n=s∧eqTy f.t t=true:=by
 unfold fldH at h;refine fldGo_mem (fun e=> ?_) h;rw[e]at h;cases h
theorem numH_mem{c:Cls}(hc:∀f∈c.fs,f.n∈nmL)(n:Int):numH c n∈numL:=by
 unfold numH;cases h:fldH c n ⟨1,0⟩ with
 |none=>exact List.mem_cons_self ..
 |some s=>
  obtain⟨f,hf,rfl,_⟩:=fldH_mem h;exact List.mem_cons_of_mem _ (hc f hf)
theorem txtH_mem{c:Cls}(hc:∀f∈c.fs,f.n∈nmL)(n:Int):txtH c n∈txtL:=by
 unfold txtH;cases h:fldH c (n.tdiv 2) ⟨2,0⟩ with
 |none=>exact List.mem_cons_self ..
 |some s=>
  obtain⟨f,hf,rfl,_⟩:=fldH_mem h;exact List.mem_cons_of_mem _ (hc f hf)
theorem exprH_mem{c:Cls}(hc:∀f∈c.fs,f.n∈nmL)(n:Int)(t:Ty):exprH n t c=[]∨exprH n t c∈exL:=by
 unfold exprH;split
 ·grind [numX,numH,txtH,pick,numX_ex,numH_mem,txtH_mem]
 split
 ·grind [txtX,numH,txtH,pick,txtX_ex,numH_mem,txtH_mem]
 cases h:fldH c n t with
 |none=>simp
 |some s=>
  obtain⟨f,hf,rfl,_⟩:=fldH_mem h
  dsimp only
  split
  ·exact .inr (exN_a (List.mem_cons_of_mem _ (hc f hf)))
  ·simp
end Go.Mor
end

section
namespace Go.Proofs.YtcpaleaajdilgaaGreatDoor
open Go Go.RowKit Go.Mor Go.Sh
structure RawHOk(r:RawH):Prop where
 k:I64 r.k
 f:I64 r.f
 n:I64 r.n
 m:I64 r.m
 tk:I64 r.t.k
 ot:I64 r.t.o
 x:I64 r.x
 o:I64 r.o
def rawHT(x:RawH):TV:=.agg [I x.k,I x.f,I x.n,I x.m,I x.t.k,I x.t.o,I x.x,I x.o]
end Go.Proofs.YtcpaleaajdilgaaGreatDoor
end

section
namespace Go.Proofs.YtcpaleaajdilgaaGreatDoor
open Go.ChangeShapes Go.WideShapes Go.ChangeAt Go.RowKit Go.Lib Go.Mor Go.Deep Go.Joins
open Go.Sh (RelT RelV TV PV SCalls Env MSim objB objR objX Low)
open Go.ChangeMaps (open_string shut_string)
section
variable{H:Type}{enc:TypeId×Value→H}
theorem lenH2{α:Type}{l:List α}(h:l.length=2):∃a b,l=[a,b]:=by
 match l,h with
 |[a,b],_=>exact⟨a,b,rfl⟩
theorem lenH7{α:Type}{l:List α}(h:l.length=7):∃a b c d e f g,l=[a,b,c,d,e,f,g]:=by
 match l,h with
 |[a,b,c,d,e,f,g],_=>exact⟨a,b,c,d,e,f,g,rfl⟩
theorem lenH8{α:Type}{l:List α}(h:l.length=8):∃a b c d e f g i,l=[a,b,c,d,e,f,g,i]:=by
 match l,h with
 |[a,b,c,d,e,f,g,i],_=>exact⟨a,b,c,d,e,f,g,i,rfl⟩
theorem open_tyH{W:World}{base:Nat}{spare:Nat→Bool}{held:Bool}{n:Nat}{cs:List Value}{y:DataW H×List MemPlace}(h:DataW.trod enc Tryz.prog W base spare held n 46 cs=some y):
  ∃t:Ty,cs=[.int .i64 t.k,.int .i64 t.o]∧I64 t.k∧I64 t.o:=by
 obtain⟨xs,n',rfl,_,hlen,hxl,hf⟩:=DataW.trod_struct Tryz.underlying46 h;obtain⟨c0,c1,rfl⟩:=lenH2 (hlen.trans (by kernel_rfl));obtain⟨x0,x1,rfl⟩:=lenH2 hxl;have k0:Tryz.prog.cellsOf 3=1:=by kernel_rfl
 have h0:DataW.trod enc Tryz.prog W base spare held n' 3 [c0]=some x0:=by have:=hf 0 _ rfl;simpa [k0]using this
 have h1:DataW.trod enc Tryz.prog W base spare held n' 3 [c1]=some x1:=by have:=hf 1 _ rfl;simpa [k0]using this
 obtain⟨z0,e0,_,w0⟩:=DataW.trod_int Tryz.underlying3 h0;obtain⟨z1,e1,_,w1⟩:=DataW.trod_int Tryz.underlying3 h1;simp at e0 e1;subst e0 e1;exact⟨⟨z0,z1⟩,rfl,bounds_i64 w0,bounds_i64 w1⟩
theorem open_rawH{W:World}{b0 base:Nat}{spare:Nat→Bool}{held:Bool}{v:Value}{d:DataW H}{p:List MemPlace}(hok:Value.okWide Tryz.prog W .any b0 48 v)(h:DataW.Trod enc Tryz.prog W base spare held 48 v d p):
  ∃x:RawH,RawHOk x∧∀r,RelT W (envAll W) r (rawHT x) v:=by
 obtain⟨cs,rfl,hsz⟩:=okWide_struct Tryz.underlying48 hok;obtain⟨cs⟩:=cs;obtain⟨c0,c1,c2,c3,c4,c5,c6,c7,rfl⟩:=lenH8 (show cs.length=8 from hsz.trans (by kernel_rfl));obtain⟨fuel,hf⟩:=h;obtain⟨xs,n',_,_,hlen,hxl,hf⟩:=DataW.trod_struct Tryz.underlying48 hf;obtain⟨x0,x1,x2,x3,x4,x5,x6,rfl⟩:=lenH7 hxl;have k0:Tryz.prog.cellsOf 3=1:=by kernel_rfl
 have k1:Tryz.prog.cellsOf 46=2:=by kernel_rfl
 have h0:DataW.trod enc Tryz.prog W base spare held n' 3 [c0]=some x0:=by have:=hf 0 _ rfl;simpa [k0,Value.cells]using this
 have h1:DataW.trod enc Tryz.prog W base spare held n' 3 [c1]=some x1:=by have:=hf 1 _ rfl;simpa [k0,Value.cells]using this
 have h2:DataW.trod enc Tryz.prog W base spare held n' 3 [c2]=some x2:=by have:=hf 2 _ rfl;simpa [k0,Value.cells]using this
 have h3:DataW.trod enc Tryz.prog W base spare held n' 3 [c3]=some x3:=by have:=hf 3 _ rfl;simpa [k0,Value.cells]using this
 have h4:DataW.trod enc Tryz.prog W base spare held n' 46 [c4,c5]=some x4:=by have:=hf 4 _ rfl;simpa [k1,Value.cells]using this
 have h5:DataW.trod enc Tryz.prog W base spare held n' 3 [c6]=some x5:=by have:=hf 5 _ rfl;simpa [k0,Value.cells]using this
 have h6:DataW.trod enc Tryz.prog W base spare held n' 3 [c7]=some x6:=by have:=hf 6 _ rfl;simpa [k0,Value.cells]using this
 obtain⟨z0,e0,_,w0⟩:=DataW.trod_int Tryz.underlying3 h0;obtain⟨z1,e1,_,w1⟩:=DataW.trod_int Tryz.underlying3 h1;obtain⟨z2,e2,_,w2⟩:=DataW.trod_int Tryz.underlying3 h2;obtain⟨z3,e3,_,w3⟩:=DataW.trod_int Tryz.underlying3 h3;obtain⟨t,e4,w4,w4'⟩:=open_tyH h4;obtain⟨z5,e5,_,w5⟩:=DataW.trod_int Tryz.underlying3 h5;obtain⟨z6,e6,_,w6⟩:=DataW.trod_int Tryz.underlying3 h6;simp at e0 e1 e2 e3 e4 e5 e6;obtain⟨rfl,rfl⟩:=e4;subst e0 e1 e2 e3 e5 e6;refine⟨⟨z0,z1,z2,z3,t,z5,z6⟩,⟨bounds_i64 w0,bounds_i64 w1,bounds_i64 w2,bounds_i64 w3,w4,w4',bounds_i64 w5,bounds_i64 w6⟩,fun r=> ?_⟩;unfold rawHT;refine .agg _ [_,_,_,_,_,_,_,_] rfl (fun j q u hq hu=> ?_) (fun u hu=> ?_)
 ·match j with
  |0=>simp at hq hu;subst hq;subst hu;exact .pv (.v _)
  |1=>simp at hq hu;subst hq;subst hu;exact .pv (.v _)
  |2=>simp at hq hu;subst hq;subst hu;exact .pv (.v _)
  |3=>simp at hq hu;subst hq;subst hu;exact .pv (.v _)
  |4=>simp at hq hu;subst hq;subst hu;exact .pv (.v _)
  |5=>simp at hq hu;subst hq;subst hu;exact .pv (.v _)
  |6=>simp at hq hu;subst hq;subst hu;exact .pv (.v _)
  |7=>simp at hq hu;subst hq;subst hu;exact .pv (.v _)
  |j+8=>simp at hq
 ·simp at hu;rcases hu with rfl|rfl|rfl|rfl|rfl|rfl|rfl|rfl<;>rfl
end
end Go.Proofs.YtcpaleaajdilgaaGreatDoor
end

section
namespace Go.Proofs.YtcpaleaajdilgaaGreatDoor
open Go Go.RowKit Go.Mor
section
open Go.Shelf
attribute [local go_sem] Oper.semAt_some
theorem groups1_in(F:Fence)(n:Nat)(h6:F.fn 181)(hro:F.round=none)(hn:1≤n)(l Bn:Nat)(x:Int)(hx0: -9223372036854775808≤x)(hx1:x≤9223372036854775807)(Kp:World→World→Prop)(J Jx:zB→World→Prop)
  (hY:∀pre (g:UInt8) W,J pre W→pre.length<10→YieldAt F (n-1) Tryz.prog l #[.int .u8 g.toNat] W fun e W'=>
   (e=.returned (.bool true)∧J (pre++[g]) W'∧Kp W W')∨(e=.returned (.bool false)∧Jx (pre++[g]) W'))
  (W:World) (hBn:W.cell? ⟨Bn,0,none⟩=some (.int .i64 x)) (h0:J [] W):
  CallsIn F n Tryz.prog 181 #[.func (.yield l) #[] #[],.pointer (some ⟨Bn,0,none⟩)] W fun e W'=>(∃v,e=.returned v)∧
   ((∃ys,ys=groups x∧J ys W')∨(∃pre,True∧Jx pre W')):=by
 refine callsIn_of_wp Tryz.func181 rfl h6 ?_ hro;simp only[Tryz.ntmps181,List.size_toArray,List.length_cons,List.length_nil,Nat.reduceAdd,Nat.reduceSub,Array.replicate_succ,Array.replicate_zero,List.push_toArray,List.append_toArray,List.nil_append,List.cons_append];obtain⟨fn,tmps,assign,body,hy,hR⟩:=hY [] (UInt8.ofNat (mag x%64*2+sgn x)) W h0 (by simp);by_cases hneg:x<0;all_goals
  first|rw[first_neg x hneg]at hy|rw[first_pos x hneg]at hy
  have HY:=Lib.hid hY;clear hY
  gi_wp2
  refine hR.mono ?_;clear hR hy;rintro e W1 (⟨rfl,hJ1,_⟩|⟨rfl,hx1⟩)
  ·gi_wp2
   gi_loopw [3] (fun p wr=>∃(pre:zB) (m f:Nat),p=.int .u64 m∧Hid (groups x=pre++tailN f m)∧Hid (m<128 ^ f)∧m<9223372036854775808∧Hid (pre.length+f=10)∧J pre wr)
    (fun p _=>(intOf p).toNat)
   case atStart=>
    have hml:=mag_lt x hx0 hx1;have hme:=mag_eq x;refine⟨[UInt8.ofNat (mag x%64*2+sgn x)],mag x / 64,9,?_,rfl,?_,by omega,rfl,hJ1⟩
    ·congr 1;split at hme<;>omega
    ·show _<9223372036854775808;omega
   case round=>
    obtain⟨pre,m,f,rfl,hg,hlt,hm,hl,hJs⟩:=hrel;by_cases hm0:m=0
    ·subst hm0
     gi_wp2
     go_end0
     exact⟨⟨_,rfl⟩,.inl ⟨pre,by rw[hg.out,tailN_zero];simp,hJs⟩⟩
    ·have hne:((m:Int)==0)=false:=by simpa using hm0
     have hne':((m:Int) !=0)=true:=by simpa using hm0
     cases f with
     |zero=>exact absurd hlt.out (by simp;omega)
     |succ f=>
     obtain⟨fn,tmps,assign,body,hy,hR⟩:=HY.out pre (UInt8.ofNat (m%128)) wr hJs (by have:=hl.out;omega);rw[next_byte]at hy
     gi_wp2
     refine hR.mono ?_;clear hR hy;rintro e W3 (⟨rfl,hJ3,_⟩|⟨rfl,hJx3⟩)
     ·gi_wp2
      go_roundw
      case rel=>
       refine⟨pre++[UInt8.ofNat (m%128)],m / 128,f,by simp,?_,?_,by omega,?_,hJ3⟩
       ·show _=_;rw[hg.out];simp[tailN,hm0]
       ·show _<_;have:=hlt.out;rw[Nat.pow_succ]at this;exact Nat.div_lt_of_lt_mul (by rw[Nat.mul_comm];exact this)
       ·show _=_;have:=hl.out;simp;omega
      case measure=>simp[intOf];omega
     ·gi_wp2
      refine bodyPost_ret (results_none rfl _ _ _) rfl ?_;exact⟨⟨_,rfl⟩,.inr ⟨_,trivial,hJx3⟩⟩
  ·gi_wp2
   refine bodyPost_ret (results_none rfl _ _ _) rfl ?_;exact⟨⟨_,rfl⟩,.inr ⟨_,trivial,hx1⟩⟩
theorem groups_in(F:Fence)(n:Nat)(h5:F.fn 123)(hro:F.round=none)(x:Int)(w:World):
  CallsIn F n Tryz.prog 123 #[.int .i64 x] w fun e w'=>e=.returned (.func (.func 181) #[] #[.pointer (some ⟨w.heap.size,0,none⟩)])∧w'=w.alloc (.cells #[.int .i64 x] 3):=by
 refine callsIn_of_wp Tryz.func123 rfl h5 ?_ hro;simp only[Tryz.ntmps123,List.size_toArray,List.length_cons,List.length_nil,Nat.reduceAdd,Nat.reduceSub,Array.replicate_succ,Array.replicate_zero,List.push_toArray,List.append_toArray,List.nil_append,List.cons_append]
 gi_wp2
 go_ret
 exact⟨rfl,rfl⟩
theorem groups_stops(F:Fence)(n:Nat)(Kp:World→World→Prop)(h6:F.fn 181)(hro:F.round=none)(hn:1≤n)(Bn:Nat)(x:Int)(hx0: -9223372036854775808≤x)(hx1:x≤9223372036854775807)(w:World)(hBn:Bn<w.heap.size)
  (hc:w.cell? ⟨Bn,0,none⟩=some (.int .i64 x)):
  SeqStopsK F n Tryz.prog 181 #[.pointer (some ⟨Bn,0,none⟩)] (fun g:UInt8=> #[Value.int .u8 g.toNat]) Kp (fun ys=>ys=groups x) (fun _=>True) 10 w:=fun l J Jx W hW _ _ hY h0=>
 groups1_in F n h6 hro hn l Bn x hx0 hx1 Kp J Jx hY W ((hW.cell (p:=⟨Bn,0,none⟩) hBn).trans hc) h0
attribute [local go_sem] Oper.semAt_some
def u8(b:UInt8):Value:=.int .u8 b.toNat
theorem conv_row{P:Program}{W:World}{base src dst e:Nat}{v:Value}{l:zB}(hs:P.underlying src=some (.slice e))(he:P.underlying e=some (.int .u8))(hd:P.underlying dst=some .string)
  (h:W.ownsRow base e 1 v l.length (l.map u8)):(convert src dst v).run P W=.ok (.string (str l)) W:=by
 have h':=h;rcases h.2 with⟨rfl,h0⟩|⟨g,cap,cur,rfl,_,_,_⟩
 ·obtain rfl:l=[]:=List.eq_nil_of_length_eq_zero h0;exact run_convert_bytes_nil W src e hs he 0 0 dst hd
 ·refine run_convert_bytes_back W src dst e ⟨g,0,none⟩ cap l hs he hd (fun j hj=> ?_);exact h'.cells (g:=g) rfl j _ (by simp[u8,gE hj])
theorem infoU8:(Tryz.prog.info? 5).map (fun i=>(i.zero,i.size,i.bytes))=some (some (.int .u8 0),1,1):=by kernel_rfl
theorem make10(w:World):(Instr.makeSlice 98 (.int .i64 0) (.int .i64 10)).run Tryz.prog w=.ok (.slice (some ⟨w.heap.size,0,none⟩) 0 10) (w.alloc (.cells (Array.replicate 10 (.int .u8 0)) 5)):=by kernel_rfl
theorem Num_in(F:Fence)(n:Nat)(h3:F.fn 64)(h4:F.fn 123)(h5:F.fn 181)(hro:F.round=none)(hn:3≤n)(x:Int)(hx0: -9223372036854775808≤x)(hx1:x≤9223372036854775807)(w:World):
  CallsIn F n Tryz.prog 64 #[.int .i64 x] w fun e W'=>e=.returned (.string (str (num x)))∧Below w.heap.size w W':=by
 have h1:1≤n:=by omega
 obtain⟨i0,hi,hz0,hz1,hz2⟩:=info_parts infoU8;have hmk:=make10;refine callsIn_of_wp_marks Tryz.func64 rfl h3 ?_ hro;simp only[Tryz.ntmps64,List.size_toArray,List.length_cons,List.length_nil,Nat.reduceAdd,Nat.reduceSub,Array.replicate_succ,Array.replicate_zero,List.push_toArray,List.append_toArray,List.nil_append,List.cons_append]
 gi_wp2_with (gi_at_call 123;refine(groups_in F (n-1) h4 hro _ _).mono ?_;rintro e w' ⟨rfl,rfl⟩)
 have bL0:=Boxed.new (w.alloc (.cells (Array.replicate 10 (.int .u8 0)) 5)) 98 (.slice (some ⟨w.heap.size,0,none⟩) 0 10);rw[World.size_alloc]at bL0;have bL:=bL0.alloc (.cells #[.int .i64 x] 3);have bN:=Boxed.new ((w.alloc (.cells (Array.replicate 10 (.int .u8 0)) 5)).alloc (.cells #[.slice (some ⟨w.heap.size,0,none⟩) 0 10] 98)) 3 (.int .i64 x);rw[World.size_alloc,World.size_alloc]at bN;have hB0:Below w.heap.size w (((w.alloc (.cells (Array.replicate 10 (.int .u8 0)) 5)).alloc (.cells #[.slice (some ⟨w.heap.size,0,none⟩) 0 10] 98)).alloc (.cells #[.int .i64 x] 3)):=
  (((Below.refl _ w).alloc (Nat.le_refl _) _).alloc (by simp) _).alloc (by simp;omega) _
 have hrow0:(((w.alloc (.cells (Array.replicate 10 (.int .u8 0)) 5)).alloc (.cells #[.slice (some ⟨w.heap.size,0,none⟩) 0 10] 98)).alloc (.cells #[.int .i64 x] 3)).ownsRow w.heap.size 5 1 (.slice (some ⟨w.heap.size,0,none⟩) 0 10) 0 []:=
  ((World.ownsRow_made w (Array.replicate 10 (.int .u8 0)) 10 (Nat.le_refl _) (by decide) (by simp)).alloc _).alloc _
 refine wpIn_rangeFunc_ownG hro h1 (gf:=181) (lb:= #[.pointer (some ⟨w.heap.size+1+1,0,none⟩)]) rfl h5 (enters_of Tryz.func181 (by kernel_rfl) rfl)
  (groups_stops F (n-1) (Below w.heap.size) h5 hro (by omega) (w.heap.size+1+1) x hx0 hx1 _ (by simp) bN.cell) belowK_t (belowK_b (by simp;omega)) (Below.refl _ _) (fun _=>rfl)
  (fun pre W=>(∃v,Boxed W (w.heap.size+1) 98 v∧W.ownsRow w.heap.size 5 1 v (pack pre).length ((pack pre).map u8)∧v≠ .slice none 0 0)∧Below w.heap.size w W)
  (fun _ _ _=>False)
  (OwnFrom.and (Own.from (holdsRow_own w.heap.size (w.heap.size+1) 98 5 1 (fun pre=>(pack pre).length) (fun pre=>(pack pre).map u8) (fun _ v=>v≠ .slice none 0 0)) _) (ownFrom_below (Nat.le_refl _) (by simp;omega)))
  (fun _ _ _ _ _ hs _ _=>hs)
  ⟨⟨_,bL,hrow0,by simp⟩,hB0⟩
  (fun g=>{ tmps:= #[.int .i64 x,undef,.string ⟨#[]⟩,.pointer (some ⟨w.heap.size+1,0,none⟩),.int .u8 g.toNat,undef,.slice (some ⟨w.heap.size,0,none⟩) 0 10,.int .i64 x,.func (.func 181) #[] #[.pointer (some ⟨w.heap.size+1+1,0,none⟩)],.int .u8 g.toNat,undef,undef,undef,undef,undef,undef,undef,undef,undef,undef,undef,undef,undef,undef,undef,undef,undef],defers:=[] }) ?assign ?body ?done ?stop
 case assign=>
  intro l x W K hK
  gi_wp2
  exact hK
 case body=>
  rintro l pre g W ⟨⟨v,hv,hrow,hnil⟩,hB⟩ hlt;have hc:=hv.cell;have hpl:(pack pre).length=pre.length:=z166 pre;obtain⟨P0,hP0⟩:∃P0,pack pre=P0:=⟨_,rfl⟩
  have HP:=Lib.hid hP0;rw[hP0]at hrow hpl;clear hP0;rcases hrow.2 with⟨rfl,_⟩|⟨gg,cap,cur,rfl,_,_,hcap,hcap2,_⟩
  ·exact absurd rfl hnil
  have hk:P0.length≤10:=by omega
  clear hpl hmk hx0 hx1 hlt;by_cases hl:P0=[]
  ·subst hl;simp only[List.length_nil,List.map_nil]at hrow
   gi_wp2_with (gi_at_builtin;refine wpListIn_append_own _ rfl _ _ 98 rfl w.heap.size 5 i0 (.int .u8 0) 1 1 Tryz.underlying98 hi hz0 hz1 hz2 rfl (by decide) _ _ _ rfl (hrow.alloc _) ⟨W.heap.size,0,none⟩ 1 1 [.int .u8 g.toNat] rfl rfl (cell_one_new _ _ _) (by simp[Value.oneCell']) (by decide) (by omega) (by have:=hB.size;simp;omega) ?_;intro v' w1 hown' hgrow _;obtain⟨g',cap',rfl⟩:=ownsRow_succ hown';obtain⟨hv1,hv2,hr2,hk2,hb2⟩:=hv.appended (by decide) hrow hB.size (by omega) hown' hgrow;have hc1:=hv1.cell;have hf1:=hv1.frozen)
   exact⟨hk2.from _,hb2,⟨_,hv2,by rw[pack_snoc,HP.out,bump_nil];exact hr2,by simp⟩,hB.trans hb2⟩
  ·obtain⟨Q,b,rfl⟩:=snoc_of P0 hl;have hcell:=hrow.cellAt Q.length (by simp);have hfz:=hrow.frozenAt Q.length;have hst:=hrow.stored Q.length (.int .u8 (((b.toNat:Int)+128)%256));have hle:w.heap.size≤gg:=by rcases hrow.2 with⟨h,_⟩|⟨g2,c2,cur2,h,hb2,_⟩;cases h;cases h;exact hb2
   have hne:=hv.not_row (by decide) hrow;simp only[List.length_append,List.length_cons,List.length_nil,Nat.zero_add,List.map_append,List.map_cons,List.map_nil]at hrow hcell hst hcap hk hv hc hne ⊢;rw[List.set_append_right _ _ (by simp)]at hst;simp only[List.length_map,Nat.sub_self,List.set_cons_zero]at hst;simp[u8]at hcell;obtain⟨hst1,hst2⟩:=hst;have hst3:=Lib.hid hst1;have hv':=hv.kept hst2 (by simpa [Value.ownBlock]using hne);have hcW:=hv'.cell;have hKO:KeepsOthers W (W.setCell ⟨gg,Q.length,none⟩ (.int .u8 (((b.toNat:Int)+128)%256))):=KeepsOthers.setCell _ _ _;have hBW:=(Below.refl w.heap.size W).setCell (p:=⟨gg,Q.length,none⟩) hle (.int .u8 (((b.toNat:Int)+128)%256));clear hst1 hst2 hrow hne hcap hcap2
   gi_wp2_with (gi_at_builtin;go_must (refine wpListIn_append_own _ rfl _ _ 98 rfl w.heap.size 5 i0 (.int .u8 0) 1 1 Tryz.underlying98 hi hz0 hz1 hz2 rfl (by decide) _ _ _ rfl (hst3.out.alloc _) ⟨W.heap.size,0,none⟩ 1 1 [.int .u8 g.toNat] rfl rfl (by have:=cell_one_new (W.setCell ⟨gg,Q.length,none⟩ (.int .u8 (((b.toNat:Int)+128)%256))) (.int .u8 g.toNat) 5;rwa [World.size_setCell]at this) (by simp[Value.oneCell']) (by unfold maxLen;omega) (by omega) (by have:=hB.size;simp;omega) ?_;intro v' w1 hown' hgrow _;obtain⟨g',cap',rfl⟩:=ownsRow_succ hown';obtain⟨hv1,hv2,hr2,hk2,hb2⟩:=hv'.appended (by decide) hst3.out (by have:=hB.size;simp;omega) (by omega) hown' hgrow;have hc1:=hv1.cell;have hf1:=hv1.frozen))
   exact⟨(hKO.trans hk2).from _,hBW.trans hb2,⟨_,hv2,by rw[pack_snoc,HP.out,bump_snoc];simpa [u8,add128]using hr2,by simp⟩,hB.trans (hBW.trans hb2)⟩
 case done=>
  rintro D ys W hD rfl ⟨⟨v,hv,hrow,hnil⟩,hB⟩ hK;have hc:=hv.cell;have hcv:=conv_row (P:=Tryz.prog) Tryz.underlying98 Tryz.underlying5 Tryz.underlying9 hrow
  gi_wp2
  refine⟨by simp,.inl ⟨_,_,rfl,run_takeDeferred hK,?_⟩⟩;exact⟨_,results_tmp rfl _ _ _,rfl,hB.trans (belowK_b (w:=w) (Nat.le_refl _) W D _ _ (by simp at hD;omega) hK rfl rfl)⟩
 case stop=>
  rintro D c pre W _ _ h _;exact h.elim
theorem Num_any(x:Int)(hx0: -9223372036854775808≤x)(hx1:x≤9223372036854775807)(w:World):
  Calls Tryz.prog 64 #[.int .i64 x] w fun e W'=>e=.returned (.string (str (num x)))∧Below w.heap.size w W':=
 (callsIn_wide (n:=3)).1 (Num_in Fence.wide 3 trivial trivial trivial rfl (by omega) x hx0 hx1 w)
end
section
open Go.Stop Go.Extern
structure Glob(w:World)(a0 a1:Addr):Prop extends GlobU w where
 e0:w.cell? ⟨2,0,none⟩=some (.iface 352 (.pointer (some a0)))
 e1:w.cell? ⟨3,0,none⟩=some (.iface 352 (.pointer (some a1)))
 ne:a0≠a1
 b0:∃ca ta,w.heap[a0.block]?=some (.cells ca ta (0,0))
 b1:∃ca ta,w.heap[a1.block]?=some (.cells ca ta (0,0))
theorem z89{w:World}{b:Nat}{o:Obj}(h:w.heap[b]?=some o):b<w.heap.size:=(gA h).1
theorem Glob.ext{w w':World}{a0 a1:Addr}(h:Glob w a0 a1)(hb:Below w.heap.size w w'):Glob w' a0 a1 where
 toGlobU:=h.toGlobU.ext hb
 e0:=(hb.cell (z38 h.e0)).trans h.e0
 e1:=(hb.cell (z38 h.e1)).trans h.e1
 ne:=h.ne
 b0:=by obtain⟨ca,ta,h0⟩:=h.b0;exact⟨ca,ta,(hb.block _ (z89 h0)).trans h0⟩
 b1:=by obtain⟨ca,ta,h0⟩:=h.b1;exact⟨ca,ta,(hb.block _ (z89 h0)).trans h0⟩
theorem isTypeOf(v:Value)(w:World):(callFunc 278 #[.iface 352 v]).run Tryz.prog w=.ok (.value (.iface 334 (.agg #[.pointer (some ⟨10,352,none⟩)]))) w:=by kernel_rfl
theorem isComparable(w:World):(callFunc 346 #[.agg #[.pointer (some ⟨10,352,none⟩)]]).run Tryz.prog w=.ok (.value (.bool true)) w:=by kernel_rfl
theorem isComp:(Tryz.prog.info? 352).map (·.comparable)=some true:=by kernel_rfl
theorem isSize:(Tryz.prog.info? 354).map (·.size)=some 1:=by kernel_rfl
theorem noIsE(v:Value)(xT:TypeId)(w:World):(Instr.typeAssert (.iface 352 v) xT 336 true).run Tryz.prog w=.ok (.tuple #[.nilIface,.bool false]) w:=run_typeAssert_lacksB Tryz.underlying336 (by kernel_rfl) (by kernel_rfl) v xT w
theorem noUnwrapE(v:Value)(xT:TypeId)(w:World):(Instr.typeAssert (.iface 352 v) xT 338 true).run Tryz.prog w=.ok (.tuple #[.nilIface,.bool false]) w:=run_typeAssert_lacksB Tryz.underlying338 (by kernel_rfl) (by kernel_rfl) v xT w
theorem noUnwrapsE(v:Value)(xT:TypeId)(w:World):(Instr.typeAssert (.iface 352 v) xT 340 true).run Tryz.prog w=.ok (.tuple #[.nilIface,.bool false]) w:=run_typeAssert_lacksB Tryz.underlying340 (by kernel_rfl) (by kernel_rfl) v xT w
theorem is_same(a:Addr)(w:World):
  Calls Tryz.prog 238 #[.iface 352 (.pointer (some a)),.iface 352 (.pointer (some a))] w fun e w'=>e=.returned (.bool true)∧w=w':=by
 obtain⟨i,hi,hcmp⟩:=gO isComp;obtain⟨j,hj,hjs⟩:=gO isSize;have tT:=isTypeOf;have cT:=isComparable;have heq:=run_eql_iface_ptr_same (P:=Tryz.prog) w a Tryz.underlying242 Tryz.underlying352 hi hcmp hj
 go_enter Tryz.func238,Tryz.ntmps238
 go_wp2
 refine wp_loop_rounds 1 ?_;rw[rounds_succ]
 go_wp2
 go_ret
 exact⟨rfl,rfl⟩
theorem is_nil(b:Addr)(w:World):
  Calls Tryz.prog 238 #[.nilIface,.iface 352 (.pointer (some b))] w fun e w'=>e=.returned (.bool false)∧w=w':=by
 have hn:=run_eql_iface_nil_left (P:=Tryz.prog) w 352 (.pointer (some b)) Tryz.underlying242
 go_enter Tryz.func238,Tryz.ntmps238
 go_wp2
 go_ret
 exact⟨rfl,rfl⟩
theorem is_other(a b:Addr)(ca cb:Array Value)(ta tb:TypeId)(w:World)(hne:a≠b)(ha:w.heap[a.block]?=some (.cells ca ta (0,0)))(hb:w.heap[b.block]?=some (.cells cb tb (0,0))):
  Calls Tryz.prog 238 #[.iface 352 (.pointer (some a)),.iface 352 (.pointer (some b))] w fun e w'=>e=.returned (.bool false)∧w=w':=by
 obtain⟨i,hi,hcmp⟩:=gO isComp;obtain⟨j,hj,hjs⟩:=gO isSize;have tT:=isTypeOf;have cT:=isComparable;have nE:=noIsE;have uE:=noUnwrapE;have vE:=noUnwrapsE;have heq:=run_eql_iface_ptr_other (P:=Tryz.prog) w Tryz.underlying242 Tryz.underlying352 hi hcmp hj (by rw[hjs];decide) hne ha hb
 go_enter Tryz.func238,Tryz.ntmps238
 go_wp2
 refine wp_loop_rounds 1 ?_;rw[rounds_succ]
 go_wp2
 go_ret
 exact⟨rfl,rfl⟩
theorem wrong_nil(w:World)(a0 a1:Addr)(hG:Glob w a0 a1):
  Calls Tryz.prog 183 #[.nilIface] w fun e w'=>e=.returned (.bool false)∧w=w':=by
 have e0:=hG.e0;have e1:=hG.e1;clear hG
 go_enter Tryz.func183,Tryz.ntmps183
 go_wp2_with fail
 refine(is_nil _ _).mono ?_;rintro e w' ⟨rfl,rfl⟩
 go_wp2_with fail
 refine(is_nil _ _).mono ?_;rintro e w' ⟨rfl,rfl⟩
 go_wp2_with fail
 go_ret
 exact⟨rfl,rfl⟩
theorem wrong_end(w:World)(a0 a1:Addr)(hG:Glob w a0 a1):
  Calls Tryz.prog 183 #[.iface 352 (.pointer (some a0))] w fun e w'=>e=.returned (.bool true)∧w=w':=by
 have e0:=hG.e0;have e1:=hG.e1;clear hG
 go_enter Tryz.func183,Tryz.ntmps183
 go_wp2_with fail
 refine(is_same _ _).mono ?_;rintro e w' ⟨rfl,rfl⟩
 go_wp2_with fail
 go_ret
 exact⟨rfl,rfl⟩
theorem wrong_form(w:World)(a0 a1:Addr)(hG:Glob w a0 a1):
  Calls Tryz.prog 183 #[.iface 352 (.pointer (some a1))] w fun e w'=>e=.returned (.bool true)∧w=w':=by
 have e0:=hG.e0;have e1:=hG.e1;obtain⟨c0,t0,h0⟩:=hG.b0;obtain⟨c1,t1,h1⟩:=hG.b1;have H:=Lib.hid (is_other a1 a0 c1 c0 t1 t0 w hG.ne.symm h1 h0);clear hG h0 h1
 go_enter Tryz.func183,Tryz.ntmps183
 go_wp2_with fail
 refine H.out.mono ?_;rintro e w' ⟨rfl,rfl⟩
 go_wp2_with fail
 refine(is_same _ _).mono ?_;rintro e w' ⟨rfl,rfl⟩
 go_wp2_with fail
 go_ret
 exact⟨rfl,rfl⟩
end
section
open Go.Shelf
attribute [local go_sem] Oper.semAt_some
theorem bretw{a b:Bool}(h:a=b):Ending.returned (.bool a)=.returned (.bool b):=by rw[h]
def Keep2(Ba Bt:Nat)(W W':World):Prop:=W'.heap[Ba]?=W.heap[Ba]?∧W'.heap[Bt]?=W.heap[Bt]?
theorem from1_in(n:Nat)(l Ba Bt:Nat)(s:zB)(a:Nat)(ha:a≤s.length)(hs:s.length<1125899906842624)(J Jx:List (Mor.Ix×UInt8)→World→Prop)
    (hY:∀pre (g:Mor.Ix×UInt8) W,J pre W→pre.length<s.length→YieldAt Fence.wide (n-1) Tryz.prog l #[.int .i64 g.1.val,.int .u8 g.2.toNat] W fun e W'=>
      (e=.returned (.bool true)∧J (pre++[g]) W'∧Keep2 Ba Bt W W')∨(e=.returned (.bool false)∧Jx (pre++[g]) W'))
    (W:World) (hBa:W.cell? ⟨Ba,0,none⟩=some (.int .i64 a)) (hBt:W.cell? ⟨Bt,0,none⟩=some (.string (str s))) (hJd:∀pre W,J pre W→J pre W.drew) (h0:J [] W):
    CallsIn Fence.wide n Tryz.prog 277 #[.func (.yield l) #[] #[],.pointer (some ⟨Ba,0,none⟩),.pointer (some ⟨Bt,0,none⟩)] W fun e W'=>(∃v,e=.returned v)∧
      ((∃ys,ys=pairs s a∧J ys W')∨(∃pre,pre<+:pairs s a∧Jx pre W')):=by
  refine callsIn_of_wp Tryz.func277 rfl trivial ?_ rfl
  simp only[Tryz.ntmps277,List.size_toArray,List.length_cons,List.length_nil,Nat.reduceAdd,Nat.reduceSub,Array.replicate_succ,Array.replicate_zero,List.push_toArray,List.append_toArray,List.nil_append,List.cons_append]
  have HY:=Lib.hid hY
  have HJ:=Lib.hid hJd
  clear hY hJd
  gi_wp2
  gi_loopw [4] (fun p wr => ∃ (k : Nat), p = .int .i64 ((a : Int) + k) ∧ a + k ≤ s.length ∧ J ((pairs s a).take k) wr ∧ wr.cell? ⟨Ba, 0, none⟩ = some (.int .i64 a) ∧ wr.cell? ⟨Bt, 0, none⟩ = some (.string (str s)))
        (fun p _=>s.length-(intOf p).toNat)
  case atStart=>exact⟨0,by simp,by omega,by simpa using h0,hBa,hBt⟩
  case round=>
    obtain⟨k,rfl,hk,hJs,hBa,hBt⟩:=hrel
    by_cases hlt2:a+k<s.length
    · obtain⟨fn,tmps,assign,body,hy,hR⟩:=HY.out ((pairs s a).take k) (Fin.ofNat _ k,s[a+k]) wr.drew (HJ.out _ _ hJs) (by rw[List.length_take,z162];omega)
      have hfin:((Fin.ofNat 1125899906842624 k).val:Int)=k:=by simp[Fin.ofNat];omega
      rw[hfin]at hy
      clear hfin
      have hR':RoundIn Fence.wide (n-1) Tryz.prog l fn tmps assign body wr.drew fun e W'=>∃t,e=.returned (.bool t)∧Hid ((t=true→J ((pairs s a).take k++[(Fin.ofNat _ k,s[a+k])]) W'∧Keep2 Ba Bt wr.drew W')∧(t=false→Jx ((pairs s a).take k++[(Fin.ofNat _ k,s[a+k])]) W')):=by
        refine hR.mono ?_
        rintro e W' (⟨rfl,h1,h2⟩|⟨rfl,h1⟩)
        · exact⟨true,rfl,fun _=>⟨h1,h2⟩,fun h=>by cases h⟩
        · exact⟨false,rfl,fun h=>(by cases h),fun _=>h1⟩
      have HR:=Lib.hid hR'
      clear hR hR'
      have hmix:Tryz.prog.follows .mixedOrders=true:=by kernel_rfl
      gi_wp2_with fail
      have hw1:IntKind.i64.wrap ((a:Int)+k-a)=k:=by rw[IntWalk.i64_in _ (by omega)];omega
      have hw2:(0:Int)≤(a:Int)+k:=by omega
      have hw3:(a:Int)+k<s.length:=by omega
      have hw4:((a:Int)+k).toNat=a+k:=by omega
      refine z104 open_wide 7 hmix (by kernel_rfl) ?_
      simp only[List.take_succ_cons,List.take_zero,List.drop_succ_cons,List.drop_zero]
      repeat still_step
      refine wpStill_nil ?_
      clear hw1
      gi_wp2
      refine⟨fun h=>(by cases h),HR.out.mono ?_⟩
      rintro e W3 ⟨t,rfl,ht⟩
      cases t
      · gi_wp2
        refine bodyPost_ret (results_none rfl _ _ _) rfl ?_
        refine⟨⟨_,rfl⟩,.inr ⟨_,?_,ht.2 (by simp)⟩⟩
        rw[←pairs_take s a k hlt2]
        exact List.take_prefix _ _
      · obtain⟨hJ3,hB3⟩:=ht.1 (by simp)
        have hBa3:=(World.cell?_of_block (w:=wr) (a:=⟨Ba,0,none⟩) hB3.1).trans hBa
        have hBt3:=(World.cell?_of_block (w:=wr) (a:=⟨Bt,0,none⟩) hB3.2).trans hBt
        gi_wp2
        go_roundw
        case rel=>exact⟨k+1,by go_num,by omega,by rw[pairs_take s a k hlt2];exact hJ3,hBa3,hBt3⟩
        case measure=>simp[intOf];omega
    · gi_wp2
      go_end0
      exact⟨⟨_,rfl⟩,.inl ⟨_,(List.take_of_length_le (by rw[z162];omega)),hJs⟩⟩
theorem from_in(n:Nat)(s:zB)(a:Int)(w:World):
  CallsIn Fence.wide n Tryz.prog 237 #[.string (str s),.int .i64 a] w fun e w'=>e=.returned (.func (.func 277) #[] #[.pointer (some ⟨w.heap.size+1,0,none⟩),.pointer (some ⟨w.heap.size,0,none⟩)])∧w'=(w.alloc (.cells #[.string (str s)] 248)).alloc (.cells #[.int .i64 a] 3):=by
 refine callsIn_of_wp Tryz.func237 rfl trivial ?_ rfl;simp only[Tryz.ntmps237,List.size_toArray,List.length_cons,List.length_nil,Nat.reduceAdd,Nat.reduceSub,Array.replicate_succ,Array.replicate_zero,List.push_toArray,List.append_toArray,List.nil_append,List.cons_append]
 gi_wp2
 go_ret
 exact⟨rfl,rfl⟩
theorem has_any(s:zB)(a m:Int)(w:World)(hs:s.length≤9223372036854775807)(ha: -9223372036854775808≤a)(ha1:a≤9223372036854775807):
  Calls Tryz.prog 236 #[.string (str s),.int .i64 a,.int .i64 m] w fun e w'=>e=.returned (.bool (decide (0≤a∧a≤s.length∧m≤s.length-a)))∧w'=w:=by
 go_enter Tryz.func236,Tryz.ntmps236
 go_wp2
 all_goals go_ret
 all_goals exact⟨bretw (by rw[Bool.eq_iff_iff];simp_all []<;>omega),rfl⟩
end
section
open Go.Shelf
attribute [local go_sem] Oper.semAt_some
def NumPost(s:zB)(a:Int)(b:Nat)(a0 a1:Addr)(w:World)(e:Ending)(w':World):Prop:=
 match rd s a with
 | .ok (n,z)=>e=.returned (.tuple #[.int .i64 n,.nilIface])∧w.grownBy w' (some b)∧w'.heap[b]?=some (.cells #[.string (str s),.int .i64 (a+z)] 250 (0,0))
 | .error false=>e=.returned (.tuple #[.int .i64 0,.iface 352 (.pointer (some a0))])∧Below w.heap.size w w'
 | .error true=>e=.returned (.tuple #[.int .i64 0,.iface 352 (.pointer (some a1))])∧Below w.heap.size w w'
theorem z66{w:World}{b t:Nat}{cs:Array Value}(h:w.heap[b]?=some (.cells cs t (0,0)))(i:Nat):w.cell? ⟨b,i,none⟩=cs[i]?:=by simp[World.cell?,h]
theorem blk_frozen{w:World}{b t:Nat}{cs:Array Value}(h:w.heap[b]?=some (.cells cs t (0,0)))(i:Nat):w.frozen? ⟨b,i,none⟩=false:=by simp[World.frozen?,h]
theorem rd_out{s:zB}{a:Int}(h:¬(0≤a∧a<s.length)):rd s a=.error false:=by simp only[rd,if_neg h]
theorem number_out(s:zB)(a:Int)(b:Nat)(a0 a1:Addr)(w:World)(hs:s.length<1125899906842624)(ha0: -9223372036854775808≤a)(ha1:a≤9223372036854775807)
  (hG:Glob w a0 a1) (hb:w.heap[b]?=some (.cells #[.string (str s),.int .i64 a] 250 (0,0))) (hin:¬(0≤a∧a<s.length)):
  Calls Tryz.prog 182 #[.pointer (some ⟨b,0,none⟩)] w fun e w'=>e=.returned (.tuple #[.int .i64 0,.iface 352 (.pointer (some a0))])∧Below w.heap.size w w':=by
 have hmix:Tryz.prog.follows .mixedOrders=true:=by kernel_rfl
 have hblt:=z89 hb;have c0:w.cell? ⟨b,0,none⟩=some (.string (str s)):=z66 hb 0;have c1:w.cell? ⟨b,0+1,none⟩=some (.int .i64 a):=z66 hb 1;have e0:=hG.e0;have g0:=z38 e0
 dsimp only at g0
 have hhas:∀W,Calls Tryz.prog 236 #[.string (str s),.int .i64 a,.int .i64 1] W fun e w'=>e=.returned (.bool false)∧w'=W:=fun W=>by
  have:=has_any s a 1 W (by omega) ha0 ha1
  rwa [decide_eq_false (by omega)]at this
 have HH:=Lib.hid hhas;clear hhas hG hb
 go_enter Tryz.func182,Tryz.ntmps182
 go_wp2_with fail
 go_step3
 go_wp2_with fail
 refine z55 9 hmix (by kernel_rfl) ?_;simp only[List.take_succ_cons,List.take_zero,List.drop_succ_cons,List.drop_zero]
 iterate 8 still_step
 still_call (HH.out _)
 refine wpStill_nil ?_
 go_wp2_with fail
 go_region
 all_goals go_wp2_with fail
 all_goals rw[Exit.noGoto_ret]
 all_goals refine bodyPost_ret (v:=.tuple #[.int .i64 0,.iface 352 (.pointer (some a0))]) (by simp[results,Tryz.results182,go_sem]) rfl ⟨rfl,by go_grown⟩
theorem from_any(s:zB)(a:Int)(w:World):
  Calls Tryz.prog 237 #[.string (str s),.int .i64 a] w fun e w'=>e=.returned (.func (.func 277) #[] #[.pointer (some ⟨w.heap.size+1,0,none⟩),.pointer (some ⟨w.heap.size,0,none⟩)])∧w'=(w.alloc (.cells #[.string (str s)] 248)).alloc (.cells #[.int .i64 a] 3):=
 callsIn_wide.1 (from_in 3 s a w)
theorem from_stops(n:Nat)(Ba Bt:Nat)(s:zB)(a:Nat)(ha:a≤s.length)(hs:s.length<1125899906842624)(w:World)
  (hc:w.cell? ⟨Ba,0,none⟩=some (.int .i64 a)) (hd:w.cell? ⟨Bt,0,none⟩=some (.string (str s))):
  SeqStopsK Fence.wide n Tryz.prog 277 #[.pointer (some ⟨Ba,0,none⟩),.pointer (some ⟨Bt,0,none⟩)] (fun g:Mor.Ix×UInt8=> #[Value.int .i64 g.1.val,Value.int .u8 g.2.toNat]) (Keep2 Ba Bt) (fun ys=>ys=pairs s a) (fun pre=>pre<+:pairs s a) s.length w:=fun l J Jx W hW hJ _ hY h0=>
 from1_in n l Ba Bt s a ha hs J Jx hY W ((hW.cell (p:=⟨Ba,0,none⟩) (z38 hc)).trans hc) ((hW.cell (p:=⟨Bt,0,none⟩) (z38 hd)).trans hd)
  (fun pre W1 hj=>hJ pre W1 W1.drew none hj ⟨rfl,rfl,rfl,Nat.le_refl _,fun _ _ _=>rfl⟩ (fun r e=>by cases e)) h0
theorem keep2_t{Ba Bt:Nat}{A B C:World}(h:Keep2 Ba Bt A B)(k:Keep2 Ba Bt B C):Keep2 Ba Bt A C:=⟨k.1.trans h.1,k.2.trans h.2⟩
theorem keep2_b{Ba Bt:Nat}{w:World}(ha:Ba<w.heap.size)(hb:Bt<w.heap.size)(W:World)(l:Nat)(o o':Obj)(hl:w.heap.size≤l)(_:W.heap[l]?=some o)(_:o.isCells=false)(_:o.isWalk=false):Keep2 Ba Bt W (W.putObj l o'):=
 ⟨World.putObj_heap_other (fun e=>by omega),World.putObj_heap_other (fun e=>by omega)⟩
theorem z57{A B:World}{row:Option Nat}{Bk t:Nat}{v:Value}(h:Boxed A Bk t v)(hg:A.grownBy B row)(hr:∀r,row=some r→∃o:Obj,A.heap[r]?=some o∧o.isCells=false):Boxed B Bk t v:=
 h.kept hg (fun e'=>by obtain⟨o,ho,hc⟩:=hr Bk e'.symm;rw[show A.heap[Bk]?=_ from h]at ho;cases ho;cases hc)
structure Mids(s:zB)(a h:Nat)(w:World)(pre:List (Mor.Ix×UInt8))(W:World)(m sg:Int):Prop where
 bm:Boxed W (h+1+1) 247 (.int .u64 m)
 bs:Boxed W (h+1+1+1) 247 (.int .u64 sg)
 bz:Boxed W (h+1+1+1+1) 3 (.int .i64 0)
 b0:Boxed W h 3 (.int .i64 0)
 b1:Boxed W (h+1) 242 .nilIface
 m0:0≤m
 m1:m<18446744073709551616
 s0:0≤sg
 bl:Below h w W
 good:Begs s a pre→Mid s a pre m sg
def Outs(s:zB)(a h:Nat)(w:World)(a1:Addr)(c:Code)(pre:List (Mor.Ix×UInt8))(W:World):Prop:=
  Below h w W∧
  ((c=.ret∧Boxed W h 3 (.int .i64 0)∧Boxed W (h+1) 242 (.iface 352 (.pointer (some a1)))∧(Begs s a pre→rdGo 0 (0,0) (s.drop a)=.error true))∨
   (c=.exit 0∧∃m sg z:Nat,Boxed W (h+1+1) 247 (.int .u64 m)∧Boxed W (h+1+1+1) 247 (.int .u64 sg)∧Boxed W (h+1+1+1+1) 3 (.int .i64 (z+1))∧Boxed W h 3 (.int .i64 0)∧Boxed W (h+1) 242 .nilIface∧z<1125899906842624∧
     (Begs s a pre→rdGo 0 (0,0) (s.drop a)=.ok (m,sg,z+1))))
theorem boxes5(w:World):Boxed (((((w.alloc (.cells #[.int .i64 0] 3)).alloc (.cells #[.nilIface] 242)).alloc (.cells #[.int .u64 0] 247)).alloc (.cells #[.int .u64 0] 247)).alloc (.cells #[.int .i64 0] 3)) w.heap.size 3 (.int .i64 0)∧Boxed (((((w.alloc (.cells #[.int .i64 0] 3)).alloc (.cells #[.nilIface] 242)).alloc (.cells #[.int .u64 0] 247)).alloc (.cells #[.int .u64 0] 247)).alloc (.cells #[.int .i64 0] 3)) (w.heap.size+1) 242 .nilIface∧Boxed (((((w.alloc (.cells #[.int .i64 0] 3)).alloc (.cells #[.nilIface] 242)).alloc (.cells #[.int .u64 0] 247)).alloc (.cells #[.int .u64 0] 247)).alloc (.cells #[.int .i64 0] 3)) (w.heap.size+2) 247 (.int .u64 0)∧Boxed (((((w.alloc (.cells #[.int .i64 0] 3)).alloc (.cells #[.nilIface] 242)).alloc (.cells #[.int .u64 0] 247)).alloc (.cells #[.int .u64 0] 247)).alloc (.cells #[.int .i64 0] 3)) (w.heap.size+3) 247 (.int .u64 0)∧Boxed (((((w.alloc (.cells #[.int .i64 0] 3)).alloc (.cells #[.nilIface] 242)).alloc (.cells #[.int .u64 0] 247)).alloc (.cells #[.int .u64 0] 247)).alloc (.cells #[.int .i64 0] 3)) (w.heap.size+4) 3 (.int .i64 0)∧(((((w.alloc (.cells #[.int .i64 0] 3)).alloc (.cells #[.nilIface] 242)).alloc (.cells #[.int .u64 0] 247)).alloc (.cells #[.int .u64 0] 247)).alloc (.cells #[.int .i64 0] 3)).heap.size=w.heap.size+5∧Below w.heap.size w (((((w.alloc (.cells #[.int .i64 0] 3)).alloc (.cells #[.nilIface] 242)).alloc (.cells #[.int .u64 0] 247)).alloc (.cells #[.int .u64 0] 247)).alloc (.cells #[.int .i64 0] 3)):=by
 refine⟨((((Boxed.new w _ _).alloc _).alloc _).alloc _).alloc _,?_,?_,?_,?_,by simp,?_⟩
 ·have:=Boxed.new (w.alloc (.cells #[.int .i64 0] 3)) 242 .nilIface;simp only[World.size_alloc]at this;exact((this.alloc _).alloc _).alloc _
 ·have:=Boxed.new ((w.alloc (.cells #[.int .i64 0] 3)).alloc (.cells #[.nilIface] 242)) 247 (.int .u64 0);simp only[World.size_alloc]at this;exact(this.alloc _).alloc _
 ·have:=Boxed.new (((w.alloc (.cells #[.int .i64 0] 3)).alloc (.cells #[.nilIface] 242)).alloc (.cells #[.int .u64 0] 247)) 247 (.int .u64 0);simp only[World.size_alloc]at this;exact this.alloc _
 ·have:=Boxed.new ((((w.alloc (.cells #[.int .i64 0] 3)).alloc (.cells #[.nilIface] 242)).alloc (.cells #[.int .u64 0] 247)).alloc (.cells #[.int .u64 0] 247)) 3 (.int .i64 0);simp only[World.size_alloc]at this;exact this
 ·go_grown
section
variable{s:zB}{a H B:Nat}{w W:World}{a1:Addr}{pre q:List (Mor.Ix×UInt8)}{m sg:Int}
theorem set_keep2{Ba Bt c:Nat}(ha:Ba≠c)(hb:Bt≠c)(W:World)(v:Value):Keep2 Ba Bt W (W.setCell ⟨c,0,none⟩ v):=⟨Below.heap_setCell _ _ _ _ ha,Below.heap_setCell _ _ _ _ hb⟩
theorem closeA(h:Mids s a H w pre W m sg)(m' sg':Nat){v1 v2:Int}(e1:v1=m')(e2:v2=sg')(hg:Begs s a q→rdGo 0 (0,0) (s.drop a)=.ok (m',sg',1)):
  KeepsFrom B W (((W.setCell ⟨H+1+1,0,none⟩ (.int .u64 v1)).setCell ⟨H+1+1+1,0,none⟩ (.int .u64 v2)).setCell ⟨H+1+1+1+1,0,none⟩ (.int .i64 1))∧
  Outs s a H w a1 (.exit 0) q (((W.setCell ⟨H+1+1,0,none⟩ (.int .u64 v1)).setCell ⟨H+1+1+1,0,none⟩ (.int .u64 v2)).setCell ⟨H+1+1+1+1,0,none⟩ (.int .i64 1)):=by
 subst e1 e2;refine⟨(((KeepsOthers.setCell _ _ _).trans (KeepsOthers.setCell _ _ _)).trans (KeepsOthers.setCell _ _ _)).from _,?_,.inr ⟨rfl,m',sg',0,?_,?_,?_,?_,?_,by omega,hg⟩⟩
 ·exact((h.bl.setCell (p:=⟨H+1+1,0,none⟩) (by dsimp only;omega) _).setCell (p:=⟨H+1+1+1,0,none⟩) (by dsimp only;omega) _).setCell (p:=⟨H+1+1+1+1,0,none⟩) (by dsimp only;omega) _
 ·exact((h.bm.set _).other (by omega) _).other (by omega) _
 ·exact((h.bs.other (by omega) _).set _).other (by omega) _
 ·exact((h.bz.other (by omega) _).other (by omega) _).set _
 ·exact((h.b0.other (by omega) _).other (by omega) _).other (by omega) _
 ·exact((h.b1.other (by omega) _).other (by omega) _).other (by omega) _
theorem closeB(h:Mids s a H w pre W m sg)(m' sg':Nat){v1 v2:Int}(e1:v1=m')(e2:v2=sg')(hm:m'<64){Ba Bt:Nat}(ha:Ba=H+5+1)(hb:Bt=H+5)(hg:Begs s a q→Mid s a q m' sg'):
  KeepsFrom B W ((W.setCell ⟨H+1+1,0,none⟩ (.int .u64 v1)).setCell ⟨H+1+1+1,0,none⟩ (.int .u64 v2))∧Keep2 Ba Bt W ((W.setCell ⟨H+1+1,0,none⟩ (.int .u64 v1)).setCell ⟨H+1+1+1,0,none⟩ (.int .u64 v2))∧
  ∃m sg,Mids s a H w q ((W.setCell ⟨H+1+1,0,none⟩ (.int .u64 v1)).setCell ⟨H+1+1+1,0,none⟩ (.int .u64 v2)) m sg:=by
 subst e1 e2 ha hb;refine⟨((KeepsOthers.setCell _ _ _).trans (KeepsOthers.setCell _ _ _)).from _,keep2_t (set_keep2 (by omega) (by omega) _ _) (set_keep2 (by omega) (by omega) _ _),m',sg',?_,?_,?_,?_,?_,by omega,by omega,by omega,?_,hg⟩
 ·exact(h.bm.set _).other (by omega) _
 ·exact(h.bs.other (by omega) _).set _
 ·exact(h.bz.other (by omega) _).other (by omega) _
 ·exact(h.b0.other (by omega) _).other (by omega) _
 ·exact(h.b1.other (by omega) _).other (by omega) _
 ·exact(h.bl.setCell (p:=⟨H+1+1,0,none⟩) (by dsimp only;omega) _).setCell (p:=⟨H+1+1+1,0,none⟩) (by dsimp only;omega) _
theorem closeC(h:Mids s a H w pre W m sg){v:Int}(h0:0≤v)(h1:v<18446744073709551616){Ba Bt:Nat}(ha:Ba=H+5+1)(hb:Bt=H+5)(hg:Begs s a q→Mid s a q v sg):
  KeepsFrom B W (W.setCell ⟨H+1+1,0,none⟩ (.int .u64 v)).drew∧Keep2 Ba Bt W (W.setCell ⟨H+1+1,0,none⟩ (.int .u64 v)).drew∧
  ∃m sg,Mids s a H w q (W.setCell ⟨H+1+1,0,none⟩ (.int .u64 v)).drew m sg:=by
 subst ha hb;refine⟨((KeepsOthers.setCell _ _ _).trans (KeepsOthers.drew _)).from _,set_keep2 (by omega) (by omega) W _,v,sg,?_,?_,?_,?_,?_,h0,h1,h.s0,?_,hg⟩
 ·exact h.bm.set _
 ·exact h.bs.other (by omega) _
 ·exact h.bz.other (by omega) _
 ·exact h.b0.other (by omega) _
 ·exact h.b1.other (by omega) _
 ·exact(h.bl.setCell (p:=⟨H+1+1,0,none⟩) (by dsimp only;omega) _).drew
theorem closeD(h:Mids s a H w pre W m sg){v:Int}{k:Nat}(hk:k<1125899906842624)(h0:0≤v)(hsg:0≤sg)(hg:Begs s a q→rdGo 0 (0,0) (s.drop a)=.ok (v.toNat,sg.toNat,k+1)):
  KeepsFrom B W ((W.setCell ⟨H+1+1,0,none⟩ (.int .u64 v)).setCell ⟨H+1+1+1+1,0,none⟩ (.int .i64 ((k:Int)+1))).drew∧
  Outs s a H w a1 (.exit 0) q ((W.setCell ⟨H+1+1,0,none⟩ (.int .u64 v)).setCell ⟨H+1+1+1+1,0,none⟩ (.int .i64 ((k:Int)+1))).drew:=by
 obtain⟨v,rfl⟩:=Int.eq_ofNat_of_zero_le h0;obtain⟨sg,rfl⟩:=Int.eq_ofNat_of_zero_le hsg;refine⟨(((KeepsOthers.setCell _ _ _).trans (KeepsOthers.setCell _ _ _)).trans (KeepsOthers.drew _)).from _,?_,.inr ⟨rfl,v,sg,k,?_,?_,?_,?_,?_,hk,hg⟩⟩
 ·exact((h.bl.setCell (p:=⟨H+1+1,0,none⟩) (by dsimp only;omega) _).setCell (p:=⟨H+1+1+1+1,0,none⟩) (by dsimp only;omega) _).drew
 ·exact(h.bm.set _).other (by omega) _
 ·exact(h.bs.other (by omega) _).other (by omega) _
 ·exact(h.bz.other (by omega) _).set _
 ·exact(h.b0.other (by omega) _).other (by omega) _
 ·exact(h.b1.other (by omega) _).other (by omega) _
theorem closeE(h:Mids s a H w pre W m sg)(hg:Begs s a q→rdGo 0 (0,0) (s.drop a)=.error true){W':World}(hW:W'=((W.setCell ⟨H,0,none⟩ (.int .i64 0)).setCell ⟨H+1,0,none⟩ (.iface 352 (.pointer (some a1)))).drew):
  KeepsFrom B W W'∧Outs s a H w a1 .ret q W':=by
 subst hW;refine⟨(((KeepsOthers.setCell _ _ _).trans (KeepsOthers.setCell _ _ _)).trans (KeepsOthers.drew _)).from _,?_,.inl ⟨rfl,?_,?_,hg⟩⟩
 ·exact((h.bl.setCell (p:=⟨H,0,none⟩) (Nat.le_refl _) _).setCell (p:=⟨H+1,0,none⟩) (by dsimp only;omega) _).drew
 ·exact(h.b0.set _).other (by omega) _
 ·exact(h.b1.other (by omega) _).set _
end
theorem shl_any(P:Program)(y:UInt8)(k:Nat)(hk:k<1125899906842624)(hk0:¬k=0):∃G:Int,0≤G∧G<18446744073709551616∧Hid (G=IntKind.u64.wrap ((y.toNat:Int)%128*2 ^ min (7*k-1) 64))∧
  ∀W,(Op.shift .shl .u64 ((y.toNat:Int)%128) .i64 (IntKind.i64.wrap (IntKind.i64.wrap (7*(k:Int)) - 1))).run P W=.ok (.int .u64 G) W:=by
 refine⟨IntKind.u64.wrap ((y.toNat:Int)%128*2 ^ min (7*k-1) 64),?_,?_,rfl,fun W=> ?_⟩
 ·simp[IntKind.wrap_u64];omega
 ·simp[IntKind.wrap_u64];omega
 ·rw[IntWalk.i64_in (7*(k:Int)) (by omega),IntWalk.i64_in _ (by omega)];have h1:¬(7*(k:Int) - 1<0):=by omega
  have h2:(7*(k:Int) - 1).toNat=7*k-1:=by omega
  simp only[Op.shift,h1,if_false,h2,IntKind.bits];rfl
theorem keepObj{W W':World}{D:Nat}{o:Obj}(h:KeepsOthers W W')(hK:W.heap[D]?=some o)(ho:o.isCells=false):W'.heap[D]?=some o:=h.same D o hK ho
theorem rd_err{s:zB}{a:Nat}(hin:a<s.length){e:Bool}(h:rdGo 0 (0,0) (s.drop a)=.error e):rd s a=.error e:=by
 simp only[rd,Int.toNat_natCast,h];rw[if_pos (by omega)]
theorem rd_ok{s:zB}{a m sg z:Nat}(hin:a<s.length)(h:rdGo 0 (0,0) (s.drop a)=.ok (m,sg,z)):rd s a=.ok (if sg=1 then -1-(m:Int)else m,z):=by
 simp only[rd,Int.toNat_natCast,h];rw[if_pos (by omega)]
theorem closeOk{s:zB}{a b D:Nat}{w W:World}{v:Int}{x:Int}(hbl:Below w.heap.size w W)(hb:W.heap[b]?=some (.cells #[.string (str s),.int .i64 a] 250 (0,0)))(hbw:b<w.heap.size)
  (hK:W.heap[D]?=some (.deferred (some []))) (hD:w.heap.size+7≤D) (bx0:Boxed W w.heap.size 3 (.int .i64 0)) (bx1:Boxed W (w.heap.size+1) 242 .nilIface) {W':World}
  (hW:W'=(((W.setCell ⟨b,1,none⟩ (.int .i64 v)).setCell ⟨w.heap.size,0,none⟩ (.int .i64 x)).setCell ⟨w.heap.size+1,0,none⟩ .nilIface).drew):
  W'.heap[D]?=some (.deferred (some []))∧(W'.putObj D (.deferred none)).cell? ⟨w.heap.size,0,none⟩=some (.int .i64 x)∧(W'.putObj D (.deferred none)).cell? ⟨w.heap.size+1,0,none⟩=some .nilIface∧
  w.grownBy (W'.putObj D (.deferred none)) (some b)∧(W'.putObj D (.deferred none)).heap[b]?=some (.cells #[.string (str s),.int .i64 v] 250 (0,0)):=by
 subst hW;have hK2:=keepObj ((((KeepsOthers.setCell W ⟨b,1,none⟩ (.int .i64 v)).trans (KeepsOthers.setCell _ ⟨w.heap.size,0,none⟩ (.int .i64 x))).trans (KeepsOthers.setCell _ ⟨w.heap.size+1,0,none⟩ .nilIface)).trans (KeepsOthers.drew _)) hK rfl;have k0:Boxed (W.setCell ⟨b,1,none⟩ (.int .i64 v)) w.heap.size 3 (.int .i64 0):=(Below.heap_setCell _ _ _ _ (by dsimp only;omega)).trans bx0;have k1:Boxed (W.setCell ⟨b,1,none⟩ (.int .i64 v)) (w.heap.size+1) 242 .nilIface:=(Below.heap_setCell _ _ _ _ (by dsimp only;omega)).trans bx1;have q0:Boxed (((W.setCell ⟨b,1,none⟩ (.int .i64 v)).setCell ⟨w.heap.size,0,none⟩ (.int .i64 x)).setCell ⟨w.heap.size+1,0,none⟩ .nilIface).drew w.heap.size 3 (.int .i64 x):=(k0.set _).other (by omega) _;have q1:Boxed (((W.setCell ⟨b,1,none⟩ (.int .i64 v)).setCell ⟨w.heap.size,0,none⟩ (.int .i64 x)).setCell ⟨w.heap.size+1,0,none⟩ .nilIface).drew (w.heap.size+1) 242 .nilIface:=(k1.other (by omega) _).set _;have hbb:(((W.setCell ⟨b,1,none⟩ (.int .i64 v)).setCell ⟨w.heap.size,0,none⟩ (.int .i64 x)).setCell ⟨w.heap.size+1,0,none⟩ .nilIface).heap[b]?=some (.cells #[.string (str s),.int .i64 v] 250 (0,0)):=by
  rw[Below.heap_setCell _ _ _ _ (by dsimp only;omega),Below.heap_setCell _ _ _ _ (by dsimp only;omega)];simp[World.setCell,Array.getElem?_modify,hb]
 refine⟨hK2,?_,?_,?_,?_⟩
 ·exact(z57 q0 (grownBy_putObj' _ D (.deferred none)) (fun r e=>by cases e;exact⟨_,hK2,rfl⟩)).cell
 ·exact(z57 q1 (grownBy_putObj' _ D (.deferred none)) (fun r e=>by cases e;exact⟨_,hK2,rfl⟩)).cell
 ·refine⟨hbl.os,hbl.tape,hbl.output,?_,fun k hk hne=> ?_⟩
  ·have:=hbl.size;have:=(grownBy_putObj' (((W.setCell ⟨b,1,none⟩ (.int .i64 v)).setCell ⟨w.heap.size,0,none⟩ (.int .i64 x)).setCell ⟨w.heap.size+1,0,none⟩ .nilIface).drew D (.deferred none)).size;simp[World.size_setCell,World.drew]at this ⊢;omega
  ·rw[World.putObj_heap_other (fun e=>by omega)];show(((W.setCell ⟨b,1,none⟩ (.int .i64 v)).setCell ⟨w.heap.size,0,none⟩ (.int .i64 x)).setCell ⟨w.heap.size+1,0,none⟩ .nilIface).heap[k]?=_;have hkb:k≠b:=fun e=>hne (by rw[e]);rw[Below.heap_setCell _ _ _ _ (by dsimp only;omega),Below.heap_setCell _ _ _ _ (by dsimp only;omega),Below.heap_setCell _ _ _ _ (by dsimp only;omega),hbl.block k hk]
 ·rw[World.putObj_heap_other (fun e=>by omega)];exact hbb
theorem begs_all(s:zB)(a:Nat):Begs s a (pairs s a):=List.prefix_refl _
theorem number_go(s:zB)(a:Nat)(b:Nat)(a0 a1:Addr)(w:World)(hs:s.length<1125899906842624)(hin:a<s.length)
  (hG:Glob w a0 a1) (hb:w.heap[b]?=some (.cells #[.string (str s),.int .i64 a] 250 (0,0))):
  Calls Tryz.prog 182 #[.pointer (some ⟨b,0,none⟩)] w (NumPost s a b a0 a1 w):=by
 have hmix:Tryz.prog.follows .mixedOrders=true:=by kernel_rfl
 have hblt:=z89 hb;have c0:w.cell? ⟨b,0,none⟩=some (.string (str s)):=z66 hb 0;have c1:w.cell? ⟨b,0+1,none⟩=some (.int .i64 a):=z66 hb 1;have e0:=hG.e0;have e1:=hG.e1;have g0:=z38 e0;have g1:=z38 e1
 dsimp only at g0 g1
 have hhas:∀W,Calls Tryz.prog 236 #[.string (str s),.int .i64 a,.int .i64 1] W fun e w'=>e=.returned (.bool true)∧w'=W:=fun W=>by
  have:=has_any s a 1 W (by omega) (by omega) (by omega)
  rwa [decide_eq_true (by omega)]at this
 have HH:=Lib.hid hhas;have HG:=Lib.hid hG;have HB:=Lib.hid hb;clear hhas hG hb;refine callsIn_wide.1 (callsIn_of_wp_marks (n:=9) Tryz.func182 rfl trivial (wpIn_wide.2 ?_) rfl);simp only[Tryz.ntmps182,List.size_toArray,List.length_cons,List.length_nil,Nat.reduceAdd,Nat.reduceSub,Array.replicate_succ,Array.replicate_zero,List.push_toArray,List.append_toArray,List.nil_append,List.cons_append]
 go_wp2_with fail
 go_step3
 go_wp2_with fail
 refine z55 9 hmix (by kernel_rfl) ?_;simp only[List.take_succ_cons,List.take_zero,List.drop_succ_cons,List.drop_zero]
 iterate 8 still_step
 still_call (HH.out _)
 refine wpStill_nil ?_
 go_wp2_with fail
 go_step3
 go_wp2_with fail
 obtain⟨B0,B1,B2,B3,B4,hsz,hBl⟩:=boxes5 w;obtain⟨W0,hW0⟩:∃W0,(((((w.alloc (.cells #[.int .i64 0] 3)).alloc (.cells #[.nilIface] 242)).alloc (.cells #[.int .u64 0] 247)).alloc (.cells #[.int .u64 0] 247)).alloc (.cells #[.int .i64 0] 3))=W0:=⟨_,rfl⟩
 rw[hW0]at B0 B1 B2 B3 B4 hsz hBl ⊢;clear hW0;have d0:=(hBl.cell (p:=⟨b,0,none⟩) hblt).trans c0;have d1:=(hBl.cell (p:=⟨b,0+1,none⟩) hblt).trans c1;have HS:=Lib.hid hsz;clear hsz;refine z55 8 hmix (by kernel_rfl) ?_;simp only[List.take_succ_cons,List.take_zero,List.drop_succ_cons,List.drop_zero]
 iterate 8 still_step
 refine wpStill_nil ?_
 go_wp2_with fail
 refine(from_any _ _ _).mono ?_;rintro e w' ⟨rfl,rfl⟩
 go_wp2_with fail
 have BT0:=(Boxed.new W0 248 (.string (str s))).alloc (.cells #[.int .i64 a] 3);have BA0:=Boxed.new (W0.alloc (.cells #[.string (str s)] 248)) 3 (.int .i64 a);rw[World.size_alloc]at BA0;obtain⟨W1,hW1⟩:∃W1,((W0.alloc (.cells #[.string (str s)] 248)).alloc (.cells #[.int .i64 a] 3)).drew.drew=W1:=⟨_,rfl⟩
 have BT:Boxed W1 W0.heap.size 248 (.string (str s)):=by rw[←hW1];exact BT0
 have BA:Boxed W1 (W0.heap.size+1) 3 (.int .i64 a):=by rw[←hW1];exact BA0
 have b0:Boxed W1 w.heap.size 3 (.int .i64 0):=by rw[←hW1];exact(B0.alloc _).alloc _
 have b1:Boxed W1 (w.heap.size+1) 242 .nilIface:=by rw[←hW1];exact(B1.alloc _).alloc _
 have b2:Boxed W1 (w.heap.size+1+1) 247 (.int .u64 0):=by rw[←hW1];exact(B2.alloc _).alloc _
 have b3:Boxed W1 (w.heap.size+1+1+1) 247 (.int .u64 0):=by rw[←hW1];exact(B3.alloc _).alloc _
 have b4:Boxed W1 (w.heap.size+1+1+1+1) 3 (.int .i64 0):=by rw[←hW1];exact(B4.alloc _).alloc _
 have hBl1:Below w.heap.size w W1:=by rw[←hW1];exact((((hBl).alloc hBl.size _).alloc (by have:=hBl.size;simp;omega) _).drew).drew
 have hs1:W1.heap.size=w.heap.size+7:=by rw[←hW1];simp[World.drew,HS.out]
 rw[hW1];have H0:=HS.out;clear BT0 BA0 hW1 B0 B1 B2 B3 B4 hBl d0 d1;refine(wpIn_wide (n:=9)).1 (wpIn_rangeFunc_ownG rfl (by omega) (gf:=277) (lb:= #[.pointer (some ⟨W0.heap.size+1,0,none⟩),.pointer (some ⟨W0.heap.size,0,none⟩)]) rfl trivial (enters_of Tryz.func277 (by kernel_rfl) rfl)
  (from_stops 8 (W0.heap.size+1) W0.heap.size s a (by omega) hs W1 BA.cell BT.cell) keep2_t (keep2_b (by omega) (by omega)) (Below.refl _ _) (fun _=>rfl)
  (fun pre W=>∃m sg,Mids s a w.heap.size w pre W m sg)
  (fun c pre W=>Outs s a w.heap.size w a1 c pre W) ?hI ?hIx ⟨0,0,b2,b3,b4,b0,b1,by omega,by omega,by omega,hBl1,fun _=>⟨rfl,rfl,rfl,by decide,by simp⟩⟩ ?a1 ?assign ?body ?done ?stop)
 case hI=>
  rintro pre X Y row ⟨m,sg,h⟩ hg hr;have hr':=fun r e=>(hr r e).2;exact⟨m,sg,z57 h.bm hg hr',z57 h.bs hg hr',z57 h.bz hg hr',z57 h.b0 hg hr',z57 h.b1 hg hr',h.m0,h.m1,h.s0,h.bl.grown hg h.bl.size (fun k e=>by have:=(hr k e).1;omega),h.good⟩
 case hIx=>
  rintro c pre X Y row ⟨hbl,h⟩ hg hr;have hr':=fun r e=>(hr r e).2;refine⟨hbl.grown hg hbl.size (fun k e=>by have:=(hr k e).1;omega),?_⟩;rcases h with⟨hc,h0,h1,hgd⟩|⟨hc,m,sg,z,h2,h3,h4,h0,h1,hz,hgd⟩
  ·exact .inl ⟨hc,z57 h0 hg hr',z57 h1 hg hr',hgd⟩
  ·exact .inr ⟨hc,m,sg,z,z57 h2 hg hr',z57 h3 hg hr',z57 h4 hg hr',z57 h0 hg hr',z57 h1 hg hr',hz,hgd⟩
 case assign=>
  intro l x W K hK
  gi_wp2
  exact hK
 case body=>
  rintro l pre ⟨⟨k,hk⟩,y⟩ W ⟨m,sg,h⟩ hlt
  dsimp only
  have hy:y.toNat<256:=y.toNat_lt;have hm0:=h.m0;have hm1:=h.m1;have cm:=h.bm.cell;have fm:=h.bm.frozen;have cs:=h.bs.cell;have fs:=h.bs.frozen;have cz:=h.bz.cell;have fz:=h.bz.frozen;have cr:=h.b0.cell;have fr:=h.b0.frozen;have ce:=h.b1.cell;have fe:=h.b1.frozen;have hMi:=Lib.hid h;clear h H0 BT BA b0 b1 b2 b3 b4 hBl1 hlt c0 c1 e0;have hand:bits .and .u8 (y.toNat:Int) 127=((y.toNat%128:Nat):Int):=by
   have:=(by decide+kernel:∀z:Fin 256,bits .and .u8 ((z.val:Nat):Int) 127=((z.val%128:Nat):Int)) ⟨y.toNat,hy⟩
   exact this
  obtain⟨X,hX⟩:∃X:Mor.Ix×UInt8,X=(⟨k,hk⟩,y):=⟨_,rfl⟩
  have hXk:X.1.val=k:=by rw[hX]
  have hXy:X.2=y:=by rw[hX]
  rw[←hX];have HX1:=Lib.hid hXk;have HX2:=Lib.hid hXy;clear hX hXk hXy;by_cases hk0:k=0
  ·subst hk0;by_cases hlo:y.toNat<128
   ·gi_wp2_with fail
    refine closeA hMi.out (y.toNat%128 / 2) (y.toNat%128%2) (by omega) (by omega) (fun hg=> ?_);rw[Mid.ok hs hMi.out.good (by rw[HX1.out];simp) (by rw[HX2.out];exact hlo) hg,HX1.out];simp[stepM,HX1.out,HX2.out]
   ·gi_wp2_with fail
    refine closeB hMi.out (y.toNat%128 / 2) (y.toNat%128%2) (by omega) (by omega) (by omega) (Ba:=W0.heap.size+1) (Bt:=W0.heap.size) (by have:=HS.out;omega) HS.out (fun hg=> ?_);have:=Mid.cont hs hMi.out.good (by rw[HX1.out];simp) (by rw[HX2.out];omega) hg;simpa [stepM,HX1.out,HX2.out]using this
  ·have hk1:((k:Int)==0)=false:=by simp;omega
   by_cases hbad:y.toNat=0∨k=9∧1<y.toNat
   ·have HE:Begs s a (pre++[X])→rdGo 0 (0,0) (s.drop a)=.error true:=fun hg=>Mid.err hs hMi.out.good (by rw[HX1.out];exact hk0) (by rw[HX1.out,HX2.out];exact hbad) hg;have HE':=Lib.hid HE;have ge:=(hMi.out.bl.cell (p:=⟨3,0,none⟩) g1).trans e1;clear HE;by_cases hy0:y.toNat=0
    ·have hy1:((y.toNat:Int)==0)=true:=by simp;omega
     have HY0:=Lib.hid hy0;clear hy0 hbad
     gi_wp2_with fail
     gi_region_with_o (fail)
     all_goals gi_wp2_with fail
     all_goals exact closeE hMi.out HE'.out rfl
    ·have hy1:((y.toNat:Int)==0)=false:=by simp;omega
     have hk9':((k:Int)==9)=true:=by simp;omega
     have hgt:1<(y.toNat:Int):=by omega
     have HB:=Lib.hid hbad;clear hbad
     gi_wp2_with fail
     gi_region_with_o (fail)
     all_goals gi_wp2_with fail
     all_goals exact closeE hMi.out HE'.out rfl
   ·have hy0:((y.toNat:Int)==0)=false:=by simp;omega
    have hstep:Hid (∀G:Int,G=IntKind.u64.wrap ((y.toNat:Int)%128*2 ^ min (7*k-1) 64)→Begs s a (pre++[X])→bits .or .u64 m G=((stepM (stM pre) X).1:Nat)∧sg=((stepM (stM pre) X).2:Nat)):=
     fun G hG hg=>or_step hs hMi.out.good (by rw[HX1.out];exact hk0) (by rw[HX1.out,HX2.out];exact hbad) (by rw[HX1.out,HX2.out];exact hG) hg
    have hnb:Hid (¬(X.1.val≠0∧(X.2.toNat=0∨X.1.val=9∧1<X.2.toNat))):=by
     show ¬_;rw[HX1.out,HX2.out];exact fun hc=>hbad hc.2
    obtain⟨G,hG0,hG1,HGe,hsh⟩:=shl_any Tryz.prog y k hk hk0;have HSH:=Lib.hid hsh;clear hsh;obtain⟨M,hM⟩:∃M,bits .or .u64 m G=M:=⟨_,rfl⟩
    have hMb:0≤M∧M<18446744073709551616:=by
     obtain⟨m,rfl⟩:=Int.eq_ofNat_of_zero_le hm0;obtain⟨G,rfl⟩:=Int.eq_ofNat_of_zero_le hG0;have:=Nat.or_lt_two_pow (n:=64) (x:=m) (y:=G) (by omega) (by omega);rw[←hM,u64_or_nat _ _ (by omega) (by omega)];omega
    obtain⟨hM0,hM1⟩:=hMb;have HM:=Lib.hid hM;clear hM;by_cases hk9:k=9
    ·have hk9':((k:Int)==9)=true:=by simp;omega
     have hgt:¬(1<(y.toNat:Int)):=by omega
     have hHk:=Lib.hid hk9;clear hk9
     gi_wp2_with fail
     have hsh:=HSH.out;have hM:=HM.out;refine z104 (open_round l) 7 hmix (by kernel_rfl) ?_;simp only[List.take_succ_cons,List.take_zero,List.drop_succ_cons,List.drop_zero]
     iterate 7 still_step
     refine wpStill_nil ?_;clear hsh hM
     gi_wp2_with fail
     refine closeD hMi.out hk hM0 hMi.out.s0 (fun hg=> ?_);obtain⟨q1,q2⟩:=hstep.out G HGe.out hg;rw[HM.out]at q1;have hlo:y.toNat<128:=by omega
     rw[q1,q2];simpa [HX1.out]using Mid.ok hs hMi.out.good hnb.out (by rw[HX2.out];exact hlo) hg
    ·have hk9':((k:Int)==9)=false:=by simp;omega
     gi_wp2_with fail
     have hsh:=HSH.out;have hM:=HM.out;refine z104 (open_round l) 7 hmix (by kernel_rfl) ?_;simp only[List.take_succ_cons,List.take_zero,List.drop_succ_cons,List.drop_zero]
     iterate 7 still_step
     refine wpStill_nil ?_;clear hsh hM
     gi_wp2_with fail
     ·refine closeD hMi.out hk hM0 hMi.out.s0 (fun hg=> ?_);obtain⟨q1,q2⟩:=hstep.out G HGe.out hg;rw[HM.out]at q1;have hlo:y.toNat<128:=by omega
      rw[q1,q2];simpa [HX1.out]using Mid.ok hs hMi.out.good hnb.out (by rw[HX2.out];exact hlo) hg
     ·refine closeC hMi.out hM0 hM1 (Ba:=W0.heap.size+1) (Bt:=W0.heap.size) (by have:=HS.out;omega) HS.out (fun hg=> ?_);obtain⟨q1,q2⟩:=hstep.out G HGe.out hg;rw[HM.out]at q1;have hlo:128≤y.toNat:=by omega
      rw[q1,q2];exact Mid.cont hs hMi.out.good hnb.out (by rw[HX2.out];exact hlo) hg
 case done=>
  rintro D ys W hD rfl ⟨m,sg,h⟩ hK;have cz:=h.bz.cell;have cr:=h.b0.cell;have fr:=h.b0.frozen;have ce:=h.b1.cell;have fe:=h.b1.frozen;have ge:=(h.bl.cell (p:=⟨2,0,none⟩) g0).trans e0;have hMi:=Lib.hid h;have HK:=Lib.hid hK;clear h H0 BT BA b0 b1 b2 b3 b4 hBl1 c0 c1 e0 e1 hK
  go_wp2_with fail
  go_region
  all_goals go_wp2_with fail
  all_goals
   rw[Exit.noGoto_ret];have bx0:Boxed ((W.setCell ⟨w.heap.size,0,none⟩ (.int .i64 0)).setCell ⟨w.heap.size+1,0,none⟩ (.iface 352 (.pointer (some a0)))).drew w.heap.size 3 (.int .i64 0):=(hMi.out.b0.set (.int .i64 0)).other (show w.heap.size≠w.heap.size+1 by omega) (.iface 352 (.pointer (some a0)));have bx1:Boxed ((W.setCell ⟨w.heap.size,0,none⟩ (.int .i64 0)).setCell ⟨w.heap.size+1,0,none⟩ (.iface 352 (.pointer (some a0)))).drew (w.heap.size+1) 242 (.iface 352 (.pointer (some a0))):=(hMi.out.b1.other (show w.heap.size+1≠w.heap.size by omega) (.int .i64 0)).set (.iface 352 (.pointer (some a0)));have hK2:=keepObj (((KeepsOthers.setCell W ⟨w.heap.size,0,none⟩ (.int .i64 0)).trans (KeepsOthers.setCell _ ⟨w.heap.size+1,0,none⟩ (.iface 352 (.pointer (some a0))))).trans (KeepsOthers.drew _)) HK.out rfl;refine⟨by simp,.inl ⟨_,_,rfl,run_takeDeferred hK2,?_⟩⟩;have r0:=(z57 bx0 (grownBy_putObj' _ D (.deferred none)) (fun r e=>by cases e;exact⟨_,hK2,rfl⟩)).cell;have r1:=(z57 bx1 (grownBy_putObj' _ D (.deferred none)) (fun r e=>by cases e;exact⟨_,hK2,rfl⟩)).cell;refine⟨.tuple #[.int .i64 0,.iface 352 (.pointer (some a0))],by simp[results,Tryz.results182,go_sem,r0,r1],?_⟩
   have hgo:=(hMi.out.good (begs_all s a)).go;rw[z162,show a+(s.length-a)=s.length by omega,List.drop_length]at hgo;unfold NumPost;rw[rd_err hin hgo];exact⟨rfl,(((hMi.out.bl.setCell (p:=⟨w.heap.size,0,none⟩) (Nat.le_refl _) _).setCell (p:=⟨w.heap.size+1,0,none⟩) (by dsimp only;omega) _).drew).trans (belowK_b (w:=w) (Nat.le_refl _) _ D _ _ (by omega) hK2 rfl rfl)⟩
 case stop=>
  rintro D c pre W hD hSp ⟨hbl,hO⟩ hK;have HK:=Lib.hid hK;have HL:=Lib.hid hbl;rcases hO with⟨rfl,bx0,bx1,hgd⟩|⟨rfl,m,sg,z,bm,bs,bz,bx0,bx1,hz,hgd⟩
  ·refine wpIn_wide.2 ?_;have hgo:=hgd hSp;clear H0 BT BA b0 b1 b2 b3 b4 hBl1 c0 c1 e0 e1 hK hgd hbl
   go_wp2_with fail
   rw[Exit.noGoto_ret];have hK2:=HK.out;refine⟨by simp,.inl ⟨_,_,rfl,run_takeDeferred hK2,?_⟩⟩;have r0:=(z57 bx0 (grownBy_putObj' _ D (.deferred none)) (fun r e=>by cases e;exact⟨_,hK2,rfl⟩)).cell;have r1:=(z57 bx1 (grownBy_putObj' _ D (.deferred none)) (fun r e=>by cases e;exact⟨_,hK2,rfl⟩)).cell;refine⟨.tuple #[.int .i64 0,.iface 352 (.pointer (some a1))],by simp[results,Tryz.results182,go_sem,r0,r1],?_⟩;unfold NumPost;rw[rd_err hin hgo];exact⟨rfl,HL.out.trans (belowK_b (w:=w) (Nat.le_refl _) _ D _ _ (by omega) hK2 rfl rfl)⟩
  ·have HR:=Lib.hid (rd_ok hin (hgd hSp));have hb2:W.heap[b]?=some (.cells #[.string (str s),.int .i64 a] 250 (0,0)):=(hbl.block b hblt).trans HB.out;have d0:W.cell? ⟨b,0,none⟩=some (.string (str s)):=z66 hb2 0;have d1:W.cell? ⟨b,0+1,none⟩=some (.int .i64 a):=z66 hb2 1;have d2:W.frozen? ⟨b,0+1,none⟩=false:=blk_frozen hb2 1;have cm:=bm.cell;have cs:=bs.cell;have cz:=bz.cell;have cr:=bx0.cell;have fr:=bx0.frozen;have ce:=bx1.cell;have fe:=bx1.frozen;have hHB:=Lib.hid hb2;have hlz:(((z:Int)+1)==0)=false:=by simp;omega
   obtain⟨hm63,hsg1,hz0,hz10,hzl⟩:=rdGo_bound (s.drop a) 0 (0,0) (by omega) (by decide) (.inl rfl) (hgd hSp);have hm63':(m:Int)<9223372036854775808:=by omega
   simp only[List.length_drop]at hzl;clear H0 BT BA b0 b1 b2 b3 b4 hBl1 c0 c1 e0 e1 hK hgd hbl hb2;refine wpIn_wide.2 ?_;by_cases hsg:sg=1;all_goals
    first
     |have hsgB:((sg:Int)==1)=true:=by simp;omega
     |have hsgB:((sg:Int)==1)=false:=by simp;omega
    have HSG:=Lib.hid hsg;clear hsg
    go_wp2_with fail
    have hw1:IntKind.i64.wrap ((a:Int)+((z:Int)+1))=(a:Int)+((z:Int)+1):=IntWalk.i64_in _ (by omega);refine z55 8 hmix (by kernel_rfl) ?_;simp only[List.take_succ_cons,List.take_zero,List.drop_succ_cons,List.drop_zero]
    iterate 8 still_step
    refine wpStill_nil ?_;clear hw1
    go_wp2_with fail
    rw[Exit.noGoto_ret];obtain⟨hK2,r0,r1,hgr,hbk⟩:=closeOk HL.out hHB.out hblt HK.out (by omega) bx0 bx1 rfl;refine⟨by simp,.inl ⟨_,_,rfl,run_takeDeferred hK2,?_⟩⟩;refine⟨_,by simp[results,Tryz.results182,go_sem,r0,r1];rfl,?_⟩;unfold NumPost;rw[HR.out];first
     |(rw[if_pos HSG.out];exact⟨rfl,hgr,hbk⟩)
     |(rw[if_neg HSG.out];exact⟨rfl,hgr,hbk⟩)
end
section
open Go.Shelf
theorem number_any(s:zB)(a:Int)(b:Nat)(a0 a1:Addr)(w:World)(hs:s.length<1125899906842624)(ha0: -9223372036854775808≤a)(ha1:a≤9223372036854775807)
  (hG:Glob w a0 a1) (hb:w.heap[b]?=some (.cells #[.string (str s),.int .i64 a] 250 (0,0))):
  Calls Tryz.prog 182 #[.pointer (some ⟨b,0,none⟩)] w (NumPost s a b a0 a1 w):=by
 by_cases hin:0≤a∧a<s.length
 ·obtain⟨a,rfl⟩:=Int.eq_ofNat_of_zero_le hin.1;exact number_go s a b a0 a1 w hs (by omega) hG hb
 ·refine(number_out s a b a0 a1 w hs ha0 ha1 hG hb hin).mono ?_;rintro e w' ⟨rfl,hbl⟩;unfold NumPost;rw[rd_out hin];exact⟨rfl,hbl⟩
theorem blk_new(w:World)(t:TypeId)(cs:Array Value):(w.alloc (.cells cs t)).heap[w.heap.size]?=some (.cells cs t (0,0)):=World.alloc_heap_new w _
theorem below_new{w w':World}{o:Obj}(hg:(w.alloc o).grownBy w' (some w.heap.size)):Below w.heap.size w w':=
 ((Below.refl w.heap.size w).alloc (Nat.le_refl _) o).grown hg (by simp) (fun k e=>by cases e;exact Nat.le_refl _)
theorem ReadNum_any(s:zB)(a:Int)(a0 a1:Addr)(w:World)(hs:s.length<1125899906842624)(ha0: -9223372036854775808≤a)(ha1:a≤9223372036854775807)(hG:Glob w a0 a1):
  Calls Tryz.prog 124 #[.string (str s),.int .i64 a] w fun e w'=>
   e=.returned (numRes (z40 s a))∧Below w.heap.size w w':=by
 have hmix:Tryz.prog.follows .mixedOrders=true:=by kernel_rfl
 have hB1:Below w.heap.size w (w.alloc (.cells #[.string (str s),.int .i64 a] 250)):=(Below.refl _ _).alloc (Nat.le_refl _) _;have hG1:=hG.ext hB1;have HN:=Lib.hid (number_any s a w.heap.size a0 a1 _ hs ha0 ha1 hG1 (blk_new w 250 #[.string (str s),.int .i64 a]));have HG:=Lib.hid hG;clear hG hG1
 go_enter Tryz.func124,Tryz.ntmps124
 go_wp2_with fail
 refine HN.out.mono ?_;intro e w' hp;unfold NumPost at hp;cases hr:rd s a with
 |error t=>
  rw[hr]at hp;have hrn:z40 s a=none:=by simp[z40,hr]
  have HRN:=Lib.hid hrn;clear hr hrn;cases t
  ·obtain⟨rfl,hbl⟩:=hp;have hbl':=hB1.trans (hbl.mono (by simp));have HW:=Lib.hid (wrong_end w' a0 a1 (HG.out.ext hbl'))
   go_wp2_with fail
   refine HW.out.mono ?_;rintro e w2 ⟨rfl,rfl⟩
   go_wp2_with fail
   go_ret3
   exact⟨by rw[HRN.out];rfl,hbl'⟩
  ·obtain⟨rfl,hbl⟩:=hp;have hbl':=hB1.trans (hbl.mono (by simp));have HW:=Lib.hid (wrong_form w' a0 a1 (HG.out.ext hbl'))
   go_wp2_with fail
   refine HW.out.mono ?_;rintro e w2 ⟨rfl,rfl⟩
   go_wp2_with fail
   go_ret3
   exact⟨by rw[HRN.out];rfl,hbl'⟩
 |ok p=>
  obtain⟨n,z⟩:=p;rw[hr]at hp;have hrn:z40 s a=some (n,a+z):=by simp[z40,hr]
  have HRN:=Lib.hid hrn;clear hr hrn;obtain⟨rfl,hgr,hbk⟩:=hp;have hbl':=below_new hgr;have HW:=Lib.hid (wrong_nil w' a0 a1 (HG.out.ext hbl'));have c1:w'.cell? ⟨w.heap.size,0+1,none⟩=some (.int .i64 (a+z)):=z66 hbk 1
  go_wp2_with fail
  refine HW.out.mono ?_;rintro e w2 ⟨rfl,rfl⟩
  go_wp2_with fail
  refine z55 5 hmix (by kernel_rfl) ?_;simp only[List.take_succ_cons,List.take_zero,List.drop_succ_cons,List.drop_zero]
  iterate 5 still_step
  refine wpStill_nil ?_
  go_wp2_with fail
  go_ret3
  exact⟨by rw[HRN.out];rfl,hbl'.drew⟩
theorem Text_any(s:zB)(w:World)(hs:s.length≤9223372036854775807):
  Calls Tryz.prog 93 #[.string (str s)] w fun e w'=>
   e=.returned (textRes s)∧Below w.heap.size w w':=by
 by_cases hl:s.length≤10000
 ·have hnl:=z97 (s.length:Int)
  go_enter Tryz.func93,Tryz.ntmps93
  go_wp2_with fail
  refine(Num_any _ (by omega) (by omega) _).mono ?_;rintro e w2 ⟨rfl,hb2⟩
  go_wp2_with fail
  go_ret2
  exact⟨by rw[textRes,if_pos hl];rfl,hb2⟩
 ·go_enter Tryz.func93,Tryz.ntmps93
  go_wp2_with fail
  go_ret2
  exact⟨by rw[textRes,if_neg hl];rfl,Below.refl _ _⟩
def z112(s:zB)(a:Int)(b:Nat)(a0 a1:Addr)(w:World)(e:Ending)(w':World):Prop:=
 match rdW s a with
 | .ok (t,z)=>e=.returned (.tuple #[.string (str t),.nilIface])∧w.grownBy w' (some b)∧w'.heap[b]?=some (.cells #[.string (str s),.int .i64 z] 250 (0,0))
 | .error false=>e=.returned (.tuple #[.string (str []),.iface 352 (.pointer (some a0))])∧w.grownBy w' (some b)
 | .error true=>e=.returned (.tuple #[.string (str []),.iface 352 (.pointer (some a1))])∧w.grownBy w' (some b)
theorem z196{w w':World}{r:Option Nat}(h:Below w.heap.size w w'):w.grownBy w' r:=⟨h.os,h.tape,h.output,h.size,fun k hk _=>h.block k hk⟩
theorem z137{w w':World}{r:Option Nat}(h:w.grownBy w' r):w.grownBy w'.drew r:=⟨h.os,h.tape,h.output,h.size,h.block⟩
theorem grown_trans{w w' w2:World}{r:Option Nat}(h:w.grownBy w' r)(h2:w'.grownBy w2 r):w.grownBy w2 r:=
 ⟨h2.os.trans h.os,h2.tape.trans h.tape,h2.output.trans h.output,Nat.le_trans h.size h2.size,fun k hk hn=>(h2.block k (Nat.lt_of_lt_of_le hk h.size) hn).trans (h.block k hk hn)⟩
theorem words_any(s:zB)(a:Int)(b:Nat)(a0 a1:Addr)(w:World)(hs:s.length<1125899906842624)(ha0: -9223372036854775808≤a)(ha1:a≤9223372036854775807)
  (hG:Glob w a0 a1) (hb:w.heap[b]?=some (.cells #[.string (str s),.int .i64 a] 250 (0,0))) (hbG:2≠b∧3≠b):
  Calls Tryz.prog 184 #[.pointer (some ⟨b,0,none⟩)] w (z112 s a b a0 a1 w):=by
 have hmix:Tryz.prog.follows .mixedOrders=true:=by kernel_rfl
 have HN:=Lib.hid (number_any s a b a0 a1 w hs ha0 ha1 hG hb);have HG:=Lib.hid hG;have HB:=Lib.hid hb;clear hG hb
 go_enter Tryz.func184,Tryz.ntmps184
 go_wp2_with fail
 refine HN.out.mono ?_;intro e w' hp;unfold NumPost at hp;cases hr:rd s a with
 |error t=>
  rw[hr]at hp;have hrn:rdW s a=.error t:=by simp[rdW,hr]
  have HRN:=Lib.hid hrn;clear hr hrn;cases t
  ·obtain⟨rfl,hbl⟩:=hp
   go_wp2_with fail
   go_ret2
   unfold z112;rw[HRN.out];exact⟨rfl,z196 hbl⟩
  ·obtain⟨rfl,hbl⟩:=hp
   go_wp2_with fail
   go_ret2
   unfold z112;rw[HRN.out];exact⟨rfl,z196 hbl⟩
 |ok p=>
  obtain⟨n,z⟩:=p;rw[hr]at hp;have hbd:=rd_bound hr;have HR:=Lib.hid hr;clear hr;obtain⟨rfl,hgr,hbk⟩:=hp;have e0:=(World.cell?_of_block (w:=w) (a:=⟨2,0,none⟩) (hgr.block 2 (z38 HG.out.e0) (by simpa using hbG.1))).trans HG.out.e0;have e1:=(World.cell?_of_block (w:=w) (a:=⟨3,0,none⟩) (hgr.block 3 (z38 HG.out.e1) (by simpa using hbG.2))).trans HG.out.e1;have d0:w'.cell? ⟨b,0,none⟩=some (.string (str s)):=z66 hbk 0;have d1:w'.cell? ⟨b,0+1,none⟩=some (.int .i64 (a+z)):=z66 hbk 1;have d2:w'.frozen? ⟨b,0+1,none⟩=false:=blk_frozen hbk 1;have HBK:=Lib.hid hbk;clear hbk;by_cases hbad:n<0∨10000<n
  ·have HRN:Hid (rdW s a=.error true):=by show _=_;unfold rdW;rw[HR.out];exact if_pos hbad
   have HBD:=Lib.hid hbad;clear hbad;by_cases hn0:n<0
   ·go_wp2_with fail
    go_region
    go_wp2_with fail
    go_ret2
    unfold z112;rw[HRN.out];exact⟨rfl,z137 hgr⟩
   ·have hn1:10000<n:=by have:=HBD.out;omega
    go_wp2_with fail
    go_region
    go_wp2_with fail
    go_ret2
    unfold z112;rw[HRN.out];exact⟨rfl,z137 hgr⟩
  ·have hn0:0≤n:=by omega
   have hn1:n≤10000:=by omega
   clear hbad;by_cases hfit:(s.length:Int) - (a+z)<n
   ·have HRN:Hid (rdW s a=.error false):=by
     show _=_;unfold rdW;rw[HR.out];dsimp only;rw[if_neg (by omega),if_pos hfit]
    have hhas:∀W,Calls Tryz.prog 236 #[.string (str s),.int .i64 (a+z),.int .i64 n] W fun e w'=>e=.returned (.bool false)∧w'=W:=fun W=>by
     have:=has_any s (a+z) n W (by omega) (by omega) (by omega)
     rwa [decide_eq_false (by omega)]at this
    have HH:=Lib.hid hhas;clear hhas
    go_wp2_with fail
    refine z55 10 hmix (by kernel_rfl) ?_;simp only[List.take_succ_cons,List.take_zero,List.drop_succ_cons,List.drop_zero]
    iterate 9 still_step
    still_call (HH.out _)
    refine wpStill_nil ?_
    go_wp2_with fail
    go_region
    all_goals go_wp2_with fail
    all_goals go_ret2
    all_goals unfold z112
    all_goals rw[HRN.out]
    all_goals exact⟨rfl,z137 (z137 hgr)⟩
   ·have HRN:Hid (rdW s a=.ok ((s.drop (a+z).toNat).take n.toNat,a+z+n)):=by
     show _=_;unfold rdW;rw[HR.out];dsimp only;rw[if_neg (by omega),if_neg hfit]
    have hhas:∀W,Calls Tryz.prog 236 #[.string (str s),.int .i64 (a+z),.int .i64 n] W fun e w'=>e=.returned (.bool true)∧w'=W:=fun W=>by
     have:=has_any s (a+z) n W (by omega) (by omega) (by omega)
     rwa [decide_eq_true (by omega)]at this
    have HH:=Lib.hid hhas;clear hhas
    go_wp2_with fail
    refine z55 10 hmix (by kernel_rfl) ?_;simp only[List.take_succ_cons,List.take_zero,List.drop_succ_cons,List.drop_zero]
    iterate 9 still_step
    still_call (HH.out _)
    refine wpStill_nil ?_
    go_wp2_with fail
    have hb3:(w'.setCell ⟨b,1,none⟩ (.int .i64 (a+z+n))).heap[b]?=some (.cells #[.string (str s),.int .i64 (a+z+n)] 250 (0,0)):=by
     have:=HBK.out;simp[World.setCell,Array.getElem?_modify,this]
    have hg3:w.grownBy (w'.setCell ⟨b,1,none⟩ (.int .i64 (a+z+n))) (some b):=grown_trans hgr ⟨rfl,rfl,rfl,by simp,fun k _ hk=>Below.heap_setCell _ _ _ k (fun e=>hk (by rw[e]))⟩;obtain⟨W3,hW3⟩:∃W3,(w'.setCell ⟨b,1,none⟩ (.int .i64 (a+z+n)))=W3:=⟨_,rfl⟩
    rw[hW3]at hb3 hg3 ⊢;clear hW3 d0 d1 d2 hgr e0 e1;have d0:W3.cell? ⟨b,0,none⟩=some (.string (str s)):=z66 hb3 0;have d1:W3.cell? ⟨b,0+1,none⟩=some (.int .i64 (a+z+n)):=z66 hb3 1;have HB3:=Lib.hid hb3;clear hb3;have hw1:IntKind.i64.wrap (a+z)=a+z:=IntWalk.i64_in _ (by omega);have hw5:(0:Int)≤a+z+n:=by omega
    have hw2:(0:Int)≤a+z:=by omega
    have hw3:a+z≤a+z+n:=by omega
    have hw4:a+z+n≤s.length:=by omega
    refine z55 16 hmix (by kernel_rfl) ?_;simp only[List.take_succ_cons,List.take_zero,List.drop_succ_cons,List.drop_zero]
    iterate 16 still_step
    refine wpStill_nil ?_;clear hw1
    go_wp2_with fail
    go_ret2
    unfold z112;rw[HRN.out];refine⟨?_,z137 (z137 hg3),HB3.out⟩;have e1:(a+z+n).toNat-(a+z).toNat=n.toNat:=by omega
    simp[e1]
theorem glob_lt{w:World}{a0 a1:Addr}(hG:Glob w a0 a1):2≠w.heap.size∧3≠w.heap.size:=by
 have h0:=z38 hG.e0;have h1:=z38 hG.e1
 dsimp only at h0 h1
 omega
theorem ReadText_any(s:zB)(a:Int)(a0 a1:Addr)(w:World)(hs:s.length<1125899906842624)(ha0: -9223372036854775808≤a)(ha1:a≤9223372036854775807)(hG:Glob w a0 a1):
  Calls Tryz.prog 125 #[.string (str s),.int .i64 a] w fun e w'=>e=.returned (readRes (z32 s a))∧Below w.heap.size w w':=by
 have hmix:Tryz.prog.follows .mixedOrders=true:=by kernel_rfl
 have hB1:Below w.heap.size w (w.alloc (.cells #[.string (str s),.int .i64 a] 250)):=(Below.refl _ _).alloc (Nat.le_refl _) _;have hG1:=hG.ext hB1;have HN:=Lib.hid (words_any s a w.heap.size a0 a1 _ hs ha0 ha1 hG1 (blk_new w 250 #[.string (str s),.int .i64 a]) (glob_lt hG));have HG:=Lib.hid hG;clear hG hG1
 go_enter Tryz.func125,Tryz.ntmps125
 go_wp2_with fail
 refine HN.out.mono ?_;intro e w' hp;unfold z112 at hp;cases hr:rdW s a with
 |error t=>
  rw[hr]at hp;have hrn:z32 s a=none:=by simp[z32,hr]
  have HRN:=Lib.hid hrn;clear hr hrn;cases t
  ·obtain⟨rfl,hgr⟩:=hp;have hbl':=below_new hgr;have HW:=Lib.hid (wrong_end w' a0 a1 (HG.out.ext hbl'))
   go_wp2_with fail
   refine HW.out.mono ?_;rintro e w2 ⟨rfl,rfl⟩
   go_wp2_with fail
   go_ret3
   exact⟨by rw[HRN.out];rfl,hbl'⟩
  ·obtain⟨rfl,hgr⟩:=hp;have hbl':=below_new hgr;have HW:=Lib.hid (wrong_form w' a0 a1 (HG.out.ext hbl'))
   go_wp2_with fail
   refine HW.out.mono ?_;rintro e w2 ⟨rfl,rfl⟩
   go_wp2_with fail
   go_ret3
   exact⟨by rw[HRN.out];rfl,hbl'⟩
 |ok p=>
  obtain⟨t,z⟩:=p;rw[hr]at hp;have hrn:z32 s a=some (t,z):=by simp[z32,hr]
  have HRN:=Lib.hid hrn;clear hr hrn;obtain⟨rfl,hgr,hbk⟩:=hp;have hbl':=below_new hgr;have HW:=Lib.hid (wrong_nil w' a0 a1 (HG.out.ext hbl'));have c1:w'.cell? ⟨w.heap.size,0+1,none⟩=some (.int .i64 z):=z66 hbk 1
  go_wp2_with fail
  refine HW.out.mono ?_;rintro e w2 ⟨rfl,rfl⟩
  go_wp2_with fail
  refine z55 5 hmix (by kernel_rfl) ?_;simp only[List.take_succ_cons,List.take_zero,List.drop_succ_cons,List.drop_zero]
  iterate 5 still_step
  refine wpStill_nil ?_
  go_wp2_with fail
  go_ret3
  exact⟨by rw[HRN.out];rfl,hbl'.drew⟩
end
section
open Go.Sh
structure GlobN(a0 a1:Addr)(n:Nat)(w:World):Prop where
 g:Glob w a0 a1
 sz:n≤w.heap.size
 h0:a0.block<n
 h1:a1.block<n
 hv:10≤n
def gl(a0 a1:Addr)(n:Nat):Sh.Glob where
 G:=GlobN a0 a1 n
 n:=n
 st:=fun w w' h hk=>by
  have hv:=h.hv;refine⟨⟨globU_st h.hv h.g.toGlobU hk,?_,?_,h.g.ne,?_,?_⟩,size_st h.sz hk,h.h0,h.h1,h.hv⟩
  ·rw[World.cell?_of_block (w:=w) (hk _ (show 2<n by omega))];exact h.g.e0
  ·rw[World.cell?_of_block (w:=w) (hk _ (show 3<n by omega))];exact h.g.e1
  ·rw[hk _ h.h0];exact h.g.b0
  ·rw[hk _ h.h1];exact h.g.b1
 le:=fun w h=>h.sz
theorem sc_up{a0 a1:Addr}{m f:Nat}{xs:List TV}{os:List MO}{y:TV}{os':List MO}(h:SCalls Tryz.prog (gl0 m) f xs os y os'):SCalls Tryz.prog (gl a0 a1 m) f xs os y os':=
 sc_of (g:=gl0 m) (g':=gl a0 a1 m) rfl (fun w (hG:GlobN a0 a1 m w)=>(⟨hG.g.toGlobU,hG.sz,hG.hv⟩:GlobN0 m w)) h
def numTV(r:Option (Int×Int)):TV:=match r with|some (n,b)=> .tuple [I n,I b,I 0]|none=> .tuple [I 0,I 0,I 10]
def readTV(r:Option (zB×Int)):TV:=match r with|some (t,b)=> .tuple [S (str t),I b,I 0]|none=> .tuple [S (str []),I 0,I 10]
def textTV(s:zB):TV:=if s.length≤10000 then .tuple [S (str (text s)),I 0] else .tuple [S (str []),I 10]
def prim1:Oracle:=fun f xs os=>
 if Nat.beq f 64 then match xs,os with
  |[.pv (.v (.int .i64 x))],[]=>if in64 x then some (S (str (num x)),[])else none
  |_,_=>none
 else if Nat.beq f 124 then match xs,os with
  |[.pv (.v (.string s)),.pv (.v (.int .i64 a))],[]=>if in64 a&&decide ((bl s).length<1125899906842624)then some (numTV (z40 (bl s) a),[])else none
  |_,_=>none
 else if Nat.beq f 93 then match xs,os with
  |[.pv (.v (.string s))],[]=>if decide ((bl s).length≤9223372036854775807)then some (textTV (bl s),[])else none
  |_,_=>none
 else if Nat.beq f 125 then match xs,os with
  |[.pv (.v (.string s)),.pv (.v (.int .i64 a))],[]=>if in64 a&&decide ((bl s).length<1125899906842624)then some (readTV (z32 (bl s) a),[])else none
  |_,_=>none
 else prim0 f xs os
theorem z170(a0 a1:Addr)(n:Nat):SoundC Tryz.prog (gl a0 a1 n) prim1:=by
 intro f xs os y os' h;unfold prim1 at h;split at h
 ·rename_i hf;obtain rfl:=Nat.eq_of_beq_eq_true hf;split at h<;>try(cases h;done)
  rename_i x;split at h<;>try(cases h;done)
  rename_i hx;cases h;obtain⟨h1,h2⟩:=in64_spec hx;exact z86 (vs:=[.int .i64 x]) (z56 (by kernel_rfl)) (fun w E r=> .pv (.v _)) (fun w _=>Num_any x h1 h2 w)
 split at h
 ·rename_i hf;obtain rfl:=Nat.eq_of_beq_eq_true hf;split at h<;>try(cases h;done)
  rename_i s a;split at h<;>try(cases h;done)
  rename_i hx;cases h;rw[Bool.and_eq_true]at hx;obtain⟨h1,h2⟩:=in64_spec hx.1;refine z86 (vs:=[.string s,.int .i64 a]) (v:=numRes (z40 (bl s) a)) (z56 (by kernel_rfl)) (fun w E r=> ?_) (fun w hG=> ?_)
  ·generalize z40 (bl s) a=q;cases q with
   |none=>exact z160 [_,_,_]
   |some p=>exact z160 [_,_,_]
  ·have:=ReadNum_any (bl s) a a0 a1 w (by simpa using hx.2) h1 h2 hG.g;rw[str_bl]at this;exact this
 split at h
 ·rename_i hf;obtain rfl:=Nat.eq_of_beq_eq_true hf;split at h<;>try(cases h;done)
  rename_i s;split at h<;>try(cases h;done)
  rename_i hx;cases h;refine z86 (vs:=[.string s]) (v:=textRes (bl s)) (z56 (by kernel_rfl)) (fun w E r=> ?_) (fun w hG=> ?_)
  ·unfold textRes textTV;split<;>exact z160 [_,_]
  ·have:=Text_any (bl s) w (by simpa using hx);rw[str_bl]at this;exact this
 split at h
 ·rename_i hf;obtain rfl:=Nat.eq_of_beq_eq_true hf;split at h<;>try(cases h;done)
  rename_i s a;split at h<;>try(cases h;done)
  rename_i hx;cases h;rw[Bool.and_eq_true]at hx;obtain⟨h1,h2⟩:=in64_spec hx.1;refine z86 (vs:=[.string s,.int .i64 a]) (v:=readRes (z32 (bl s) a)) (z56 (by kernel_rfl)) (fun w E r=> ?_) (fun w hG=> ?_)
  ·generalize z32 (bl s) a=q;cases q with
   |none=>exact z160 [_,_,_]
   |some p=>exact z160 [_,_,_]
  ·have:=ReadText_any (bl s) a a0 a1 w (by simpa using hx.2) h1 h2 hG.g;rw[str_bl]at this;exact this
 exact sc_up (prim0_sound n _ _ _ _ _ h)
structure GlobNA(a0 a1:Addr)(n:Nat)(w:World):Prop extends GlobN a0 a1 n w where
 t:GlobT w
def glA(a0 a1:Addr)(n:Nat):Sh.Glob where
 G:=GlobNA a0 a1 n
 n:=n
 st:=fun w w' h hk=>⟨(gl a0 a1 n).st w w' h.toGlobN hk,globT_st h.hv h.t hk⟩
 le:=fun w h=>h.sz
theorem sc_1A{a0 a1:Addr}{m f:Nat}{xs:List TV}{os:List MO}{y:TV}{os':List MO}(h:SCalls Tryz.prog (gl a0 a1 m) f xs os y os'):SCalls Tryz.prog (glA a0 a1 m) f xs os y os':=
 sc_of (g:=gl a0 a1 m) (g':=glA a0 a1 m) rfl (fun w (hG:GlobNA a0 a1 m w)=>hG.toGlobN) h
structure GlobNX(a0 a1:Addr)(n:Nat)(w:World):Prop extends GlobNA a0 a1 n w where
 e:GlobE w
def glX(a0 a1:Addr)(n:Nat):Sh.Glob where
 G:=GlobNX a0 a1 n
 n:=n
 st:=fun w w' h hk=>⟨(glA a0 a1 n).st w w' h.toGlobNA hk,globE_st h.hv h.e hk⟩
 le:=fun w h=>h.sz
theorem sc_AX{a0 a1:Addr}{m f:Nat}{xs:List TV}{os:List MO}{y:TV}{os':List MO}(h:SCalls Tryz.prog (glA a0 a1 m) f xs os y os'):SCalls Tryz.prog (glX a0 a1 m) f xs os y os':=
 sc_of (g:=glA a0 a1 m) (g':=glX a0 a1 m) rfl (fun w (hG:GlobNX a0 a1 m w)=>hG.toGlobNA) h
theorem sc_1X{a0 a1:Addr}{m f:Nat}{xs:List TV}{os:List MO}{y:TV}{os':List MO}(h:SCalls Tryz.prog (gl a0 a1 m) f xs os y os'):SCalls Tryz.prog (glX a0 a1 m) f xs os y os':=sc_AX (sc_1A h)
theorem sc_EX{a0 a1:Addr}{m f:Nat}{xs:List TV}{os:List MO}{y:TV}{os':List MO}(h:SCalls Tryz.prog (glE m) f xs os y os'):SCalls Tryz.prog (glX a0 a1 m) f xs os y os':=
 sc_of (g:=glE m) (g':=glX a0 a1 m) rfl (fun w (hG:GlobNX a0 a1 m w)=>(⟨⟨⟨hG.g.toGlobU,hG.sz,hG.hv⟩,hG.t⟩,hG.e⟩:GlobNE m w)) h
end
end Go.Proofs.YtcpaleaajdilgaaGreatDoor
end
