/- Merged texts: WrapB Open0 OpenN RawD OpenR Wire1 Wire2 Wire3 Wire4 Wire5 Wire6 Pr1 PrA PrX WrapX Zm0 PFits Pk1 Zn0 Cd7 Zm1 Zv3 Zm2 S28 S29 Zm3 Zm4 S30 Zm6 Zm7 Zm8 Zm9 Zm10 Zm5 Zm11 Zn1 Zy4 PRead. No statement of the program is proved here. -/
import Derived.Test.YtcpaleaajdilgaaGreatDoorM1
import Derived.Test.YtcpaleaajdilgaaGreatDoorM2
import Derived.Test.YtcpaleaajdilgaaGreatDoorM3
import Derived.Test.YtcpaleaajdilgaaGreatDoorM4
import Derived.Test.YtcpaleaajdilgaaGreatDoorM5
import Derived.Test.YtcpaleaajdilgaaGreatDoorCards
import Derived.Test.YtcpaleaajdilgaaGreatDoorTie
import Derived.Lib.LaidIn
import Derived.Lib.LaidU8T
import Derived.Deep.DeepHandedRow
import Derived.Deep.DeepWitnessRowRef
import Derived.ProofKit
import Derived.SizedLaws
import Derived.OpenShut
import Derived.Stop.LaidTwo
import Derived.Deep.Slices
import Derived.Deep.Fields
import Derived.ChangeSame
import Derived.SevenTiedAt
import Derived.PinnedBridge
import Derived.Shelf.Vars
import Derived.RangeFuncBound
import Derived.RangeFuncLeaves
import Derived.RangeFuncBox
import Derived.Shelf.Abstract
import Derived.Shelf.RegionOpen
import Derived.OwnWalkIn
import Derived.TacticsInMore
import Derived.LoopNIn
import Derived.LoopIn
import Derived.Maps.AppendAt
import Derived.LaidEql
import Derived.Stop.Asserts
import Derived.RowKitTokens
import Derived.Deep.QuietTactic
import Derived.BigQuiet
import Derived.Laws.OwnMore
import Derived.Shelf.RegionOpenPlain
import Derived.Deep.LoopGhost
import Derived.Lib.Walk
import Derived.Lib.SliceRun
import Derived.Lib.AppendZerosOnto
set_option linter.unusedSimpArgs false
set_option linter.unusedVariables false
section
namespace Go.Proofs.YtcpaleaajdilgaaGreatDoor
open Go.ChangeShapes Go.WideShapes Go.ChangeAt Go.RowKit Go.Lib Go.Mor Go.Deep
open Go.ChangeMaps (open_string shut_string)
theorem own:ownKnob Tryz.prog.godebug=none:=by kernel_rfl
theorem acc_eq:Rows.laid_unicode_utf8_acceptRanges=Lib.acceptData:=by kernel_rfl
theorem hv_of{W:World}(h:W.ShapedOpen Tryz.prog):10≤W.heap.size:=by
 obtain⟨o,o0,h1,_⟩:=h.2 10 (of_decide_eq_true (by kernel_rfl)) (of_decide_eq_true (by kernel_rfl));exact Nat.le_of_lt (gA h1).1
theorem globU_of{W:World}{L:List (String×DataW Unit)}(hL:laidMet Tryz.prog L W)(h1:("unicode/utf8.first",Rows.laid_unicode_utf8_first)∈L)(h2:("unicode/utf8.acceptRanges",Rows.laid_unicode_utf8_acceptRanges)∈L):GlobU W:=
 ⟨utf8Tabs_of_readsT (U8Types.of196 Tryz.laysValid) ⟨by kernel_rfl,by kernel_rfl,by kernel_rfl,by kernel_rfl,by kernel_rfl,by kernel_rfl,by kernel_rfl⟩ (by rw[←Pinned.utf8First_eq];exact Lib.laidMet.reads hL h1) (by rw[←acc_eq];exact Lib.laidMet.reads hL h2)⟩
def litsOf:DataW Unit→List Value
 | .agg l=>l.map fun x=>match x with| .lit y=>y.value|_=>undef
 |_=>[]
def textOf:DataW Unit→List UInt8
 | .iface _ (.ptr (.agg [.lit (.string l)]))=>l
 |_=>[]
noncomputable def laidWorld(os:Os):World:=
 let N:=(World.settled Tryz.prog os).heap.size
 let w0:=World.holding Tryz.prog os ⟨#[.cells #[.string ⟨(textOf Rows.laid_moraine_wire_errEnd).toArray⟩] 354,.cells #[.string ⟨(textOf Rows.laid_moraine_wire_errForm).toArray⟩] 354,.cells #[.string ⟨(textOf Rows.laid_strconv_ErrRange).toArray⟩] 354,.cells #[.string ⟨(textOf Rows.laid_strconv_ErrSyntax).toArray⟩] 354],#[],[]⟩
 let put (h:Array Obj) (g:Nat) (cs:Array Value):Array Obj:=h.modify g fun
  | .cells _ t frozen=> .cells cs t frozen
  |o=>o
 let h:=w0.heap
 let h:=put h 8 (litsOf Rows.laid_math_bits_deBruijn32tab).toArray
 let h:=put h 9 (litsOf Rows.laid_math_bits_deBruijn64tab).toArray
 let h:=put h 5 (litsOf Rows.laid_internal_strconv_uint64pow10).toArray
 let h:=put h 1 ((List.range 16).flatMap fun i=>[Value.int .u8 (Lib.accLo i),Value.int .u8 (Lib.accHi i)]).toArray
 let h:=put h 2 #[.iface 352 (.pointer (some ⟨N,0,none⟩))]
 let h:=put h 3 #[.iface 352 (.pointer (some ⟨N+1,0,none⟩))]
 let h:=put h 0 (Lib.firstTab.map fun z=>Value.int .u8 z).toArray
 let h:=put h 7 #[.iface 352 (.pointer (some ⟨N+2,0,none⟩))]
 let h:=put h 6 #[.iface 352 (.pointer (some ⟨N+3,0,none⟩))]
 { w0 with heap:=h }
noncomputable abbrev N0:Nat:=(World.settled Tryz.prog default).heap.size
theorem laidOut:laidOutB Tryz.prog=true:=by kernel_rfl
section
variable{H:Type}{enc:TypeId×Value→H}
theorem trodAll_stays{W W':World}(hb:Below W.heap.size W W'){sp:Nat→Bool}:∀{ts:List TypeId} {vs:List Value} {ds:List (DataW H)} {ps:List MemPlace},
  (ts.all fun t=>Tryz.prog.readableRec t&&decide (t<Tryz.prog.types.size))=true→DataW.TrodAll enc Tryz.prog W 0 (fun _=>true) true ts vs ds ps→(∀x∈ps,x.block<W.heap.size)→(∀x∈ps,sp x.block=true)→
  DataW.TrodAll enc Tryz.prog W' 0 sp true ts vs ds ps:=by
 intro ts
 induction ts with
 |nil=>
  intro vs ds ps _ h _ _;obtain⟨rfl,rfl,rfl⟩:=trodAll_nil h;exact trodAll_mk0
 |cons t ts ih=>
  intro vs ds ps hr h hlt hsp;obtain⟨v,vs',d,ds',p,q,rfl,rfl,rfl,h1,h2⟩:=trodAll_cons h;simp only[List.all_cons,Bool.and_eq_true,decide_eq_true_iff]at hr;refine trodAll_cons_mk (WideElems.Trod_stays laidOut hr.1.1 hr.1.2 h1 (fun x hx=>hb.same (hlt x (by simp[hx]))) (fun x hx=>hsp x (by simp[hx]))) (ih hr.2 h2 (fun x hx=>hlt x (by simp[hx])) (fun x hx=>hsp x (by simp[hx])))
theorem post_of_below{P:Program}{f:Func}{s:ChangeSpec}{apart fresh handsOn again:Bool}{W W':World}{args:Array Value}{v:Value}{ds gs:List (DataW H)}{before pa pv:List MemPlace}
  (hW:DataW.Whole enc P f.params.toList s.vars apart W args.toList ds gs before)
  (hres:∀(b:Nat) (sp:Nat→Bool) (hd:Bool),DataW.TrodAll enc P W' b sp hd f.resultTypes.toList (v.resultList f.resultTypes.size) (s.fn H (ds++gs)).results [])
  (hargs:∀sp:Nat→Bool,(∀p∈before,sp p.block=true)→DataW.TrodAll enc P W' 0 sp true f.params.toList args.toList (s.fn H (ds++gs)).args pa)
  (hvars:∀sp:Nat→Bool,(∀p∈before,sp p.block=true)→DataW.TrodVars enc P W' sp s.vars (s.fn H (ds++gs)).vars pv)
  (hps:before=pa++pv) (hb:Below W.heap.size W W')
  (hok:∀(j:Nat) (t:TypeId) (r:Value),f.resultTypes[j]?=some t→(v.resultList f.resultTypes.size)[j]?=some r→Value.okWide P W' .any 0 t r):
  s.post enc P f apart fresh handsOn again W args v W':=by
 have hlt:∀p∈before,p.block<W.heap.size:=fun p hp=>hW.lt p hp;have hold:∀p∈before,(fun b=>decide (b<W.heap.size)) p.block=true:=fun p hp=>by simpa using hlt p hp
 refine⟨ds,gs,before,[],pa,pv,hW,hres _ _ _,hargs _ hold,hvars _ hold,World.keptBut_mono (fun p hp=>⟨hp,?_⟩) (hb.frame (·∈before)),fun _=> ?_⟩
 ·rw[hps,List.mem_append]at hp;exact Or.inr hp
 ·obtain⟨_,_,_,_,_,hz,hn⟩:=hW;refine⟨hok,_,_,([]++pa)++pv,⟨[]++pa,pv,trodAll_append (hargs _ (fun _ _=>rfl)) (hres _ _ _),hvars _ (fun _ _=>rfl),rfl,?_,?_⟩,?_⟩
  ·intro b off hp;have hin:MemPlace.cell b off∈before:=by rw[hps];simpa using hp
   rw[hb.frozen (hlt _ hin)];exact hz b off hin
  ·intro ha;have:=hn ha;rw[hps]at this;simpa using this
  ·intro p hp _;rw[hps];simpa using hp
set_option maxRecDepth 100000 in
theorem lifts(f:FuncId)(fn:Func)(sp:ChangeSpec){W W':World}{args:Array Value}{ds gs:List (DataW H)}{before:List MemPlace}{fresh handsOn again:Bool}
  (hv:sp.vars=[]) (hr:(fn.params.toList.all fun t=>Tryz.prog.readableRec t&&decide (t<Tryz.prog.types.size))=true) (hres:fn.resultTypes= #[4])
  (hfn:sp.fn H (ds++[])={ results:=[.lit (.bool true)],args:=ds })
  (hW:DataW.Whole enc Tryz.prog fn.params.toList sp.vars false W args.toList ds gs before) (hb:Below W.heap.size W W'):
  sp.post enc Tryz.prog fn false fresh handsOn again W args (.bool true) W':=by
 have hW':=hW;obtain⟨p,q,hA,hV,rfl,_,_⟩:=hW;rw[hv]at hV;obtain⟨rfl,rfl⟩:=trodVars_none hV;have hlt:∀x∈p,x.block<W.heap.size:=fun x hx=>hW'.lt x (by simp[hx]);refine post_of_below (pa:=p) (pv:=[]) hW' (fun b sp' hd=> ?_) (fun sp' hsp=> ?_) (fun sp' hsp=> ?_) rfl hb ?_
 ·rw[hfn,hres];exact trodAll_mk1 (shut_bool Tryz.underlying4 _)
 ·rw[hfn];exact trodAll_stays hb hr hA hlt (fun x hx=>hsp x (by simp[hx]))
 ·rw[hfn,hv];rfl
 ·exact ok_one hres rfl (okWide_bool_mk Tryz.underlying4 _)
end
end Go.Proofs.YtcpaleaajdilgaaGreatDoor
end

section
namespace Go.Proofs.YtcpaleaajdilgaaGreatDoor
open Go.ChangeShapes Go.WideShapes Go.ChangeAt Go.RowKit Go.Lib Go.Mor Go.Deep Go.Joins
open Go.Sh (RelT RelV TV PV SCalls Env MSim objB objR objX Low)
open Go.ChangeMaps (open_string shut_string)
def envAll(w:World):Env:=⟨fun k _=>k<w.heap.size,fun _=>0,fun _=>none,fun _=>0⟩
theorem objB_nil(d:Nat):objB [] d=none:=by simp[objB]
theorem objR_nil(d:Nat):objR [] d=none:=by simp[objR]
theorem calls_of_sc{P:Program}{f:Nat}{xs:List TV}{vs:List Value}{w:World}{g:Go.Sh.Glob}{b:Value}(h:SCalls P g f xs [] (.pv (.v b)) [])(hG:g.G w)(hl:xs.length=vs.length)
  (hr:∀(j:Nat) x v,xs[j]?=some x→vs[j]?=some v→RelT w (envAll w) (objR []) x v):Calls P f vs.toArray w fun e w'=>e=.returned b∧Below w.heap.size w w':=by
 have hX:∀d k,¬objX (envAll w) [] d k:=by
  rintro d k (⟨cs,h1,_⟩|⟨q,cap,h1,_⟩)
  ·rw[objB_nil]at h1;cases h1
  ·rw[objR_nil]at h1;cases h1
 refine(h.2 w (envAll w) vs hG ?_ (fun d k hd=>absurd hd (hX d k)) hl hr).mono ?_
 ·refine⟨fun d cs hd=> ?_,fun d e W n hd=> ?_,fun d d' cs cs' hd=> ?_,fun d d' cs q k cap hd=> ?_,fun d d' q q' k cap cap' hd=> ?_,fun k o hk=>hk,⟨rfl,rfl,rfl,Nat.le_refl _,fun _ _ _=>rfl⟩,fun k o u hk hu=>⟨hk,hu⟩,fun k o hk=> .inl hk,?_⟩
  ·rw[objB_nil]at hd;cases hd
  ·rw[objR_nil]at hd;cases hd
  ·rw[objB_nil]at hd;cases hd
  ·rw[objB_nil]at hd;cases hd
  ·rw[objR_nil]at hd;cases hd
  ·have hold:∀d,¬(Go.Sh.start w (envAll w) [] 0).old d:=fun d h=>by have h1:1000≤d∧d<1000+0:=h;omega
   constructor<;>(intros;first|(exfalso;apply hold;assumption)|rfl)
 ·rintro e w' ⟨v,E',rfl,hm,hv,_⟩;obtain rfl:=Go.Sh.val_rel (y:=b) hv rfl;exact⟨rfl,hm.low.os,hm.low.tape,hm.low.output,hm.low.size,fun k hk=>hm.low.block k hk (fun d=>hX d k)⟩
end Go.Proofs.YtcpaleaajdilgaaGreatDoor
end

section
namespace Go.Proofs.YtcpaleaajdilgaaGreatDoor
open Go.ChangeShapes Go.WideShapes Go.ChangeAt Go.RowKit Go.Lib Go.Mor Go.Deep Go.Joins
open Go.Sh (RelT RelV TV PV SCalls Env MSim objB objR objX Low)
open Go.ChangeMaps (open_string shut_string)
set_option maxRecDepth 100000
section
variable{H:Type}{enc:TypeId×Value→H}
theorem open_nums{t e:TypeId}{k:IntKind}(ht:Tryz.prog.underlying t=some (.slice e))(he:Tryz.prog.underlying e=some (.int k))(hc:Tryz.prog.cellsOf e=1)
  {W:World} {b0 base:Nat} {spare:Nat→Bool} {held:Bool} {v:Value} {d:DataW H} {p:List MemPlace} (hok:Value.okWide Tryz.prog W .any b0 t v) (h:DataW.Trod enc Tryz.prog W base spare held t v d p):
  ∃l:List Int,(∀x∈l,(Lit.int k x).wf=true)∧l.length≤9223372036854775807∧∀r,RelT W (envAll W) r (.pv (.sl 1 (l.map fun z=>[PV.v (.int k z)]))) v:=by
 obtain⟨a0,len,cap,rfl⟩:=okWide_slice ht hok;obtain⟨fuel,hf⟩:=h;rcases open_ints ht he hc hf with⟨hcs,hx⟩|⟨a,len',cap',zs,hcs,_,hl,hm,hz,hx,hcell,hwz⟩
 ·obtain⟨rfl,rfl,rfl⟩:a0=none∧len=0∧cap=0:=by simpa [Value.cells]using hcs
  exact⟨[],by simp,by simp,fun r=> .pv (.sl 1 [] 0 0 0 none (fun _ _=>undef) (by simp) (by simp) (by simp) (by simp) (by simp) (by simp))⟩
 ·obtain⟨rfl,rfl,rfl⟩:a0=some a∧len=len'∧cap=cap':=by simpa [Value.cells]using hcs
  have hlz:len≤zs.length:=by rw[hz];split<;>omega
  have hlen:(zs.take len).length=len:=by rw[List.length_take];omega
  refine⟨zs.take len,fun x hx=>hwz x (List.mem_of_mem_take hx),by unfold maxLen at hm;omega,fun r=> ?_⟩;have hL:((zs.take len).map fun z=>[PV.v (.int k z)]).length=len:=by rw[List.length_map,hlen]
  rcases Nat.eq_zero_or_pos zs.length with h0|h0
  ·obtain rfl:len=0:=by omega
   have e0:(zs.take 0).map (fun z=>[PV.v (.int k z)])=[]:=by simp
   rw[e0];exact .pv (.sl 1 [] 0 0 cap (some a) (fun _ _=>undef) (by simp) (by simp) hm (by simp) (by simp) (by simp))
  ·obtain⟨b,off,rfl,hcl⟩:=ints_at hcell h0;have cell:∀(i j:Nat) cs q,((zs.take len).map fun z=>[PV.v (.int k z)])[i]?=some cs→cs[j]?=some q→∃u,q=.v u∧W.cell? ⟨b,off+i*1+j,none⟩=some u∧Go.Sh.one u:=by
    intro i j cs q h1 h2;rw[List.getElem?_map,Option.map_eq_some_iff]at h1;obtain⟨z,hz1,rfl⟩:=h1;obtain⟨hi,he⟩:=gJ hz1;have hi':i<zs.length:=by rw[hlen]at hi;omega
    match j with
    |0=>
     simp at h2;subst h2;refine⟨_,rfl,?_,rfl⟩;have:=hcl i hi';rw[List.getElem_take]at he;rw[List.getD_eq_getElem?_getD,gE hi',Option.getD_some,he]at this;simpa using this
    |j+1=>simp at h2
   have key:RelV W (envAll W).K (.sl 1 ((zs.take len).map fun z=>[PV.v (.int k z)])) (.slice (some ⟨b,off,none⟩) ((zs.take len).map fun z=>[PV.v (.int k z)]).length cap):=by
    refine .sl 1 _ b off cap (some ⟨b,off,none⟩) (fun i j=>(W.cell? ⟨b,off+i*1+j,none⟩).getD undef) (fun _=>rfl) (by omega) hm (fun cs hcs=> ?_) (fun i j cs q h1 h2=> ?_) (fun i j cs q h1 h2=> ?_)
    ·obtain⟨r,_,rfl⟩:=List.mem_map.1 hcs;rfl
    ·obtain⟨u,_,hu,ho⟩:=cell i j cs q h1 h2;rw[hu];exact⟨z55 (a:=⟨b,off+i*1+j,none⟩) hu,rfl,ho⟩
    ·obtain⟨u,rfl,hu,ho⟩:=cell i j cs q h1 h2;rw[hu];exact .v u
   rw[hL]at key;exact .pv key
end
end Go.Proofs.YtcpaleaajdilgaaGreatDoor
end

section
namespace Go.Proofs.YtcpaleaajdilgaaGreatDoor
open Go Go.RowKit Go.Mor Go.Sh
def rfR1(r:RawF):List PV:=[.v (.int .i64 r.n),.v (.int .i64 r.k),.v (.int .i64 r.o),.v (.bool r.ix)]
def rfR(l:List RawF):List (List PV):=l.map rfR1
def rawT(x:Raw):TV:=.agg [.pv (.v (.int .i64 x.n)),.pv (.sl 4 (rfR x.fs))]
structure RawOk(x:Raw):Prop where
 n:I64 x.n
 fs:∀r∈x.fs,I64 r.n∧I64 r.k∧I64 r.o
 len:x.fs.length≤9223372036854775807
theorem rfGet(l:List RawF)(k:Nat):(rfR l)[k]?=(l[k]?).map rfR1:=by unfold rfR;rw[List.getElem?_map]
theorem rfLen(l:List RawF):(rfR l).length=l.length:=by unfold rfR;rw[List.length_map]
theorem class_step(l:List RawF)(i:Nat)(r:RawF)(h:l[i]?=some r):(l.take (i+1)).foldl addF []=addF ((l.take i).foldl addF []) r:=by
 rw[List.take_add_one,h];simp only[Option.toList_some,List.foldl_append,List.foldl_cons,List.foldl_nil]
theorem class_len(l:List RawF)(i:Nat):((l.take i).foldl addF []).length≤i:=by
 induction i with
 |zero=>simp
 |succ i ih=>
  cases h:l[i]? with
  |none=>
   have h1:l.take (i+1)=l.take i:=by rw[List.take_add_one,h];simp
   rw[h1];omega
  |some r=>
   rw[class_step l i r h];generalize(l.take i).foldl addF []=acc at ih ⊢;unfold addF;split
   ·rw[List.length_append,List.length_singleton];omega
   ·omega
theorem nmF_at{i:Nat}(h:i<6):([[PV.v (.string ⟨#[97]⟩)],[.v (.string ⟨#[98,50]⟩)],[.v (.string ⟨#[110,97,109,101]⟩)],[.v (.string ⟨#[110,101,120,116,95,111,110,101]⟩)],[.v (.string ⟨#[107,105,100,115]⟩)],[.v (.string ⟨#[120]⟩)]]:List (List PV))[i]?=some [.v (.string (str (nmF (i:Int))))]:=by
 have:i=0∨i=1∨i=2∨i=3∨i=4∨i=5:=by omega
 rcases this with rfl|rfl|rfl|rfl|rfl|rfl<;>rfl
theorem nmC_at{i:Nat}(h:i<6):([[PV.v (.string ⟨#[110,111,100,101]⟩)],[.v (.string ⟨#[105,116,101,109]⟩)],[.v (.string ⟨#[117,115,101,114]⟩)],[.v (.string ⟨#[112,97,103,101,95,49]⟩)],[.v (.string ⟨#[108,101,97,102]⟩)],[.v (.string ⟨#[113]⟩)]]:List (List PV))[i]?=some [.v (.string (str (nmC (i:Int))))]:=by
 have:i=0∨i=1∨i=2∨i=3∨i=4∨i=5:=by omega
 rcases this with rfl|rfl|rfl|rfl|rfl|rfl<;>rfl
end Go.Proofs.YtcpaleaajdilgaaGreatDoor
end

section
namespace Go.Proofs.YtcpaleaajdilgaaGreatDoor.OpR
open Go.ChangeShapes Go.WideShapes Go.ChangeAt Go.RowKit Go.Lib Go.Mor Go.Deep Go.Joins
open Go.ChangeMaps (open_string shut_string)
theorem list_of{α:Type}{n:Nat}{Q:Nat→α→Prop}(h:∀i,i<n→∃r,Q i r):∃l:List α,l.length=n∧∀(i:Nat) r,l[i]?=some r→Q i r:=by
 induction n with
 |zero=>exact⟨[],rfl,by simp⟩
 |succ n ih=>
  obtain⟨l,hl,hq⟩:=ih fun i hi=>h i (by omega);obtain⟨r,hr⟩:=h n (by omega);refine⟨l++[r],by simp[hl],fun i x hx=> ?_⟩;rw[List.getElem?_append]at hx;split at hx
  ·exact hq i x hx
  ·rw[List.getElem?_singleton]at hx;split at hx
   ·injection hx with hx;subst hx
    obtain rfl:i=n:=by omega
    exact hr
   ·cases hx
section
variable{H:Type}{enc:TypeId×Value→H}{P:Program}{w:World}{base:Nat}{spare:Nat→Bool}{held:Bool}
theorem open_fields{t e:TypeId}{fs:Array Field}{fuel:Nat}{cs:List Value}{x:DataW H×List MemPlace}(ht:P.underlying t=some (.slice e))(he:P.underlying e=some (.struct fs))
  (hone:oneCellFields P fs=true) (hC:P.cellsOf e=fs.size) (h:DataW.trod enc P w base spare held fuel t cs=some x):
  (cs=[.slice none 0 0])∨
  ∃(a:Addr) (len cap:Nat),cs=[.slice (some a) len cap]∧len≤cap∧cap≤maxLen∧
   ∀i,i<len→∃n,∀(j:Nat) (f:Field),fs[j]?=some f→∃(v:Value) (y:DataW H×List MemPlace),w.cell? (a.add (i*fs.size+j))=some v∧DataW.trod enc P w base spare held n f.type [v]=some y:=by
 rcases open_slice ht h with h0|⟨a,len,cap,m,n,D,Pl,hcs,hb,hl,hm,hmm,hx,hi⟩
 ·exact .inl h0.1
 ·refine .inr ⟨a,len,cap,hcs,hl,hm,fun i him=> ?_⟩;obtain⟨cs',hc,ht'⟩:=hi i (by rw[hmm];split<;>omega);rw[hC]at hc;obtain⟨ys,n',hn',hy,hlen,hyl,hf⟩:=DataW.trod_struct he ht';obtain⟨_,hcl,hat⟩:=World.cells?_some hc;refine⟨n',fun j f hj=> ?_⟩;obtain⟨ho,hk⟩:=hone_of hone j f hj;have hjl:j<fs.size:=(gA hj).1;have hcell:=hat j hjl;have hv:cs'[j]?=some (cs'[j]'(by omega)):=gE (by omega);have h1:=hf j f hj;rw[ho,hk]at h1;have hone':(cs'.drop j).take 1=[cs'[j]'(by omega)]:=by
   rw[List.drop_eq_getElem_cons (by omega)];rfl
  rw[hone']at h1;have hys:ys[j]?=some (ys[j]'(by omega)):=gE (by omega);refine⟨_,_,?_,h1.trans hys⟩;rw[←Go.Deep.add_add,hcell,hv]
end
theorem add_form{a:Addr}{w:World}{k:Nat}{v:Value}(h0:w.cell? a=some v):a=⟨a.block,a.off,none⟩∧a.add k=⟨a.block,a.off+k,none⟩:=by
 have:=World.cell?_spot h0;obtain⟨b,off,spot⟩:=a;simp at this;subst this;exact⟨rfl,Go.WideShapes.add_plain ..⟩
end Go.Proofs.YtcpaleaajdilgaaGreatDoor.OpR
namespace Go.Proofs.YtcpaleaajdilgaaGreatDoor
open Go.ChangeShapes Go.WideShapes Go.ChangeAt Go.RowKit Go.Lib Go.Mor Go.Deep Go.Joins
open Go.Sh (RelT RelV TV PV SCalls Env MSim objB objR objX Low)
open Go.ChangeMaps (open_string shut_string)
open Go.Proofs.YtcpaleaajdilgaaGreatDoor.OpR
section
variable{H:Type}{enc:TypeId×Value→H}
theorem open_rfs{W:World}{base:Nat}{spare:Nat→Bool}{held:Bool}{fuel:Nat}{c:Value}{y:DataW H×List MemPlace}(h:DataW.trod enc Tryz.prog W base spare held fuel 22 [c]=some y):
  ∃l:List RawF,(∀r∈l,I64 r.n∧I64 r.k∧I64 r.o)∧l.length≤9223372036854775807∧RelV W (envAll W).K (.sl 4 (rfR l)) c:=by
 rcases open_fields Tryz.underlying22 Tryz.underlying95 (by kernel_rfl) (by kernel_rfl) h with h0|⟨a,len,cap,hcs,hl,hm,hi⟩
 ·obtain rfl:c=.slice none 0 0:=by simpa using h0
  exact⟨[],by simp,by simp,.sl 4 [] 0 0 0 none (fun _ _=>undef) (by simp) (by simp) (by simp) (by simp) (by simp) (by simp)⟩
 ·obtain rfl:c=.slice (some a) len cap:=by simpa using hcs
  have key:∀i,i<len→∃r:RawF,(I64 r.n∧I64 r.k∧I64 r.o)∧a=⟨a.block,a.off,none⟩∧W.cell? ⟨a.block,a.off+i*4,none⟩=some (.int .i64 r.n)∧W.cell? ⟨a.block,a.off+i*4+1,none⟩=some (.int .i64 r.k)
    ∧W.cell? ⟨a.block,a.off+i*4+2,none⟩=some (.int .i64 r.o)∧W.cell? ⟨a.block,a.off+i*4+3,none⟩=some (.bool r.ix):=by
   intro i hlt;obtain⟨n0,hf0⟩:=hi 0 (by omega);obtain⟨v,y,hc0,_⟩:=hf0 0 _ rfl;have ha:a=⟨a.block,a.off,none⟩:=(add_form (k:=0) (by simpa [Addr.add]using hc0)).1;have hadd:∀k,a.add k=⟨a.block,a.off+k,none⟩:=fun k=>(add_form (k:=k) (by simpa [Addr.add]using hc0)).2;obtain⟨n,hf⟩:=hi i hlt;obtain⟨v0,y0,c0,t0⟩:=hf 0 _ rfl;obtain⟨v1,y1,c1,t1⟩:=hf 1 _ rfl;obtain⟨v2,y2,c2,t2⟩:=hf 2 _ rfl;obtain⟨v3,y3,c3,t3⟩:=hf 3 _ rfl;obtain⟨z0,e0,_,w0⟩:=DataW.trod_int Tryz.underlying3 t0;obtain⟨z1,e1,_,w1⟩:=DataW.trod_int Tryz.underlying3 t1;obtain⟨z2,e2,_,w2⟩:=DataW.trod_int Tryz.underlying3 t2;obtain⟨z3,e3,_⟩:=DataW.trod_bool Tryz.underlying4 t3;simp at e0 e1 e2 e3;subst e0 e1 e2 e3;rw[hadd]at c0 c1 c2 c3;exact⟨⟨z0,z1,z2,z3⟩,⟨bounds_i64 w0,bounds_i64 w1,bounds_i64 w2⟩,ha,c0,c1,c2,c3⟩
  obtain⟨l,hlen,hq⟩:=list_of key;refine⟨l,fun r hr=> ?_,by unfold maxLen at hm;omega,?_⟩
  ·obtain⟨i,hi⟩:=List.getElem?_of_mem hr;exact(hq i r hi).1
  ·have hL:(rfR l).length=len:=by rw[rfLen,hlen]
   rw[←hL];have cell:∀(i j:Nat) cs q,(rfR l)[i]?=some cs→cs[j]?=some q→∃u,q=.v u∧W.cell? ⟨a.block,a.off+i*4+j,none⟩=some u∧Go.Sh.one u:=by
    intro i j cs q h1 h2;rw[rfGet,Option.map_eq_some_iff]at h1;obtain⟨r,hr,rfl⟩:=h1;obtain⟨_,_,c0,c1,c2,c3⟩:=hq i r hr
    match j with
    |0=>simp[rfR1]at h2;subst h2;exact⟨_,rfl,c0,rfl⟩
    |1=>simp[rfR1]at h2;subst h2;exact⟨_,rfl,c1,rfl⟩
    |2=>simp[rfR1]at h2;subst h2;exact⟨_,rfl,c2,rfl⟩
    |3=>simp[rfR1]at h2;subst h2;exact⟨_,rfl,c3,rfl⟩
    |j+4=>simp[rfR1]at h2
   refine .sl 4 (rfR l) a.block a.off cap (some a) (fun i j=>(W.cell? ⟨a.block,a.off+i*4+j,none⟩).getD undef) (fun hne=> ?_) (by omega) hm (fun cs hcs=> ?_) (fun i j cs q h1 h2=> ?_) (fun i j cs q h1 h2=> ?_)
   ·obtain⟨r,hr⟩:∃r,l[0]?=some r:=by
     cases l with
     |nil=>exact absurd rfl hne
     |cons r q=>exact⟨r,rfl⟩
    rw[(hq 0 r hr).2.1]
   ·obtain⟨r,_,rfl⟩:=List.mem_map.1 hcs;rfl
   ·obtain⟨u,_,hu,ho⟩:=cell i j cs q h1 h2;rw[hu];exact⟨z55 (a:=⟨a.block,a.off+i*4+j,none⟩) hu,rfl,ho⟩
   ·obtain⟨u,rfl,hu,ho⟩:=cell i j cs q h1 h2;rw[hu];exact .v u
set_option maxRecDepth 100000 in
theorem open_raw4{W:World}{b0 base:Nat}{spare:Nat→Bool}{held:Bool}{v:Value}{d:DataW H}{p:List MemPlace}(hok:Value.okWide Tryz.prog W .any b0 24 v)(h:DataW.Trod enc Tryz.prog W base spare held 24 v d p):
  ∃x:Raw,RawOk x∧∀r,RelT W (envAll W) r (rawT x) v:=by
 obtain⟨c0,c1,y0,y1,m,rfl,_,_,hy0,hy1⟩:=open_agg2 Tryz.underlying24 (by kernel_rfl) (by kernel_rfl) hok h;obtain⟨z0,e0,_,w0⟩:=DataW.trod_int Tryz.underlying3 hy0;obtain rfl:c0=_:=by simpa using e0
 obtain⟨l,hl,hlen,hr⟩:=open_rfs hy1;refine⟨⟨z0,l⟩,⟨bounds_i64 w0,hl,hlen⟩,fun r=> ?_⟩;unfold rawT;refine .agg _ [_,c1] rfl (fun j q u hq hu=> ?_) (fun u hu=> ?_)
 ·match j with
  |0=>simp at hq hu;subst hq;subst hu;exact .pv (.v _)
  |1=>simp at hq hu;subst hq;subst hu;exact .pv hr
  |j+2=>simp at hq
 ·simp at hu;rcases hu with rfl|rfl
  ·rfl
  ·cases hr;rfl
end
end Go.Proofs.YtcpaleaajdilgaaGreatDoor
end

section
namespace Go.Proofs.YtcpaleaajdilgaaGreatDoor
open Go Go.RowKit Go.Mor Go.Shelf
attribute [local go_sem] Oper.semAt_some
set_option maxRecDepth 100000 in
set_option maxHeartbeats 1000000 in
theorem groups1_in(F:Fence)(n:Nat)(h6:F.fn 181)(hro:F.round=none)(hn:1≤n)(l Bn:Nat)(x:Int)(hx0: -9223372036854775808≤x)(hx1:x≤9223372036854775807)(Kp:World→World→Prop)(J Jx:List UInt8→World→Prop)
  (hY:∀pre (g:UInt8) W,J pre W→pre.length<10→YieldAt F (n-1) Tryz.prog l #[.int .u8 g.toNat] W fun e W'=>
   (e=.returned (.bool true)∧J (pre++[g]) W'∧Kp W W')∨(e=.returned (.bool false)∧Jx (pre++[g]) W'))
  (W:World) (hBn:W.cell? ⟨Bn,0,none⟩=some (.int .i64 x)) (h0:J [] W):
  CallsIn F n Tryz.prog 181 #[.func (.yield l) #[] #[],.pointer (some ⟨Bn,0,none⟩)] W fun e W'=>(∃v,e=.returned v)∧
   ((∃ys,ys=groups x∧J ys W')∨(∃pre,True∧Jx pre W')):=by
 refine callsIn_of_wp Tryz.func181 rfl h6 ?_ hro;simp only[Tryz.ntmps181,List.size_toArray,List.length_cons,List.length_nil,Nat.reduceAdd,Nat.reduceSub,Array.replicate_succ,Array.replicate_zero,List.push_toArray,List.append_toArray,List.nil_append,List.cons_append];obtain⟨fn,tmps,assign,body,hy,hR⟩:=hY [] (UInt8.ofNat (mag x%64*2+sgn x)) W h0 (by simp);by_cases hneg:x<0;all_goals
  first|rw[first_neg x hneg]at hy|rw[first_pos x hneg]at hy
  have HY:=Lib.hid hY;clear hY
  gi_wp2
  refine hR.mono ?_;clear hR hy;rintro e W1 (⟨rfl,hJ1,_⟩|⟨rfl,hx1⟩)
  ·gi_wp2
   gi_loopw [3] (fun p wr=>∃(pre:List UInt8) (m f:Nat),p=.int .u64 m∧Hid (groups x=pre++tailN f m)∧Hid (m<128 ^ f)∧m<9223372036854775808∧Hid (pre.length+f=10)∧J pre wr)
    (fun p _=>(intOf p).toNat)
   case atStart=>
    have hml:=mag_lt x hx0 hx1;have hme:=mag_eq x;refine⟨[UInt8.ofNat (mag x%64*2+sgn x)],mag x / 64,9,?_,rfl,?_,by omega,rfl,hJ1⟩
    ·congr 1;split at hme<;>omega
    ·show _<9223372036854775808;omega
   case round=>
    obtain⟨pre,m,f,rfl,hg,hlt,hm,hl,hJs⟩:=hrel;by_cases hm0:m=0
    ·subst hm0
     gi_wp2
     go_end0
     exact⟨⟨_,rfl⟩,.inl ⟨pre,by rw[hg.out,tailN_zero];simp,hJs⟩⟩
    ·have hne:((m:Int)==0)=false:=by simpa using hm0
     have hne':((m:Int) !=0)=true:=by simpa using hm0
     cases f with
     |zero=>exact absurd hlt.out (by simp;omega)
     |succ f=>
     obtain⟨fn,tmps,assign,body,hy,hR⟩:=HY.out pre (UInt8.ofNat (m%128)) wr hJs (by have:=hl.out;omega);rw[next_byte]at hy
     gi_wp2
     refine hR.mono ?_;clear hR hy;rintro e W3 (⟨rfl,hJ3,_⟩|⟨rfl,hJx3⟩)
     ·gi_wp2
      go_roundw
      case rel=>
       refine⟨pre++[UInt8.ofNat (m%128)],m / 128,f,by simp,?_,?_,by omega,?_,hJ3⟩
       ·show _=_;rw[hg.out];simp[tailN,hm0]
       ·show _<_;have:=hlt.out;rw[Nat.pow_succ]at this;exact Nat.div_lt_of_lt_mul (by rw[Nat.mul_comm];exact this)
       ·show _=_;have:=hl.out;simp;omega
      case measure=>simp[intOf];omega
     ·gi_wp2
      refine bodyPost_ret (results_none rfl _ _ _) rfl ?_;exact⟨⟨_,rfl⟩,.inr ⟨_,trivial,hJx3⟩⟩
  ·gi_wp2
   refine bodyPost_ret (results_none rfl _ _ _) rfl ?_;exact⟨⟨_,rfl⟩,.inr ⟨_,trivial,hx1⟩⟩
theorem groups_in(F:Fence)(n:Nat)(h5:F.fn 123)(hro:F.round=none)(x:Int)(w:World):
  CallsIn F n Tryz.prog 123 #[.int .i64 x] w fun e w'=>e=.returned (.func (.func 181) #[] #[.pointer (some ⟨w.heap.size,0,none⟩)])∧w'=w.alloc (.cells #[.int .i64 x] 3):=by
 refine callsIn_of_wp Tryz.func123 rfl h5 ?_ hro;simp only[Tryz.ntmps123,List.size_toArray,List.length_cons,List.length_nil,Nat.reduceAdd,Nat.reduceSub,Array.replicate_succ,Array.replicate_zero,List.push_toArray,List.append_toArray,List.nil_append,List.cons_append]
 gi_wp2
 go_ret
 exact⟨rfl,rfl⟩
theorem groups_stops(F:Fence)(n:Nat)(Kp:World→World→Prop)(h6:F.fn 181)(hro:F.round=none)(hn:1≤n)(Bn:Nat)(x:Int)(hx0: -9223372036854775808≤x)(hx1:x≤9223372036854775807)(w:World)(hBn:Bn<w.heap.size)
  (hc:w.cell? ⟨Bn,0,none⟩=some (.int .i64 x)):
  SeqStopsK F n Tryz.prog 181 #[.pointer (some ⟨Bn,0,none⟩)] (fun g:UInt8=> #[Value.int .u8 g.toNat]) Kp (fun ys=>ys=groups x) (fun _=>True) 10 w:=fun l J Jx W hW _ _ hY h0=>
 groups1_in F n h6 hro hn l Bn x hx0 hx1 Kp J Jx hY W ((hW.cell (p:=⟨Bn,0,none⟩) hBn).trans hc) h0
attribute [local go_sem] Oper.semAt_some
def u8(b:UInt8):Value:=.int .u8 b.toNat
theorem conv_row{P:Program}{W:World}{base src dst e:Nat}{v:Value}{l:List UInt8}(hs:P.underlying src=some (.slice e))(he:P.underlying e=some (.int .u8))(hd:P.underlying dst=some .string)
  (h:W.ownsRow base e 1 v l.length (l.map u8)):(convert src dst v).run P W=.ok (.string (str l)) W:=by
 have h':=h;rcases h.2 with⟨rfl,h0⟩|⟨g,cap,cur,rfl,_,_,_⟩
 ·obtain rfl:l=[]:=List.eq_nil_of_length_eq_zero h0;exact run_convert_bytes_nil W src e hs he 0 0 dst hd
 ·refine run_convert_bytes_back W src dst e ⟨g,0,none⟩ cap l hs he hd (fun j hj=> ?_);exact h'.cells (g:=g) rfl j _ (by simp[u8,gE hj])
theorem infoU8:(Tryz.prog.info? 5).map (fun i=>(i.zero,i.size,i.bytes))=some (some (.int .u8 0),1,1):=by kernel_rfl
theorem make10(w:World):(Instr.makeSlice 98 (.int .i64 0) (.int .i64 10)).run Tryz.prog w=.ok (.slice (some ⟨w.heap.size,0,none⟩) 0 10) (w.alloc (.cells (Array.replicate 10 (.int .u8 0)) 5)):=by kernel_rfl
set_option maxRecDepth 100000 in
set_option maxHeartbeats 2000000 in
theorem Num_in(F:Fence)(n:Nat)(h3:F.fn 64)(h4:F.fn 123)(h5:F.fn 181)(hro:F.round=none)(hn:3≤n)(x:Int)(hx0: -9223372036854775808≤x)(hx1:x≤9223372036854775807)(w:World):
  CallsIn F n Tryz.prog 64 #[.int .i64 x] w fun e W'=>e=.returned (.string (str (num x)))∧Below w.heap.size w W':=by
 have h1:1≤n:=by omega
 obtain⟨i0,hi,hz0,hz1,hz2⟩:=info_parts infoU8;have hmk:=make10;refine callsIn_of_wp_marks Tryz.func64 rfl h3 ?_ hro;simp only[Tryz.ntmps64,List.size_toArray,List.length_cons,List.length_nil,Nat.reduceAdd,Nat.reduceSub,Array.replicate_succ,Array.replicate_zero,List.push_toArray,List.append_toArray,List.nil_append,List.cons_append]
 gi_wp2_with (gi_at_call 123;refine(groups_in F (n-1) h4 hro _ _).mono ?_;rintro e w' ⟨rfl,rfl⟩)
 have bL0:=Boxed.new (w.alloc (.cells (Array.replicate 10 (.int .u8 0)) 5)) 98 (.slice (some ⟨w.heap.size,0,none⟩) 0 10);rw[World.size_alloc]at bL0;have bL:=bL0.alloc (.cells #[.int .i64 x] 3);have bN:=Boxed.new ((w.alloc (.cells (Array.replicate 10 (.int .u8 0)) 5)).alloc (.cells #[.slice (some ⟨w.heap.size,0,none⟩) 0 10] 98)) 3 (.int .i64 x);rw[World.size_alloc,World.size_alloc]at bN;have hB0:Below w.heap.size w (((w.alloc (.cells (Array.replicate 10 (.int .u8 0)) 5)).alloc (.cells #[.slice (some ⟨w.heap.size,0,none⟩) 0 10] 98)).alloc (.cells #[.int .i64 x] 3)):=
  (((Below.refl _ w).alloc (Nat.le_refl _) _).alloc (by simp) _).alloc (by simp;omega) _
 have hrow0:(((w.alloc (.cells (Array.replicate 10 (.int .u8 0)) 5)).alloc (.cells #[.slice (some ⟨w.heap.size,0,none⟩) 0 10] 98)).alloc (.cells #[.int .i64 x] 3)).ownsRow w.heap.size 5 1 (.slice (some ⟨w.heap.size,0,none⟩) 0 10) 0 []:=
  ((World.ownsRow_made w (Array.replicate 10 (.int .u8 0)) 10 (Nat.le_refl _) (by decide) (by simp)).alloc _).alloc _
 refine wpIn_rangeFunc_ownG hro h1 (gf:=181) (lb:= #[.pointer (some ⟨w.heap.size+1+1,0,none⟩)]) rfl h5 (enters_of Tryz.func181 (by kernel_rfl) rfl)
  (groups_stops F (n-1) (Below w.heap.size) h5 hro (by omega) (w.heap.size+1+1) x hx0 hx1 _ (by simp) bN.cell) belowK_t (belowK_b (by simp;omega)) (Below.refl _ _) (fun _=>rfl)
  (fun pre W=>(∃v,Boxed W (w.heap.size+1) 98 v∧W.ownsRow w.heap.size 5 1 v (pack pre).length ((pack pre).map u8)∧v≠ .slice none 0 0)∧Below w.heap.size w W)
  (fun _ _ _=>False)
  (OwnFrom.and (Own.from (holdsRow_own w.heap.size (w.heap.size+1) 98 5 1 (fun pre=>(pack pre).length) (fun pre=>(pack pre).map u8) (fun _ v=>v≠ .slice none 0 0)) _) (ownFrom_below (Nat.le_refl _) (by simp;omega)))
  (fun _ _ _ _ _ hs _ _=>hs)
  ⟨⟨_,bL,hrow0,by simp⟩,hB0⟩
  (fun g=>{ tmps:= #[.int .i64 x,undef,.string ⟨#[]⟩,.pointer (some ⟨w.heap.size+1,0,none⟩),.int .u8 g.toNat,undef,.slice (some ⟨w.heap.size,0,none⟩) 0 10,.int .i64 x,.func (.func 181) #[] #[.pointer (some ⟨w.heap.size+1+1,0,none⟩)],.int .u8 g.toNat,undef,undef,undef,undef,undef,undef,undef,undef,undef,undef,undef,undef,undef,undef,undef,undef,undef],defers:=[] }) ?assign ?body ?done ?stop
 case assign=>
  intro l x W K hK
  gi_wp2
  exact hK
 case body=>
  rintro l pre g W ⟨⟨v,hv,hrow,hnil⟩,hB⟩ hlt;have hc:=hv.cell;have hpl:(pack pre).length=pre.length:=z148 pre;obtain⟨P0,hP0⟩:∃P0,pack pre=P0:=⟨_,rfl⟩
  have HP:=Lib.hid hP0;rw[hP0]at hrow hpl;clear hP0;rcases hrow.2 with⟨rfl,_⟩|⟨gg,cap,cur,rfl,_,_,hcap,hcap2,_⟩
  ·exact absurd rfl hnil
  have hk:P0.length≤10:=by omega
  clear hpl hmk hx0 hx1 hlt;by_cases hl:P0=[]
  ·subst hl;simp only[List.length_nil,List.map_nil]at hrow
   gi_wp2_with (gi_at_builtin;refine wpListIn_append_own _ rfl _ _ 98 rfl w.heap.size 5 i0 (.int .u8 0) 1 1 Tryz.underlying98 hi hz0 hz1 hz2 rfl (by decide) _ _ _ rfl (hrow.alloc _) ⟨W.heap.size,0,none⟩ 1 1 [.int .u8 g.toNat] rfl rfl (cell_one_new _ _ _) (by simp[Value.oneCell']) (by decide) (by omega) (by have:=hB.size;simp;omega) ?_;intro v' w1 hown' hgrow _;obtain⟨g',cap',rfl⟩:=ownsRow_succ hown';obtain⟨hv1,hv2,hr2,hk2,hb2⟩:=hv.appended (by decide) hrow hB.size (by omega) hown' hgrow;have hc1:=hv1.cell;have hf1:=hv1.frozen)
   exact⟨hk2.from _,hb2,⟨_,hv2,by rw[pack_snoc,HP.out,bump_nil];exact hr2,by simp⟩,hB.trans hb2⟩
  ·obtain⟨Q,b,rfl⟩:=snoc_of P0 hl;have hcell:=hrow.cellAt Q.length (by simp);have hfz:=hrow.frozenAt Q.length;have hst:=hrow.stored Q.length (.int .u8 (((b.toNat:Int)+128)%256));have hle:w.heap.size≤gg:=by rcases hrow.2 with⟨h,_⟩|⟨g2,c2,cur2,h,hb2,_⟩;cases h;cases h;exact hb2
   have hne:=hv.not_row (by decide) hrow;simp only[List.length_append,List.length_cons,List.length_nil,Nat.zero_add,List.map_append,List.map_cons,List.map_nil]at hrow hcell hst hcap hk hv hc hne ⊢;rw[List.set_append_right _ _ (by simp)]at hst;simp only[List.length_map,Nat.sub_self,List.set_cons_zero]at hst;simp[u8]at hcell;obtain⟨hst1,hst2⟩:=hst;have hst3:=Lib.hid hst1;have hv':=hv.kept hst2 (by simpa [Value.ownBlock]using hne);have hcW:=hv'.cell;have hKO:KeepsOthers W (W.setCell ⟨gg,Q.length,none⟩ (.int .u8 (((b.toNat:Int)+128)%256))):=KeepsOthers.setCell _ _ _;have hBW:=(Below.refl w.heap.size W).setCell (p:=⟨gg,Q.length,none⟩) hle (.int .u8 (((b.toNat:Int)+128)%256));clear hst1 hst2 hrow hne hcap hcap2
   gi_wp2_with (gi_at_builtin;go_must (refine wpListIn_append_own _ rfl _ _ 98 rfl w.heap.size 5 i0 (.int .u8 0) 1 1 Tryz.underlying98 hi hz0 hz1 hz2 rfl (by decide) _ _ _ rfl (hst3.out.alloc _) ⟨W.heap.size,0,none⟩ 1 1 [.int .u8 g.toNat] rfl rfl (by have:=cell_one_new (W.setCell ⟨gg,Q.length,none⟩ (.int .u8 (((b.toNat:Int)+128)%256))) (.int .u8 g.toNat) 5;rwa [World.size_setCell]at this) (by simp[Value.oneCell']) (by unfold maxLen;omega) (by omega) (by have:=hB.size;simp;omega) ?_;intro v' w1 hown' hgrow _;obtain⟨g',cap',rfl⟩:=ownsRow_succ hown';obtain⟨hv1,hv2,hr2,hk2,hb2⟩:=hv'.appended (by decide) hst3.out (by have:=hB.size;simp;omega) (by omega) hown' hgrow;have hc1:=hv1.cell;have hf1:=hv1.frozen))
   exact⟨(hKO.trans hk2).from _,hBW.trans hb2,⟨_,hv2,by rw[pack_snoc,HP.out,bump_snoc];simpa [u8,add128]using hr2,by simp⟩,hB.trans (hBW.trans hb2)⟩
 case done=>
  rintro D ys W hD rfl ⟨⟨v,hv,hrow,hnil⟩,hB⟩ hK;have hc:=hv.cell;have hcv:=conv_row (P:=Tryz.prog) Tryz.underlying98 Tryz.underlying5 Tryz.underlying9 hrow
  gi_wp2
  refine⟨by simp,.inl ⟨_,_,rfl,run_takeDeferred hK,?_⟩⟩;exact⟨_,results_tmp rfl _ _ _,rfl,hB.trans (belowK_b (w:=w) (Nat.le_refl _) W D _ _ (by simp at hD;omega) hK rfl rfl)⟩
 case stop=>
  rintro D c pre W _ _ h _;exact h.elim
theorem Num_any(x:Int)(hx0: -9223372036854775808≤x)(hx1:x≤9223372036854775807)(w:World):
  Calls Tryz.prog 64 #[.int .i64 x] w fun e W'=>e=.returned (.string (str (num x)))∧Below w.heap.size w W':=
 (callsIn_wide (n:=3)).1 (Num_in Fence.wide 3 trivial trivial trivial rfl (by omega) x hx0 hx1 w)
end Go.Proofs.YtcpaleaajdilgaaGreatDoor
end

section
namespace Go.Proofs.YtcpaleaajdilgaaGreatDoor
open Go Go.RowKit Go.Mor Go.Stop Go.Extern
structure Glob(w:World)(a0 a1:Addr):Prop extends GlobU w where
 e0:w.cell? ⟨2,0,none⟩=some (.iface 352 (.pointer (some a0)))
 e1:w.cell? ⟨3,0,none⟩=some (.iface 352 (.pointer (some a1)))
 ne:a0≠a1
 b0:∃ca ta,w.heap[a0.block]?=some (.cells ca ta (0,0))
 b1:∃ca ta,w.heap[a1.block]?=some (.cells ca ta (0,0))
theorem heap_lt{w:World}{b:Nat}{o:Obj}(h:w.heap[b]?=some o):b<w.heap.size:=(gA h).1
theorem Glob.ext{w w':World}{a0 a1:Addr}(h:Glob w a0 a1)(hb:Below w.heap.size w w'):Glob w' a0 a1 where
 toGlobU:=h.toGlobU.ext hb
 e0:=(hb.cell (z55 h.e0)).trans h.e0
 e1:=(hb.cell (z55 h.e1)).trans h.e1
 ne:=h.ne
 b0:=by obtain⟨ca,ta,h0⟩:=h.b0;exact⟨ca,ta,(hb.block _ (heap_lt h0)).trans h0⟩
 b1:=by obtain⟨ca,ta,h0⟩:=h.b1;exact⟨ca,ta,(hb.block _ (heap_lt h0)).trans h0⟩
theorem isTypeOf(v:Value)(w:World):(callFunc 278 #[.iface 352 v]).run Tryz.prog w=.ok (.value (.iface 334 (.agg #[.pointer (some ⟨10,352,none⟩)]))) w:=by kernel_rfl
theorem isComparable(w:World):(callFunc 346 #[.agg #[.pointer (some ⟨10,352,none⟩)]]).run Tryz.prog w=.ok (.value (.bool true)) w:=by kernel_rfl
theorem isComp:(Tryz.prog.info? 352).map (·.comparable)=some true:=by kernel_rfl
theorem isSize:(Tryz.prog.info? 354).map (·.size)=some 1:=by kernel_rfl
theorem noIsE(v:Value)(xT:TypeId)(w:World):(Instr.typeAssert (.iface 352 v) xT 336 true).run Tryz.prog w=.ok (.tuple #[.nilIface,.bool false]) w:=run_typeAssert_lacksB Tryz.underlying336 (by kernel_rfl) (by kernel_rfl) v xT w
theorem noUnwrapE(v:Value)(xT:TypeId)(w:World):(Instr.typeAssert (.iface 352 v) xT 338 true).run Tryz.prog w=.ok (.tuple #[.nilIface,.bool false]) w:=run_typeAssert_lacksB Tryz.underlying338 (by kernel_rfl) (by kernel_rfl) v xT w
theorem noUnwrapsE(v:Value)(xT:TypeId)(w:World):(Instr.typeAssert (.iface 352 v) xT 340 true).run Tryz.prog w=.ok (.tuple #[.nilIface,.bool false]) w:=run_typeAssert_lacksB Tryz.underlying340 (by kernel_rfl) (by kernel_rfl) v xT w
theorem is_same(a:Addr)(w:World):
  Calls Tryz.prog 238 #[.iface 352 (.pointer (some a)),.iface 352 (.pointer (some a))] w fun e w'=>e=.returned (.bool true)∧w=w':=by
 obtain⟨i,hi,hcmp⟩:=gO isComp;obtain⟨j,hj,hjs⟩:=gO isSize;have tT:=isTypeOf;have cT:=isComparable;have heq:=run_eql_iface_ptr_same (P:=Tryz.prog) w a Tryz.underlying242 Tryz.underlying352 hi hcmp hj
 go_enter Tryz.func238,Tryz.ntmps238
 go_wp2
 refine wp_loop_rounds 1 ?_;rw[rounds_succ]
 go_wp2
 go_ret
 exact⟨rfl,rfl⟩
theorem is_nil(b:Addr)(w:World):
  Calls Tryz.prog 238 #[.nilIface,.iface 352 (.pointer (some b))] w fun e w'=>e=.returned (.bool false)∧w=w':=by
 have hn:=run_eql_iface_nil_left (P:=Tryz.prog) w 352 (.pointer (some b)) Tryz.underlying242
 go_enter Tryz.func238,Tryz.ntmps238
 go_wp2
 go_ret
 exact⟨rfl,rfl⟩
theorem is_other(a b:Addr)(ca cb:Array Value)(ta tb:TypeId)(w:World)(hne:a≠b)(ha:w.heap[a.block]?=some (.cells ca ta (0,0)))(hb:w.heap[b.block]?=some (.cells cb tb (0,0))):
  Calls Tryz.prog 238 #[.iface 352 (.pointer (some a)),.iface 352 (.pointer (some b))] w fun e w'=>e=.returned (.bool false)∧w=w':=by
 obtain⟨i,hi,hcmp⟩:=gO isComp;obtain⟨j,hj,hjs⟩:=gO isSize;have tT:=isTypeOf;have cT:=isComparable;have nE:=noIsE;have uE:=noUnwrapE;have vE:=noUnwrapsE;have heq:=run_eql_iface_ptr_other (P:=Tryz.prog) w Tryz.underlying242 Tryz.underlying352 hi hcmp hj (by rw[hjs];decide) hne ha hb
 go_enter Tryz.func238,Tryz.ntmps238
 go_wp2
 refine wp_loop_rounds 1 ?_;rw[rounds_succ]
 go_wp2
 go_ret
 exact⟨rfl,rfl⟩
theorem wrong_nil(w:World)(a0 a1:Addr)(hG:Glob w a0 a1):
  Calls Tryz.prog 183 #[.nilIface] w fun e w'=>e=.returned (.bool false)∧w=w':=by
 have e0:=hG.e0;have e1:=hG.e1;clear hG
 go_enter Tryz.func183,Tryz.ntmps183
 go_wp2_with fail
 refine(is_nil _ _).mono ?_;rintro e w' ⟨rfl,rfl⟩
 go_wp2_with fail
 refine(is_nil _ _).mono ?_;rintro e w' ⟨rfl,rfl⟩
 go_wp2_with fail
 go_ret
 exact⟨rfl,rfl⟩
theorem wrong_end(w:World)(a0 a1:Addr)(hG:Glob w a0 a1):
  Calls Tryz.prog 183 #[.iface 352 (.pointer (some a0))] w fun e w'=>e=.returned (.bool true)∧w=w':=by
 have e0:=hG.e0;have e1:=hG.e1;clear hG
 go_enter Tryz.func183,Tryz.ntmps183
 go_wp2_with fail
 refine(is_same _ _).mono ?_;rintro e w' ⟨rfl,rfl⟩
 go_wp2_with fail
 go_ret
 exact⟨rfl,rfl⟩
theorem wrong_form(w:World)(a0 a1:Addr)(hG:Glob w a0 a1):
  Calls Tryz.prog 183 #[.iface 352 (.pointer (some a1))] w fun e w'=>e=.returned (.bool true)∧w=w':=by
 have e0:=hG.e0;have e1:=hG.e1;obtain⟨c0,t0,h0⟩:=hG.b0;obtain⟨c1,t1,h1⟩:=hG.b1;have H:=Lib.hid (is_other a1 a0 c1 c0 t1 t0 w hG.ne.symm h1 h0);clear hG h0 h1
 go_enter Tryz.func183,Tryz.ntmps183
 go_wp2_with fail
 refine H.out.mono ?_;rintro e w' ⟨rfl,rfl⟩
 go_wp2_with fail
 refine(is_same _ _).mono ?_;rintro e w' ⟨rfl,rfl⟩
 go_wp2_with fail
 go_ret
 exact⟨rfl,rfl⟩
end Go.Proofs.YtcpaleaajdilgaaGreatDoor
end

section
namespace Go.Proofs.YtcpaleaajdilgaaGreatDoor
open Go Go.RowKit Go.Mor Go.Shelf
attribute [local go_sem] Oper.semAt_some
theorem bretw{a b:Bool}(h:a=b):Ending.returned (.bool a)=.returned (.bool b):=by rw[h]
def Keep2(Ba Bt:Nat)(W W':World):Prop:=W'.heap[Ba]?=W.heap[Ba]?∧W'.heap[Bt]?=W.heap[Bt]?
set_option maxRecDepth 100000 in
set_option maxHeartbeats 1000000 in
theorem from1_in(n:Nat)(l Ba Bt:Nat)(s:List UInt8)(a:Nat)(ha:a≤s.length)(hs:s.length<1125899906842624)(J Jx:List (Mor.Ix×UInt8)→World→Prop)
    (hY:∀pre (g:Mor.Ix×UInt8) W,J pre W→pre.length<s.length→YieldAt Fence.wide (n-1) Tryz.prog l #[.int .i64 g.1.val,.int .u8 g.2.toNat] W fun e W'=>
      (e=.returned (.bool true)∧J (pre++[g]) W'∧Keep2 Ba Bt W W')∨(e=.returned (.bool false)∧Jx (pre++[g]) W'))
    (W:World) (hBa:W.cell? ⟨Ba,0,none⟩=some (.int .i64 a)) (hBt:W.cell? ⟨Bt,0,none⟩=some (.string (str s))) (hJd:∀pre W,J pre W→J pre W.drew) (h0:J [] W):
    CallsIn Fence.wide n Tryz.prog 277 #[.func (.yield l) #[] #[],.pointer (some ⟨Ba,0,none⟩),.pointer (some ⟨Bt,0,none⟩)] W fun e W'=>(∃v,e=.returned v)∧
      ((∃ys,ys=pairs s a∧J ys W')∨(∃pre,pre<+:pairs s a∧Jx pre W')):=by
  refine callsIn_of_wp Tryz.func277 rfl trivial ?_ rfl
  simp only[Tryz.ntmps277,List.size_toArray,List.length_cons,List.length_nil,Nat.reduceAdd,Nat.reduceSub,Array.replicate_succ,Array.replicate_zero,List.push_toArray,List.append_toArray,List.nil_append,List.cons_append]
  have HY:=Lib.hid hY
  have HJ:=Lib.hid hJd
  clear hY hJd
  gi_wp2
  gi_loopw [4] (fun p wr => ∃ (k : Nat), p = .int .i64 ((a : Int) + k) ∧ a + k ≤ s.length ∧ J ((pairs s a).take k) wr ∧ wr.cell? ⟨Ba, 0, none⟩ = some (.int .i64 a) ∧ wr.cell? ⟨Bt, 0, none⟩ = some (.string (str s)))
        (fun p _=>s.length-(intOf p).toNat)
  case atStart=>exact⟨0,by simp,by omega,by simpa using h0,hBa,hBt⟩
  case round=>
    obtain⟨k,rfl,hk,hJs,hBa,hBt⟩:=hrel
    by_cases hlt2:a+k<s.length
    · obtain⟨fn,tmps,assign,body,hy,hR⟩:=HY.out ((pairs s a).take k) (Fin.ofNat _ k,s[a+k]) wr.drew (HJ.out _ _ hJs) (by rw[List.length_take,z141];omega)
      have hfin:((Fin.ofNat 1125899906842624 k).val:Int)=k:=by simp[Fin.ofNat];omega
      rw[hfin]at hy
      clear hfin
      have hR':RoundIn Fence.wide (n-1) Tryz.prog l fn tmps assign body wr.drew fun e W'=>∃t,e=.returned (.bool t)∧Hid ((t=true→J ((pairs s a).take k++[(Fin.ofNat _ k,s[a+k])]) W'∧Keep2 Ba Bt wr.drew W')∧(t=false→Jx ((pairs s a).take k++[(Fin.ofNat _ k,s[a+k])]) W')):=by
        refine hR.mono ?_
        rintro e W' (⟨rfl,h1,h2⟩|⟨rfl,h1⟩)
        · exact⟨true,rfl,fun _=>⟨h1,h2⟩,fun h=>by cases h⟩
        · exact⟨false,rfl,fun h=>(by cases h),fun _=>h1⟩
      have HR:=Lib.hid hR'
      clear hR hR'
      have hmix:Tryz.prog.follows .mixedOrders=true:=by kernel_rfl
      gi_wp2_with fail
      have hw1:IntKind.i64.wrap ((a:Int)+k-a)=k:=by rw[IntWalk.i64_in _ (by omega)];omega
      have hw2:(0:Int)≤(a:Int)+k:=by omega
      have hw3:(a:Int)+k<s.length:=by omega
      have hw4:((a:Int)+k).toNat=a+k:=by omega
      refine z92 open_wide 7 hmix (by kernel_rfl) ?_
      simp only[List.take_succ_cons,List.take_zero,List.drop_succ_cons,List.drop_zero]
      repeat still_step
      refine wpStill_nil ?_
      clear hw1
      gi_wp2
      refine⟨fun h=>(by cases h),HR.out.mono ?_⟩
      rintro e W3 ⟨t,rfl,ht⟩
      cases t
      · gi_wp2
        refine bodyPost_ret (results_none rfl _ _ _) rfl ?_
        refine⟨⟨_,rfl⟩,.inr ⟨_,?_,ht.2 (by simp)⟩⟩
        rw[←pairs_take s a k hlt2]
        exact List.take_prefix _ _
      · obtain⟨hJ3,hB3⟩:=ht.1 (by simp)
        have hBa3:=(World.cell?_of_block (w:=wr) (a:=⟨Ba,0,none⟩) hB3.1).trans hBa
        have hBt3:=(World.cell?_of_block (w:=wr) (a:=⟨Bt,0,none⟩) hB3.2).trans hBt
        gi_wp2
        go_roundw
        case rel=>exact⟨k+1,by go_num,by omega,by rw[pairs_take s a k hlt2];exact hJ3,hBa3,hBt3⟩
        case measure=>simp[intOf];omega
    · gi_wp2
      go_end0
      exact⟨⟨_,rfl⟩,.inl ⟨_,(List.take_of_length_le (by rw[z141];omega)),hJs⟩⟩
theorem from_in(n:Nat)(s:List UInt8)(a:Int)(w:World):
  CallsIn Fence.wide n Tryz.prog 237 #[.string (str s),.int .i64 a] w fun e w'=>e=.returned (.func (.func 277) #[] #[.pointer (some ⟨w.heap.size+1,0,none⟩),.pointer (some ⟨w.heap.size,0,none⟩)])∧w'=(w.alloc (.cells #[.string (str s)] 248)).alloc (.cells #[.int .i64 a] 3):=by
 refine callsIn_of_wp Tryz.func237 rfl trivial ?_ rfl;simp only[Tryz.ntmps237,List.size_toArray,List.length_cons,List.length_nil,Nat.reduceAdd,Nat.reduceSub,Array.replicate_succ,Array.replicate_zero,List.push_toArray,List.append_toArray,List.nil_append,List.cons_append]
 gi_wp2
 go_ret
 exact⟨rfl,rfl⟩
theorem has_any(s:List UInt8)(a m:Int)(w:World)(hs:s.length≤9223372036854775807)(ha: -9223372036854775808≤a)(ha1:a≤9223372036854775807):
  Calls Tryz.prog 236 #[.string (str s),.int .i64 a,.int .i64 m] w fun e w'=>e=.returned (.bool (decide (0≤a∧a≤s.length∧m≤s.length-a)))∧w'=w:=by
 go_enter Tryz.func236,Tryz.ntmps236
 go_wp2
 all_goals go_ret
 all_goals exact⟨bretw (by rw[Bool.eq_iff_iff];simp_all []<;>omega),rfl⟩
attribute [local go_sem] Oper.semAt_some
def NumPost(s:List UInt8)(a:Int)(b:Nat)(a0 a1:Addr)(w:World)(e:Ending)(w':World):Prop:=
 match rd s a with
 | .ok (n,z)=>e=.returned (.tuple #[.int .i64 n,.nilIface])∧w.grownBy w' (some b)∧w'.heap[b]?=some (.cells #[.string (str s),.int .i64 (a+z)] 250 (0,0))
 | .error false=>e=.returned (.tuple #[.int .i64 0,.iface 352 (.pointer (some a0))])∧Below w.heap.size w w'
 | .error true=>e=.returned (.tuple #[.int .i64 0,.iface 352 (.pointer (some a1))])∧Below w.heap.size w w'
theorem z52{w:World}{b t:Nat}{cs:Array Value}(h:w.heap[b]?=some (.cells cs t (0,0)))(i:Nat):w.cell? ⟨b,i,none⟩=cs[i]?:=by simp[World.cell?,h]
theorem blk_frozen{w:World}{b t:Nat}{cs:Array Value}(h:w.heap[b]?=some (.cells cs t (0,0)))(i:Nat):w.frozen? ⟨b,i,none⟩=false:=by simp[World.frozen?,h]
theorem rd_out{s:List UInt8}{a:Int}(h:¬(0≤a∧a<s.length)):rd s a=.error false:=by simp only[rd,if_neg h]
set_option maxRecDepth 100000 in
set_option maxHeartbeats 2000000 in
theorem number_out(s:List UInt8)(a:Int)(b:Nat)(a0 a1:Addr)(w:World)(hs:s.length<1125899906842624)(ha0: -9223372036854775808≤a)(ha1:a≤9223372036854775807)
  (hG:Glob w a0 a1) (hb:w.heap[b]?=some (.cells #[.string (str s),.int .i64 a] 250 (0,0))) (hin:¬(0≤a∧a<s.length)):
  Calls Tryz.prog 182 #[.pointer (some ⟨b,0,none⟩)] w fun e w'=>e=.returned (.tuple #[.int .i64 0,.iface 352 (.pointer (some a0))])∧Below w.heap.size w w':=by
 have hmix:Tryz.prog.follows .mixedOrders=true:=by kernel_rfl
 have hblt:=heap_lt hb;have c0:w.cell? ⟨b,0,none⟩=some (.string (str s)):=z52 hb 0;have c1:w.cell? ⟨b,0+1,none⟩=some (.int .i64 a):=z52 hb 1;have e0:=hG.e0;have g0:=z55 e0
 dsimp only at g0
 have hhas:∀W,Calls Tryz.prog 236 #[.string (str s),.int .i64 a,.int .i64 1] W fun e w'=>e=.returned (.bool false)∧w'=W:=fun W=>by
  have:=has_any s a 1 W (by omega) ha0 ha1
  rwa [decide_eq_false (by omega)]at this
 have HH:=Lib.hid hhas;clear hhas hG hb
 go_enter Tryz.func182,Tryz.ntmps182
 go_wp2_with fail
 go_step3
 go_wp2_with fail
 refine z39 9 hmix (by kernel_rfl) ?_;simp only[List.take_succ_cons,List.take_zero,List.drop_succ_cons,List.drop_zero]
 iterate 8 still_step
 still_call (HH.out _)
 refine wpStill_nil ?_
 go_wp2_with fail
 go_region
 all_goals go_wp2_with fail
 all_goals rw[Exit.noGoto_ret]
 all_goals refine bodyPost_ret (v:=.tuple #[.int .i64 0,.iface 352 (.pointer (some a0))]) (by simp[results,Tryz.results182,go_sem]) rfl ⟨rfl,by go_grown⟩
theorem from_any(s:List UInt8)(a:Int)(w:World):
  Calls Tryz.prog 237 #[.string (str s),.int .i64 a] w fun e w'=>e=.returned (.func (.func 277) #[] #[.pointer (some ⟨w.heap.size+1,0,none⟩),.pointer (some ⟨w.heap.size,0,none⟩)])∧w'=(w.alloc (.cells #[.string (str s)] 248)).alloc (.cells #[.int .i64 a] 3):=
 callsIn_wide.1 (from_in 3 s a w)
theorem from_stops(n:Nat)(Ba Bt:Nat)(s:List UInt8)(a:Nat)(ha:a≤s.length)(hs:s.length<1125899906842624)(w:World)
  (hc:w.cell? ⟨Ba,0,none⟩=some (.int .i64 a)) (hd:w.cell? ⟨Bt,0,none⟩=some (.string (str s))):
  SeqStopsK Fence.wide n Tryz.prog 277 #[.pointer (some ⟨Ba,0,none⟩),.pointer (some ⟨Bt,0,none⟩)] (fun g:Mor.Ix×UInt8=> #[Value.int .i64 g.1.val,Value.int .u8 g.2.toNat]) (Keep2 Ba Bt) (fun ys=>ys=pairs s a) (fun pre=>pre<+:pairs s a) s.length w:=fun l J Jx W hW hJ _ hY h0=>
 from1_in n l Ba Bt s a ha hs J Jx hY W ((hW.cell (p:=⟨Ba,0,none⟩) (z55 hc)).trans hc) ((hW.cell (p:=⟨Bt,0,none⟩) (z55 hd)).trans hd)
  (fun pre W1 hj=>hJ pre W1 W1.drew none hj ⟨rfl,rfl,rfl,Nat.le_refl _,fun _ _ _=>rfl⟩ (fun r e=>by cases e)) h0
theorem keep2_t{Ba Bt:Nat}{A B C:World}(h:Keep2 Ba Bt A B)(k:Keep2 Ba Bt B C):Keep2 Ba Bt A C:=⟨k.1.trans h.1,k.2.trans h.2⟩
theorem keep2_b{Ba Bt:Nat}{w:World}(ha:Ba<w.heap.size)(hb:Bt<w.heap.size)(W:World)(l:Nat)(o o':Obj)(hl:w.heap.size≤l)(_:W.heap[l]?=some o)(_:o.isCells=false)(_:o.isWalk=false):Keep2 Ba Bt W (W.putObj l o'):=
 ⟨World.putObj_heap_other (fun e=>by omega),World.putObj_heap_other (fun e=>by omega)⟩
theorem z41{A B:World}{row:Option Nat}{Bk t:Nat}{v:Value}(h:Boxed A Bk t v)(hg:A.grownBy B row)(hr:∀r,row=some r→∃o:Obj,A.heap[r]?=some o∧o.isCells=false):Boxed B Bk t v:=
 h.kept hg (fun e'=>by obtain⟨o,ho,hc⟩:=hr Bk e'.symm;rw[show A.heap[Bk]?=_ from h]at ho;cases ho;cases hc)
structure Mids(s:List UInt8)(a h:Nat)(w:World)(pre:List (Mor.Ix×UInt8))(W:World)(m sg:Int):Prop where
 bm:Boxed W (h+1+1) 247 (.int .u64 m)
 bs:Boxed W (h+1+1+1) 247 (.int .u64 sg)
 bz:Boxed W (h+1+1+1+1) 3 (.int .i64 0)
 b0:Boxed W h 3 (.int .i64 0)
 b1:Boxed W (h+1) 242 .nilIface
 m0:0≤m
 m1:m<18446744073709551616
 s0:0≤sg
 bl:Below h w W
 good:Begs s a pre→Mid s a pre m sg
def Outs(s:List UInt8)(a h:Nat)(w:World)(a1:Addr)(c:Code)(pre:List (Mor.Ix×UInt8))(W:World):Prop:=
  Below h w W∧
  ((c=.ret∧Boxed W h 3 (.int .i64 0)∧Boxed W (h+1) 242 (.iface 352 (.pointer (some a1)))∧(Begs s a pre→rdGo 0 (0,0) (s.drop a)=.error true))∨
   (c=.exit 0∧∃m sg z:Nat,Boxed W (h+1+1) 247 (.int .u64 m)∧Boxed W (h+1+1+1) 247 (.int .u64 sg)∧Boxed W (h+1+1+1+1) 3 (.int .i64 (z+1))∧Boxed W h 3 (.int .i64 0)∧Boxed W (h+1) 242 .nilIface∧z<1125899906842624∧
     (Begs s a pre→rdGo 0 (0,0) (s.drop a)=.ok (m,sg,z+1))))
theorem boxes5(w:World):Boxed (((((w.alloc (.cells #[.int .i64 0] 3)).alloc (.cells #[.nilIface] 242)).alloc (.cells #[.int .u64 0] 247)).alloc (.cells #[.int .u64 0] 247)).alloc (.cells #[.int .i64 0] 3)) w.heap.size 3 (.int .i64 0)∧Boxed (((((w.alloc (.cells #[.int .i64 0] 3)).alloc (.cells #[.nilIface] 242)).alloc (.cells #[.int .u64 0] 247)).alloc (.cells #[.int .u64 0] 247)).alloc (.cells #[.int .i64 0] 3)) (w.heap.size+1) 242 .nilIface∧Boxed (((((w.alloc (.cells #[.int .i64 0] 3)).alloc (.cells #[.nilIface] 242)).alloc (.cells #[.int .u64 0] 247)).alloc (.cells #[.int .u64 0] 247)).alloc (.cells #[.int .i64 0] 3)) (w.heap.size+2) 247 (.int .u64 0)∧Boxed (((((w.alloc (.cells #[.int .i64 0] 3)).alloc (.cells #[.nilIface] 242)).alloc (.cells #[.int .u64 0] 247)).alloc (.cells #[.int .u64 0] 247)).alloc (.cells #[.int .i64 0] 3)) (w.heap.size+3) 247 (.int .u64 0)∧Boxed (((((w.alloc (.cells #[.int .i64 0] 3)).alloc (.cells #[.nilIface] 242)).alloc (.cells #[.int .u64 0] 247)).alloc (.cells #[.int .u64 0] 247)).alloc (.cells #[.int .i64 0] 3)) (w.heap.size+4) 3 (.int .i64 0)∧(((((w.alloc (.cells #[.int .i64 0] 3)).alloc (.cells #[.nilIface] 242)).alloc (.cells #[.int .u64 0] 247)).alloc (.cells #[.int .u64 0] 247)).alloc (.cells #[.int .i64 0] 3)).heap.size=w.heap.size+5∧Below w.heap.size w (((((w.alloc (.cells #[.int .i64 0] 3)).alloc (.cells #[.nilIface] 242)).alloc (.cells #[.int .u64 0] 247)).alloc (.cells #[.int .u64 0] 247)).alloc (.cells #[.int .i64 0] 3)):=by
 refine⟨((((Boxed.new w _ _).alloc _).alloc _).alloc _).alloc _,?_,?_,?_,?_,by simp,?_⟩
 ·have:=Boxed.new (w.alloc (.cells #[.int .i64 0] 3)) 242 .nilIface;simp only[World.size_alloc]at this;exact((this.alloc _).alloc _).alloc _
 ·have:=Boxed.new ((w.alloc (.cells #[.int .i64 0] 3)).alloc (.cells #[.nilIface] 242)) 247 (.int .u64 0);simp only[World.size_alloc]at this;exact(this.alloc _).alloc _
 ·have:=Boxed.new (((w.alloc (.cells #[.int .i64 0] 3)).alloc (.cells #[.nilIface] 242)).alloc (.cells #[.int .u64 0] 247)) 247 (.int .u64 0);simp only[World.size_alloc]at this;exact this.alloc _
 ·have:=Boxed.new ((((w.alloc (.cells #[.int .i64 0] 3)).alloc (.cells #[.nilIface] 242)).alloc (.cells #[.int .u64 0] 247)).alloc (.cells #[.int .u64 0] 247)) 3 (.int .i64 0);simp only[World.size_alloc]at this;exact this
 ·go_grown
section
variable{s:List UInt8}{a H B:Nat}{w W:World}{a1:Addr}{pre q:List (Mor.Ix×UInt8)}{m sg:Int}
theorem set_keep2{Ba Bt c:Nat}(ha:Ba≠c)(hb:Bt≠c)(W:World)(v:Value):Keep2 Ba Bt W (W.setCell ⟨c,0,none⟩ v):=⟨Below.heap_setCell _ _ _ _ ha,Below.heap_setCell _ _ _ _ hb⟩
theorem closeA(h:Mids s a H w pre W m sg)(m' sg':Nat){v1 v2:Int}(e1:v1=m')(e2:v2=sg')(hg:Begs s a q→rdGo 0 (0,0) (s.drop a)=.ok (m',sg',1)):
  KeepsFrom B W (((W.setCell ⟨H+1+1,0,none⟩ (.int .u64 v1)).setCell ⟨H+1+1+1,0,none⟩ (.int .u64 v2)).setCell ⟨H+1+1+1+1,0,none⟩ (.int .i64 1))∧
  Outs s a H w a1 (.exit 0) q (((W.setCell ⟨H+1+1,0,none⟩ (.int .u64 v1)).setCell ⟨H+1+1+1,0,none⟩ (.int .u64 v2)).setCell ⟨H+1+1+1+1,0,none⟩ (.int .i64 1)):=by
 subst e1 e2;refine⟨(((KeepsOthers.setCell _ _ _).trans (KeepsOthers.setCell _ _ _)).trans (KeepsOthers.setCell _ _ _)).from _,?_,.inr ⟨rfl,m',sg',0,?_,?_,?_,?_,?_,by omega,hg⟩⟩
 ·exact((h.bl.setCell (p:=⟨H+1+1,0,none⟩) (by dsimp only;omega) _).setCell (p:=⟨H+1+1+1,0,none⟩) (by dsimp only;omega) _).setCell (p:=⟨H+1+1+1+1,0,none⟩) (by dsimp only;omega) _
 ·exact((h.bm.set _).other (by omega) _).other (by omega) _
 ·exact((h.bs.other (by omega) _).set _).other (by omega) _
 ·exact((h.bz.other (by omega) _).other (by omega) _).set _
 ·exact((h.b0.other (by omega) _).other (by omega) _).other (by omega) _
 ·exact((h.b1.other (by omega) _).other (by omega) _).other (by omega) _
theorem closeB(h:Mids s a H w pre W m sg)(m' sg':Nat){v1 v2:Int}(e1:v1=m')(e2:v2=sg')(hm:m'<64){Ba Bt:Nat}(ha:Ba=H+5+1)(hb:Bt=H+5)(hg:Begs s a q→Mid s a q m' sg'):
  KeepsFrom B W ((W.setCell ⟨H+1+1,0,none⟩ (.int .u64 v1)).setCell ⟨H+1+1+1,0,none⟩ (.int .u64 v2))∧Keep2 Ba Bt W ((W.setCell ⟨H+1+1,0,none⟩ (.int .u64 v1)).setCell ⟨H+1+1+1,0,none⟩ (.int .u64 v2))∧
  ∃m sg,Mids s a H w q ((W.setCell ⟨H+1+1,0,none⟩ (.int .u64 v1)).setCell ⟨H+1+1+1,0,none⟩ (.int .u64 v2)) m sg:=by
 subst e1 e2 ha hb;refine⟨((KeepsOthers.setCell _ _ _).trans (KeepsOthers.setCell _ _ _)).from _,keep2_t (set_keep2 (by omega) (by omega) _ _) (set_keep2 (by omega) (by omega) _ _),m',sg',?_,?_,?_,?_,?_,by omega,by omega,by omega,?_,hg⟩
 ·exact(h.bm.set _).other (by omega) _
 ·exact(h.bs.other (by omega) _).set _
 ·exact(h.bz.other (by omega) _).other (by omega) _
 ·exact(h.b0.other (by omega) _).other (by omega) _
 ·exact(h.b1.other (by omega) _).other (by omega) _
 ·exact(h.bl.setCell (p:=⟨H+1+1,0,none⟩) (by dsimp only;omega) _).setCell (p:=⟨H+1+1+1,0,none⟩) (by dsimp only;omega) _
theorem closeC(h:Mids s a H w pre W m sg){v:Int}(h0:0≤v)(h1:v<18446744073709551616){Ba Bt:Nat}(ha:Ba=H+5+1)(hb:Bt=H+5)(hg:Begs s a q→Mid s a q v sg):
  KeepsFrom B W (W.setCell ⟨H+1+1,0,none⟩ (.int .u64 v)).drew∧Keep2 Ba Bt W (W.setCell ⟨H+1+1,0,none⟩ (.int .u64 v)).drew∧
  ∃m sg,Mids s a H w q (W.setCell ⟨H+1+1,0,none⟩ (.int .u64 v)).drew m sg:=by
 subst ha hb;refine⟨((KeepsOthers.setCell _ _ _).trans (KeepsOthers.drew _)).from _,set_keep2 (by omega) (by omega) W _,v,sg,?_,?_,?_,?_,?_,h0,h1,h.s0,?_,hg⟩
 ·exact h.bm.set _
 ·exact h.bs.other (by omega) _
 ·exact h.bz.other (by omega) _
 ·exact h.b0.other (by omega) _
 ·exact h.b1.other (by omega) _
 ·exact(h.bl.setCell (p:=⟨H+1+1,0,none⟩) (by dsimp only;omega) _).drew
theorem closeD(h:Mids s a H w pre W m sg){v:Int}{k:Nat}(hk:k<1125899906842624)(h0:0≤v)(hsg:0≤sg)(hg:Begs s a q→rdGo 0 (0,0) (s.drop a)=.ok (v.toNat,sg.toNat,k+1)):
  KeepsFrom B W ((W.setCell ⟨H+1+1,0,none⟩ (.int .u64 v)).setCell ⟨H+1+1+1+1,0,none⟩ (.int .i64 ((k:Int)+1))).drew∧
  Outs s a H w a1 (.exit 0) q ((W.setCell ⟨H+1+1,0,none⟩ (.int .u64 v)).setCell ⟨H+1+1+1+1,0,none⟩ (.int .i64 ((k:Int)+1))).drew:=by
 obtain⟨v,rfl⟩:=Int.eq_ofNat_of_zero_le h0;obtain⟨sg,rfl⟩:=Int.eq_ofNat_of_zero_le hsg;refine⟨(((KeepsOthers.setCell _ _ _).trans (KeepsOthers.setCell _ _ _)).trans (KeepsOthers.drew _)).from _,?_,.inr ⟨rfl,v,sg,k,?_,?_,?_,?_,?_,hk,hg⟩⟩
 ·exact((h.bl.setCell (p:=⟨H+1+1,0,none⟩) (by dsimp only;omega) _).setCell (p:=⟨H+1+1+1+1,0,none⟩) (by dsimp only;omega) _).drew
 ·exact(h.bm.set _).other (by omega) _
 ·exact(h.bs.other (by omega) _).other (by omega) _
 ·exact(h.bz.other (by omega) _).set _
 ·exact(h.b0.other (by omega) _).other (by omega) _
 ·exact(h.b1.other (by omega) _).other (by omega) _
theorem closeE(h:Mids s a H w pre W m sg)(hg:Begs s a q→rdGo 0 (0,0) (s.drop a)=.error true){W':World}(hW:W'=((W.setCell ⟨H,0,none⟩ (.int .i64 0)).setCell ⟨H+1,0,none⟩ (.iface 352 (.pointer (some a1)))).drew):
  KeepsFrom B W W'∧Outs s a H w a1 .ret q W':=by
 subst hW;refine⟨(((KeepsOthers.setCell _ _ _).trans (KeepsOthers.setCell _ _ _)).trans (KeepsOthers.drew _)).from _,?_,.inl ⟨rfl,?_,?_,hg⟩⟩
 ·exact((h.bl.setCell (p:=⟨H,0,none⟩) (Nat.le_refl _) _).setCell (p:=⟨H+1,0,none⟩) (by dsimp only;omega) _).drew
 ·exact(h.b0.set _).other (by omega) _
 ·exact(h.b1.other (by omega) _).set _
end
theorem shl_any(P:Program)(y:UInt8)(k:Nat)(hk:k<1125899906842624)(hk0:¬k=0):∃G:Int,0≤G∧G<18446744073709551616∧Hid (G=IntKind.u64.wrap ((y.toNat:Int)%128*2 ^ min (7*k-1) 64))∧
  ∀W,(Op.shift .shl .u64 ((y.toNat:Int)%128) .i64 (IntKind.i64.wrap (IntKind.i64.wrap (7*(k:Int)) - 1))).run P W=.ok (.int .u64 G) W:=by
 refine⟨IntKind.u64.wrap ((y.toNat:Int)%128*2 ^ min (7*k-1) 64),?_,?_,rfl,fun W=> ?_⟩
 ·simp[IntKind.wrap_u64];omega
 ·simp[IntKind.wrap_u64];omega
 ·rw[IntWalk.i64_in (7*(k:Int)) (by omega),IntWalk.i64_in _ (by omega)];have h1:¬(7*(k:Int) - 1<0):=by omega
  have h2:(7*(k:Int) - 1).toNat=7*k-1:=by omega
  simp only[Op.shift,h1,if_false,h2,IntKind.bits];rfl
theorem keepObj{W W':World}{D:Nat}{o:Obj}(h:KeepsOthers W W')(hK:W.heap[D]?=some o)(ho:o.isCells=false):W'.heap[D]?=some o:=h.same D o hK ho
theorem rd_err{s:List UInt8}{a:Nat}(hin:a<s.length){e:Bool}(h:rdGo 0 (0,0) (s.drop a)=.error e):rd s a=.error e:=by
 simp only[rd,Int.toNat_natCast,h];rw[if_pos (by omega)]
theorem rd_ok{s:List UInt8}{a m sg z:Nat}(hin:a<s.length)(h:rdGo 0 (0,0) (s.drop a)=.ok (m,sg,z)):rd s a=.ok (if sg=1 then -1-(m:Int)else m,z):=by
 simp only[rd,Int.toNat_natCast,h];rw[if_pos (by omega)]
theorem closeOk{s:List UInt8}{a b D:Nat}{w W:World}{v:Int}{x:Int}(hbl:Below w.heap.size w W)(hb:W.heap[b]?=some (.cells #[.string (str s),.int .i64 a] 250 (0,0)))(hbw:b<w.heap.size)
  (hK:W.heap[D]?=some (.deferred (some []))) (hD:w.heap.size+7≤D) (bx0:Boxed W w.heap.size 3 (.int .i64 0)) (bx1:Boxed W (w.heap.size+1) 242 .nilIface) {W':World}
  (hW:W'=(((W.setCell ⟨b,1,none⟩ (.int .i64 v)).setCell ⟨w.heap.size,0,none⟩ (.int .i64 x)).setCell ⟨w.heap.size+1,0,none⟩ .nilIface).drew):
  W'.heap[D]?=some (.deferred (some []))∧(W'.putObj D (.deferred none)).cell? ⟨w.heap.size,0,none⟩=some (.int .i64 x)∧(W'.putObj D (.deferred none)).cell? ⟨w.heap.size+1,0,none⟩=some .nilIface∧
  w.grownBy (W'.putObj D (.deferred none)) (some b)∧(W'.putObj D (.deferred none)).heap[b]?=some (.cells #[.string (str s),.int .i64 v] 250 (0,0)):=by
 subst hW;have hK2:=keepObj ((((KeepsOthers.setCell W ⟨b,1,none⟩ (.int .i64 v)).trans (KeepsOthers.setCell _ ⟨w.heap.size,0,none⟩ (.int .i64 x))).trans (KeepsOthers.setCell _ ⟨w.heap.size+1,0,none⟩ .nilIface)).trans (KeepsOthers.drew _)) hK rfl;have k0:Boxed (W.setCell ⟨b,1,none⟩ (.int .i64 v)) w.heap.size 3 (.int .i64 0):=(Below.heap_setCell _ _ _ _ (by dsimp only;omega)).trans bx0;have k1:Boxed (W.setCell ⟨b,1,none⟩ (.int .i64 v)) (w.heap.size+1) 242 .nilIface:=(Below.heap_setCell _ _ _ _ (by dsimp only;omega)).trans bx1;have q0:Boxed (((W.setCell ⟨b,1,none⟩ (.int .i64 v)).setCell ⟨w.heap.size,0,none⟩ (.int .i64 x)).setCell ⟨w.heap.size+1,0,none⟩ .nilIface).drew w.heap.size 3 (.int .i64 x):=(k0.set _).other (by omega) _;have q1:Boxed (((W.setCell ⟨b,1,none⟩ (.int .i64 v)).setCell ⟨w.heap.size,0,none⟩ (.int .i64 x)).setCell ⟨w.heap.size+1,0,none⟩ .nilIface).drew (w.heap.size+1) 242 .nilIface:=(k1.other (by omega) _).set _;have hbb:(((W.setCell ⟨b,1,none⟩ (.int .i64 v)).setCell ⟨w.heap.size,0,none⟩ (.int .i64 x)).setCell ⟨w.heap.size+1,0,none⟩ .nilIface).heap[b]?=some (.cells #[.string (str s),.int .i64 v] 250 (0,0)):=by
  rw[Below.heap_setCell _ _ _ _ (by dsimp only;omega),Below.heap_setCell _ _ _ _ (by dsimp only;omega)];simp[World.setCell,Array.getElem?_modify,hb]
 refine⟨hK2,?_,?_,?_,?_⟩
 ·exact(z41 q0 (grownBy_putObj' _ D (.deferred none)) (fun r e=>by cases e;exact⟨_,hK2,rfl⟩)).cell
 ·exact(z41 q1 (grownBy_putObj' _ D (.deferred none)) (fun r e=>by cases e;exact⟨_,hK2,rfl⟩)).cell
 ·refine⟨hbl.os,hbl.tape,hbl.output,?_,fun k hk hne=> ?_⟩
  ·have:=hbl.size;have:=(grownBy_putObj' (((W.setCell ⟨b,1,none⟩ (.int .i64 v)).setCell ⟨w.heap.size,0,none⟩ (.int .i64 x)).setCell ⟨w.heap.size+1,0,none⟩ .nilIface).drew D (.deferred none)).size;simp[World.size_setCell,World.drew]at this ⊢;omega
  ·rw[World.putObj_heap_other (fun e=>by omega)];show(((W.setCell ⟨b,1,none⟩ (.int .i64 v)).setCell ⟨w.heap.size,0,none⟩ (.int .i64 x)).setCell ⟨w.heap.size+1,0,none⟩ .nilIface).heap[k]?=_;have hkb:k≠b:=fun e=>hne (by rw[e]);rw[Below.heap_setCell _ _ _ _ (by dsimp only;omega),Below.heap_setCell _ _ _ _ (by dsimp only;omega),Below.heap_setCell _ _ _ _ (by dsimp only;omega),hbl.block k hk]
 ·rw[World.putObj_heap_other (fun e=>by omega)];exact hbb
theorem begs_all(s:List UInt8)(a:Nat):Begs s a (pairs s a):=List.prefix_refl _
set_option maxRecDepth 100000 in
set_option maxHeartbeats 4000000 in
theorem number_go(s:List UInt8)(a:Nat)(b:Nat)(a0 a1:Addr)(w:World)(hs:s.length<1125899906842624)(hin:a<s.length)
  (hG:Glob w a0 a1) (hb:w.heap[b]?=some (.cells #[.string (str s),.int .i64 a] 250 (0,0))):
  Calls Tryz.prog 182 #[.pointer (some ⟨b,0,none⟩)] w (NumPost s a b a0 a1 w):=by
 have hmix:Tryz.prog.follows .mixedOrders=true:=by kernel_rfl
 have hblt:=heap_lt hb;have c0:w.cell? ⟨b,0,none⟩=some (.string (str s)):=z52 hb 0;have c1:w.cell? ⟨b,0+1,none⟩=some (.int .i64 a):=z52 hb 1;have e0:=hG.e0;have e1:=hG.e1;have g0:=z55 e0;have g1:=z55 e1
 dsimp only at g0 g1
 have hhas:∀W,Calls Tryz.prog 236 #[.string (str s),.int .i64 a,.int .i64 1] W fun e w'=>e=.returned (.bool true)∧w'=W:=fun W=>by
  have:=has_any s a 1 W (by omega) (by omega) (by omega)
  rwa [decide_eq_true (by omega)]at this
 have HH:=Lib.hid hhas;have HG:=Lib.hid hG;have HB:=Lib.hid hb;clear hhas hG hb;refine callsIn_wide.1 (callsIn_of_wp_marks (n:=9) Tryz.func182 rfl trivial (wpIn_wide.2 ?_) rfl);simp only[Tryz.ntmps182,List.size_toArray,List.length_cons,List.length_nil,Nat.reduceAdd,Nat.reduceSub,Array.replicate_succ,Array.replicate_zero,List.push_toArray,List.append_toArray,List.nil_append,List.cons_append]
 go_wp2_with fail
 go_step3
 go_wp2_with fail
 refine z39 9 hmix (by kernel_rfl) ?_;simp only[List.take_succ_cons,List.take_zero,List.drop_succ_cons,List.drop_zero]
 iterate 8 still_step
 still_call (HH.out _)
 refine wpStill_nil ?_
 go_wp2_with fail
 go_step3
 go_wp2_with fail
 obtain⟨B0,B1,B2,B3,B4,hsz,hBl⟩:=boxes5 w;obtain⟨W0,hW0⟩:∃W0,(((((w.alloc (.cells #[.int .i64 0] 3)).alloc (.cells #[.nilIface] 242)).alloc (.cells #[.int .u64 0] 247)).alloc (.cells #[.int .u64 0] 247)).alloc (.cells #[.int .i64 0] 3))=W0:=⟨_,rfl⟩
 rw[hW0]at B0 B1 B2 B3 B4 hsz hBl ⊢;clear hW0;have d0:=(hBl.cell (p:=⟨b,0,none⟩) hblt).trans c0;have d1:=(hBl.cell (p:=⟨b,0+1,none⟩) hblt).trans c1;have HS:=Lib.hid hsz;clear hsz;refine z39 8 hmix (by kernel_rfl) ?_;simp only[List.take_succ_cons,List.take_zero,List.drop_succ_cons,List.drop_zero]
 iterate 8 still_step
 refine wpStill_nil ?_
 go_wp2_with fail
 refine(from_any _ _ _).mono ?_;rintro e w' ⟨rfl,rfl⟩
 go_wp2_with fail
 have BT0:=(Boxed.new W0 248 (.string (str s))).alloc (.cells #[.int .i64 a] 3);have BA0:=Boxed.new (W0.alloc (.cells #[.string (str s)] 248)) 3 (.int .i64 a);rw[World.size_alloc]at BA0;obtain⟨W1,hW1⟩:∃W1,((W0.alloc (.cells #[.string (str s)] 248)).alloc (.cells #[.int .i64 a] 3)).drew.drew=W1:=⟨_,rfl⟩
 have BT:Boxed W1 W0.heap.size 248 (.string (str s)):=by rw[←hW1];exact BT0
 have BA:Boxed W1 (W0.heap.size+1) 3 (.int .i64 a):=by rw[←hW1];exact BA0
 have b0:Boxed W1 w.heap.size 3 (.int .i64 0):=by rw[←hW1];exact(B0.alloc _).alloc _
 have b1:Boxed W1 (w.heap.size+1) 242 .nilIface:=by rw[←hW1];exact(B1.alloc _).alloc _
 have b2:Boxed W1 (w.heap.size+1+1) 247 (.int .u64 0):=by rw[←hW1];exact(B2.alloc _).alloc _
 have b3:Boxed W1 (w.heap.size+1+1+1) 247 (.int .u64 0):=by rw[←hW1];exact(B3.alloc _).alloc _
 have b4:Boxed W1 (w.heap.size+1+1+1+1) 3 (.int .i64 0):=by rw[←hW1];exact(B4.alloc _).alloc _
 have hBl1:Below w.heap.size w W1:=by rw[←hW1];exact((((hBl).alloc hBl.size _).alloc (by have:=hBl.size;simp;omega) _).drew).drew
 have hs1:W1.heap.size=w.heap.size+7:=by rw[←hW1];simp[World.drew,HS.out]
 rw[hW1];have H0:=HS.out;clear BT0 BA0 hW1 B0 B1 B2 B3 B4 hBl d0 d1;refine(wpIn_wide (n:=9)).1 (wpIn_rangeFunc_ownG rfl (by omega) (gf:=277) (lb:= #[.pointer (some ⟨W0.heap.size+1,0,none⟩),.pointer (some ⟨W0.heap.size,0,none⟩)]) rfl trivial (enters_of Tryz.func277 (by kernel_rfl) rfl)
  (from_stops 8 (W0.heap.size+1) W0.heap.size s a (by omega) hs W1 BA.cell BT.cell) keep2_t (keep2_b (by omega) (by omega)) (Below.refl _ _) (fun _=>rfl)
  (fun pre W=>∃m sg,Mids s a w.heap.size w pre W m sg)
  (fun c pre W=>Outs s a w.heap.size w a1 c pre W) ?hI ?hIx ⟨0,0,b2,b3,b4,b0,b1,by omega,by omega,by omega,hBl1,fun _=>⟨rfl,rfl,rfl,by decide,by simp⟩⟩ ?a1 ?assign ?body ?done ?stop)
 case hI=>
  rintro pre X Y row ⟨m,sg,h⟩ hg hr;have hr':=fun r e=>(hr r e).2;exact⟨m,sg,z41 h.bm hg hr',z41 h.bs hg hr',z41 h.bz hg hr',z41 h.b0 hg hr',z41 h.b1 hg hr',h.m0,h.m1,h.s0,h.bl.grown hg h.bl.size (fun k e=>by have:=(hr k e).1;omega),h.good⟩
 case hIx=>
  rintro c pre X Y row ⟨hbl,h⟩ hg hr;have hr':=fun r e=>(hr r e).2;refine⟨hbl.grown hg hbl.size (fun k e=>by have:=(hr k e).1;omega),?_⟩;rcases h with⟨hc,h0,h1,hgd⟩|⟨hc,m,sg,z,h2,h3,h4,h0,h1,hz,hgd⟩
  ·exact .inl ⟨hc,z41 h0 hg hr',z41 h1 hg hr',hgd⟩
  ·exact .inr ⟨hc,m,sg,z,z41 h2 hg hr',z41 h3 hg hr',z41 h4 hg hr',z41 h0 hg hr',z41 h1 hg hr',hz,hgd⟩
 case assign=>
  intro l x W K hK
  gi_wp2
  exact hK
 case body=>
  rintro l pre ⟨⟨k,hk⟩,y⟩ W ⟨m,sg,h⟩ hlt
  dsimp only
  have hy:y.toNat<256:=y.toNat_lt;have hm0:=h.m0;have hm1:=h.m1;have cm:=h.bm.cell;have fm:=h.bm.frozen;have cs:=h.bs.cell;have fs:=h.bs.frozen;have cz:=h.bz.cell;have fz:=h.bz.frozen;have cr:=h.b0.cell;have fr:=h.b0.frozen;have ce:=h.b1.cell;have fe:=h.b1.frozen;have hMi:=Lib.hid h;clear h H0 BT BA b0 b1 b2 b3 b4 hBl1 hlt c0 c1 e0;have hand:bits .and .u8 (y.toNat:Int) 127=((y.toNat%128:Nat):Int):=by
   have:=(by decide+kernel:∀z:Fin 256,bits .and .u8 ((z.val:Nat):Int) 127=((z.val%128:Nat):Int)) ⟨y.toNat,hy⟩
   exact this
  obtain⟨X,hX⟩:∃X:Mor.Ix×UInt8,X=(⟨k,hk⟩,y):=⟨_,rfl⟩
  have hXk:X.1.val=k:=by rw[hX]
  have hXy:X.2=y:=by rw[hX]
  rw[←hX];have HX1:=Lib.hid hXk;have HX2:=Lib.hid hXy;clear hX hXk hXy;by_cases hk0:k=0
  ·subst hk0;by_cases hlo:y.toNat<128
   ·gi_wp2_with fail
    refine closeA hMi.out (y.toNat%128 / 2) (y.toNat%128%2) (by omega) (by omega) (fun hg=> ?_);rw[Mid.ok hs hMi.out.good (by rw[HX1.out];simp) (by rw[HX2.out];exact hlo) hg,HX1.out];simp[stepM,HX1.out,HX2.out]
   ·gi_wp2_with fail
    refine closeB hMi.out (y.toNat%128 / 2) (y.toNat%128%2) (by omega) (by omega) (by omega) (Ba:=W0.heap.size+1) (Bt:=W0.heap.size) (by have:=HS.out;omega) HS.out (fun hg=> ?_);have:=Mid.cont hs hMi.out.good (by rw[HX1.out];simp) (by rw[HX2.out];omega) hg;simpa [stepM,HX1.out,HX2.out]using this
  ·have hk1:((k:Int)==0)=false:=by simp;omega
   by_cases hbad:y.toNat=0∨k=9∧1<y.toNat
   ·have HE:Begs s a (pre++[X])→rdGo 0 (0,0) (s.drop a)=.error true:=fun hg=>Mid.err hs hMi.out.good (by rw[HX1.out];exact hk0) (by rw[HX1.out,HX2.out];exact hbad) hg;have HE':=Lib.hid HE;have ge:=(hMi.out.bl.cell (p:=⟨3,0,none⟩) g1).trans e1;clear HE;by_cases hy0:y.toNat=0
    ·have hy1:((y.toNat:Int)==0)=true:=by simp;omega
     have HY0:=Lib.hid hy0;clear hy0 hbad
     gi_wp2_with fail
     gi_region_with_o (fail)
     all_goals gi_wp2_with fail
     all_goals exact closeE hMi.out HE'.out rfl
    ·have hy1:((y.toNat:Int)==0)=false:=by simp;omega
     have hk9':((k:Int)==9)=true:=by simp;omega
     have hgt:1<(y.toNat:Int):=by omega
     have HB:=Lib.hid hbad;clear hbad
     gi_wp2_with fail
     gi_region_with_o (fail)
     all_goals gi_wp2_with fail
     all_goals exact closeE hMi.out HE'.out rfl
   ·have hy0:((y.toNat:Int)==0)=false:=by simp;omega
    have hstep:Hid (∀G:Int,G=IntKind.u64.wrap ((y.toNat:Int)%128*2 ^ min (7*k-1) 64)→Begs s a (pre++[X])→bits .or .u64 m G=((stepM (stM pre) X).1:Nat)∧sg=((stepM (stM pre) X).2:Nat)):=
     fun G hG hg=>or_step hs hMi.out.good (by rw[HX1.out];exact hk0) (by rw[HX1.out,HX2.out];exact hbad) (by rw[HX1.out,HX2.out];exact hG) hg
    have hnb:Hid (¬(X.1.val≠0∧(X.2.toNat=0∨X.1.val=9∧1<X.2.toNat))):=by
     show ¬_;rw[HX1.out,HX2.out];exact fun hc=>hbad hc.2
    obtain⟨G,hG0,hG1,HGe,hsh⟩:=shl_any Tryz.prog y k hk hk0;have HSH:=Lib.hid hsh;clear hsh;obtain⟨M,hM⟩:∃M,bits .or .u64 m G=M:=⟨_,rfl⟩
    have hMb:0≤M∧M<18446744073709551616:=by
     obtain⟨m,rfl⟩:=Int.eq_ofNat_of_zero_le hm0;obtain⟨G,rfl⟩:=Int.eq_ofNat_of_zero_le hG0;have:=Nat.or_lt_two_pow (n:=64) (x:=m) (y:=G) (by omega) (by omega);rw[←hM,u64_or_nat _ _ (by omega) (by omega)];omega
    obtain⟨hM0,hM1⟩:=hMb;have HM:=Lib.hid hM;clear hM;by_cases hk9:k=9
    ·have hk9':((k:Int)==9)=true:=by simp;omega
     have hgt:¬(1<(y.toNat:Int)):=by omega
     have hHk:=Lib.hid hk9;clear hk9
     gi_wp2_with fail
     have hsh:=HSH.out;have hM:=HM.out;refine z92 (open_round l) 7 hmix (by kernel_rfl) ?_;simp only[List.take_succ_cons,List.take_zero,List.drop_succ_cons,List.drop_zero]
     iterate 7 still_step
     refine wpStill_nil ?_;clear hsh hM
     gi_wp2_with fail
     refine closeD hMi.out hk hM0 hMi.out.s0 (fun hg=> ?_);obtain⟨q1,q2⟩:=hstep.out G HGe.out hg;rw[HM.out]at q1;have hlo:y.toNat<128:=by omega
     rw[q1,q2];simpa [HX1.out]using Mid.ok hs hMi.out.good hnb.out (by rw[HX2.out];exact hlo) hg
    ·have hk9':((k:Int)==9)=false:=by simp;omega
     gi_wp2_with fail
     have hsh:=HSH.out;have hM:=HM.out;refine z92 (open_round l) 7 hmix (by kernel_rfl) ?_;simp only[List.take_succ_cons,List.take_zero,List.drop_succ_cons,List.drop_zero]
     iterate 7 still_step
     refine wpStill_nil ?_;clear hsh hM
     gi_wp2_with fail
     ·refine closeD hMi.out hk hM0 hMi.out.s0 (fun hg=> ?_);obtain⟨q1,q2⟩:=hstep.out G HGe.out hg;rw[HM.out]at q1;have hlo:y.toNat<128:=by omega
      rw[q1,q2];simpa [HX1.out]using Mid.ok hs hMi.out.good hnb.out (by rw[HX2.out];exact hlo) hg
     ·refine closeC hMi.out hM0 hM1 (Ba:=W0.heap.size+1) (Bt:=W0.heap.size) (by have:=HS.out;omega) HS.out (fun hg=> ?_);obtain⟨q1,q2⟩:=hstep.out G HGe.out hg;rw[HM.out]at q1;have hlo:128≤y.toNat:=by omega
      rw[q1,q2];exact Mid.cont hs hMi.out.good hnb.out (by rw[HX2.out];exact hlo) hg
 case done=>
  rintro D ys W hD rfl ⟨m,sg,h⟩ hK;have cz:=h.bz.cell;have cr:=h.b0.cell;have fr:=h.b0.frozen;have ce:=h.b1.cell;have fe:=h.b1.frozen;have ge:=(h.bl.cell (p:=⟨2,0,none⟩) g0).trans e0;have hMi:=Lib.hid h;have HK:=Lib.hid hK;clear h H0 BT BA b0 b1 b2 b3 b4 hBl1 c0 c1 e0 e1 hK
  go_wp2_with fail
  go_region
  all_goals go_wp2_with fail
  all_goals
   rw[Exit.noGoto_ret];have bx0:Boxed ((W.setCell ⟨w.heap.size,0,none⟩ (.int .i64 0)).setCell ⟨w.heap.size+1,0,none⟩ (.iface 352 (.pointer (some a0)))).drew w.heap.size 3 (.int .i64 0):=(hMi.out.b0.set (.int .i64 0)).other (show w.heap.size≠w.heap.size+1 by omega) (.iface 352 (.pointer (some a0)));have bx1:Boxed ((W.setCell ⟨w.heap.size,0,none⟩ (.int .i64 0)).setCell ⟨w.heap.size+1,0,none⟩ (.iface 352 (.pointer (some a0)))).drew (w.heap.size+1) 242 (.iface 352 (.pointer (some a0))):=(hMi.out.b1.other (show w.heap.size+1≠w.heap.size by omega) (.int .i64 0)).set (.iface 352 (.pointer (some a0)));have hK2:=keepObj (((KeepsOthers.setCell W ⟨w.heap.size,0,none⟩ (.int .i64 0)).trans (KeepsOthers.setCell _ ⟨w.heap.size+1,0,none⟩ (.iface 352 (.pointer (some a0))))).trans (KeepsOthers.drew _)) HK.out rfl;refine⟨by simp,.inl ⟨_,_,rfl,run_takeDeferred hK2,?_⟩⟩;have r0:=(z41 bx0 (grownBy_putObj' _ D (.deferred none)) (fun r e=>by cases e;exact⟨_,hK2,rfl⟩)).cell;have r1:=(z41 bx1 (grownBy_putObj' _ D (.deferred none)) (fun r e=>by cases e;exact⟨_,hK2,rfl⟩)).cell;refine⟨.tuple #[.int .i64 0,.iface 352 (.pointer (some a0))],by simp[results,Tryz.results182,go_sem,r0,r1],?_⟩
   have hgo:=(hMi.out.good (begs_all s a)).go;rw[z141,show a+(s.length-a)=s.length by omega,List.drop_length]at hgo;unfold NumPost;rw[rd_err hin hgo];exact⟨rfl,(((hMi.out.bl.setCell (p:=⟨w.heap.size,0,none⟩) (Nat.le_refl _) _).setCell (p:=⟨w.heap.size+1,0,none⟩) (by dsimp only;omega) _).drew).trans (belowK_b (w:=w) (Nat.le_refl _) _ D _ _ (by omega) hK2 rfl rfl)⟩
 case stop=>
  rintro D c pre W hD hSp ⟨hbl,hO⟩ hK;have HK:=Lib.hid hK;have HL:=Lib.hid hbl;rcases hO with⟨rfl,bx0,bx1,hgd⟩|⟨rfl,m,sg,z,bm,bs,bz,bx0,bx1,hz,hgd⟩
  ·refine wpIn_wide.2 ?_;have hgo:=hgd hSp;clear H0 BT BA b0 b1 b2 b3 b4 hBl1 c0 c1 e0 e1 hK hgd hbl
   go_wp2_with fail
   rw[Exit.noGoto_ret];have hK2:=HK.out;refine⟨by simp,.inl ⟨_,_,rfl,run_takeDeferred hK2,?_⟩⟩;have r0:=(z41 bx0 (grownBy_putObj' _ D (.deferred none)) (fun r e=>by cases e;exact⟨_,hK2,rfl⟩)).cell;have r1:=(z41 bx1 (grownBy_putObj' _ D (.deferred none)) (fun r e=>by cases e;exact⟨_,hK2,rfl⟩)).cell;refine⟨.tuple #[.int .i64 0,.iface 352 (.pointer (some a1))],by simp[results,Tryz.results182,go_sem,r0,r1],?_⟩;unfold NumPost;rw[rd_err hin hgo];exact⟨rfl,HL.out.trans (belowK_b (w:=w) (Nat.le_refl _) _ D _ _ (by omega) hK2 rfl rfl)⟩
  ·have HR:=Lib.hid (rd_ok hin (hgd hSp));have hb2:W.heap[b]?=some (.cells #[.string (str s),.int .i64 a] 250 (0,0)):=(hbl.block b hblt).trans HB.out;have d0:W.cell? ⟨b,0,none⟩=some (.string (str s)):=z52 hb2 0;have d1:W.cell? ⟨b,0+1,none⟩=some (.int .i64 a):=z52 hb2 1;have d2:W.frozen? ⟨b,0+1,none⟩=false:=blk_frozen hb2 1;have cm:=bm.cell;have cs:=bs.cell;have cz:=bz.cell;have cr:=bx0.cell;have fr:=bx0.frozen;have ce:=bx1.cell;have fe:=bx1.frozen;have hHB:=Lib.hid hb2;have hlz:(((z:Int)+1)==0)=false:=by simp;omega
   obtain⟨hm63,hsg1,hz0,hz10,hzl⟩:=rdGo_bound (s.drop a) 0 (0,0) (by omega) (by decide) (.inl rfl) (hgd hSp);have hm63':(m:Int)<9223372036854775808:=by omega
   simp only[List.length_drop]at hzl;clear H0 BT BA b0 b1 b2 b3 b4 hBl1 c0 c1 e0 e1 hK hgd hbl hb2;refine wpIn_wide.2 ?_;by_cases hsg:sg=1;all_goals
    first
     |have hsgB:((sg:Int)==1)=true:=by simp;omega
     |have hsgB:((sg:Int)==1)=false:=by simp;omega
    have HSG:=Lib.hid hsg;clear hsg
    go_wp2_with fail
    have hw1:IntKind.i64.wrap ((a:Int)+((z:Int)+1))=(a:Int)+((z:Int)+1):=IntWalk.i64_in _ (by omega);refine z39 8 hmix (by kernel_rfl) ?_;simp only[List.take_succ_cons,List.take_zero,List.drop_succ_cons,List.drop_zero]
    iterate 8 still_step
    refine wpStill_nil ?_;clear hw1
    go_wp2_with fail
    rw[Exit.noGoto_ret];obtain⟨hK2,r0,r1,hgr,hbk⟩:=closeOk HL.out hHB.out hblt HK.out (by omega) bx0 bx1 rfl;refine⟨by simp,.inl ⟨_,_,rfl,run_takeDeferred hK2,?_⟩⟩;refine⟨_,by simp[results,Tryz.results182,go_sem,r0,r1];rfl,?_⟩;unfold NumPost;rw[HR.out];first
     |(rw[if_pos HSG.out];exact⟨rfl,hgr,hbk⟩)
     |(rw[if_neg HSG.out];exact⟨rfl,hgr,hbk⟩)
theorem number_any(s:List UInt8)(a:Int)(b:Nat)(a0 a1:Addr)(w:World)(hs:s.length<1125899906842624)(ha0: -9223372036854775808≤a)(ha1:a≤9223372036854775807)
  (hG:Glob w a0 a1) (hb:w.heap[b]?=some (.cells #[.string (str s),.int .i64 a] 250 (0,0))):
  Calls Tryz.prog 182 #[.pointer (some ⟨b,0,none⟩)] w (NumPost s a b a0 a1 w):=by
 by_cases hin:0≤a∧a<s.length
 ·obtain⟨a,rfl⟩:=Int.eq_ofNat_of_zero_le hin.1;exact number_go s a b a0 a1 w hs (by omega) hG hb
 ·refine(number_out s a b a0 a1 w hs ha0 ha1 hG hb hin).mono ?_;rintro e w' ⟨rfl,hbl⟩;unfold NumPost;rw[rd_out hin];exact⟨rfl,hbl⟩
theorem blk_new(w:World)(t:TypeId)(cs:Array Value):(w.alloc (.cells cs t)).heap[w.heap.size]?=some (.cells cs t (0,0)):=World.alloc_heap_new w _
theorem below_new{w w':World}{o:Obj}(hg:(w.alloc o).grownBy w' (some w.heap.size)):Below w.heap.size w w':=
 ((Below.refl w.heap.size w).alloc (Nat.le_refl _) o).grown hg (by simp) (fun k e=>by cases e;exact Nat.le_refl _)
set_option maxRecDepth 10000 in
theorem ReadNum_any(s:List UInt8)(a:Int)(a0 a1:Addr)(w:World)(hs:s.length<1125899906842624)(ha0: -9223372036854775808≤a)(ha1:a≤9223372036854775807)(hG:Glob w a0 a1):
  Calls Tryz.prog 124 #[.string (str s),.int .i64 a] w fun e w'=>
   e=.returned (numRes (z31 s a))∧Below w.heap.size w w':=by
 have hmix:Tryz.prog.follows .mixedOrders=true:=by kernel_rfl
 have hB1:Below w.heap.size w (w.alloc (.cells #[.string (str s),.int .i64 a] 250)):=(Below.refl _ _).alloc (Nat.le_refl _) _;have hG1:=hG.ext hB1;have HN:=Lib.hid (number_any s a w.heap.size a0 a1 _ hs ha0 ha1 hG1 (blk_new w 250 #[.string (str s),.int .i64 a]));have HG:=Lib.hid hG;clear hG hG1
 go_enter Tryz.func124,Tryz.ntmps124
 go_wp2_with fail
 refine HN.out.mono ?_;intro e w' hp;unfold NumPost at hp;cases hr:rd s a with
 |error t=>
  rw[hr]at hp;have hrn:z31 s a=none:=by simp[z31,hr]
  have HRN:=Lib.hid hrn;clear hr hrn;cases t
  ·obtain⟨rfl,hbl⟩:=hp;have hbl':=hB1.trans (hbl.mono (by simp));have HW:=Lib.hid (wrong_end w' a0 a1 (HG.out.ext hbl'))
   go_wp2_with fail
   refine HW.out.mono ?_;rintro e w2 ⟨rfl,rfl⟩
   go_wp2_with fail
   go_ret3
   exact⟨by rw[HRN.out];rfl,hbl'⟩
  ·obtain⟨rfl,hbl⟩:=hp;have hbl':=hB1.trans (hbl.mono (by simp));have HW:=Lib.hid (wrong_form w' a0 a1 (HG.out.ext hbl'))
   go_wp2_with fail
   refine HW.out.mono ?_;rintro e w2 ⟨rfl,rfl⟩
   go_wp2_with fail
   go_ret3
   exact⟨by rw[HRN.out];rfl,hbl'⟩
 |ok p=>
  obtain⟨n,z⟩:=p;rw[hr]at hp;have hrn:z31 s a=some (n,a+z):=by simp[z31,hr]
  have HRN:=Lib.hid hrn;clear hr hrn;obtain⟨rfl,hgr,hbk⟩:=hp;have hbl':=below_new hgr;have HW:=Lib.hid (wrong_nil w' a0 a1 (HG.out.ext hbl'));have c1:w'.cell? ⟨w.heap.size,0+1,none⟩=some (.int .i64 (a+z)):=z52 hbk 1
  go_wp2_with fail
  refine HW.out.mono ?_;rintro e w2 ⟨rfl,rfl⟩
  go_wp2_with fail
  refine z39 5 hmix (by kernel_rfl) ?_;simp only[List.take_succ_cons,List.take_zero,List.drop_succ_cons,List.drop_zero]
  iterate 5 still_step
  refine wpStill_nil ?_
  go_wp2_with fail
  go_ret3
  exact⟨by rw[HRN.out];rfl,hbl'.drew⟩
theorem Text_any(s:List UInt8)(w:World)(hs:s.length≤9223372036854775807):
  Calls Tryz.prog 93 #[.string (str s)] w fun e w'=>
   e=.returned (textRes s)∧Below w.heap.size w w':=by
 by_cases hl:s.length≤10000
 ·have hnl:=z83 (s.length:Int)
  go_enter Tryz.func93,Tryz.ntmps93
  go_wp2_with fail
  refine(Num_any _ (by omega) (by omega) _).mono ?_;rintro e w2 ⟨rfl,hb2⟩
  go_wp2_with fail
  go_ret2
  exact⟨by rw[textRes,if_pos hl];rfl,hb2⟩
 ·go_enter Tryz.func93,Tryz.ntmps93
  go_wp2_with fail
  go_ret2
  exact⟨by rw[textRes,if_neg hl];rfl,Below.refl _ _⟩
def z98(s:List UInt8)(a:Int)(b:Nat)(a0 a1:Addr)(w:World)(e:Ending)(w':World):Prop:=
 match rdW s a with
 | .ok (t,z)=>e=.returned (.tuple #[.string (str t),.nilIface])∧w.grownBy w' (some b)∧w'.heap[b]?=some (.cells #[.string (str s),.int .i64 z] 250 (0,0))
 | .error false=>e=.returned (.tuple #[.string (str []),.iface 352 (.pointer (some a0))])∧w.grownBy w' (some b)
 | .error true=>e=.returned (.tuple #[.string (str []),.iface 352 (.pointer (some a1))])∧w.grownBy w' (some b)
theorem z176{w w':World}{r:Option Nat}(h:Below w.heap.size w w'):w.grownBy w' r:=⟨h.os,h.tape,h.output,h.size,fun k hk _=>h.block k hk⟩
theorem z118{w w':World}{r:Option Nat}(h:w.grownBy w' r):w.grownBy w'.drew r:=⟨h.os,h.tape,h.output,h.size,h.block⟩
theorem grown_trans{w w' w2:World}{r:Option Nat}(h:w.grownBy w' r)(h2:w'.grownBy w2 r):w.grownBy w2 r:=
 ⟨h2.os.trans h.os,h2.tape.trans h.tape,h2.output.trans h.output,Nat.le_trans h.size h2.size,fun k hk hn=>(h2.block k (Nat.lt_of_lt_of_le hk h.size) hn).trans (h.block k hk hn)⟩
set_option maxHeartbeats 1000000 in
set_option maxRecDepth 100000 in
theorem words_any(s:List UInt8)(a:Int)(b:Nat)(a0 a1:Addr)(w:World)(hs:s.length<1125899906842624)(ha0: -9223372036854775808≤a)(ha1:a≤9223372036854775807)
  (hG:Glob w a0 a1) (hb:w.heap[b]?=some (.cells #[.string (str s),.int .i64 a] 250 (0,0))) (hbG:2≠b∧3≠b):
  Calls Tryz.prog 184 #[.pointer (some ⟨b,0,none⟩)] w (z98 s a b a0 a1 w):=by
 have hmix:Tryz.prog.follows .mixedOrders=true:=by kernel_rfl
 have HN:=Lib.hid (number_any s a b a0 a1 w hs ha0 ha1 hG hb);have HG:=Lib.hid hG;have HB:=Lib.hid hb;clear hG hb
 go_enter Tryz.func184,Tryz.ntmps184
 go_wp2_with fail
 refine HN.out.mono ?_;intro e w' hp;unfold NumPost at hp;cases hr:rd s a with
 |error t=>
  rw[hr]at hp;have hrn:rdW s a=.error t:=by simp[rdW,hr]
  have HRN:=Lib.hid hrn;clear hr hrn;cases t
  ·obtain⟨rfl,hbl⟩:=hp
   go_wp2_with fail
   go_ret2
   unfold z98;rw[HRN.out];exact⟨rfl,z176 hbl⟩
  ·obtain⟨rfl,hbl⟩:=hp
   go_wp2_with fail
   go_ret2
   unfold z98;rw[HRN.out];exact⟨rfl,z176 hbl⟩
 |ok p=>
  obtain⟨n,z⟩:=p;rw[hr]at hp;have hbd:=rd_bound hr;have HR:=Lib.hid hr;clear hr;obtain⟨rfl,hgr,hbk⟩:=hp;have e0:=(World.cell?_of_block (w:=w) (a:=⟨2,0,none⟩) (hgr.block 2 (z55 HG.out.e0) (by simpa using hbG.1))).trans HG.out.e0;have e1:=(World.cell?_of_block (w:=w) (a:=⟨3,0,none⟩) (hgr.block 3 (z55 HG.out.e1) (by simpa using hbG.2))).trans HG.out.e1;have d0:w'.cell? ⟨b,0,none⟩=some (.string (str s)):=z52 hbk 0;have d1:w'.cell? ⟨b,0+1,none⟩=some (.int .i64 (a+z)):=z52 hbk 1;have d2:w'.frozen? ⟨b,0+1,none⟩=false:=blk_frozen hbk 1;have HBK:=Lib.hid hbk;clear hbk;by_cases hbad:n<0∨10000<n
  ·have HRN:Hid (rdW s a=.error true):=by show _=_;unfold rdW;rw[HR.out];exact if_pos hbad
   have HBD:=Lib.hid hbad;clear hbad;by_cases hn0:n<0
   ·go_wp2_with fail
    go_region
    go_wp2_with fail
    go_ret2
    unfold z98;rw[HRN.out];exact⟨rfl,z118 hgr⟩
   ·have hn1:10000<n:=by have:=HBD.out;omega
    go_wp2_with fail
    go_region
    go_wp2_with fail
    go_ret2
    unfold z98;rw[HRN.out];exact⟨rfl,z118 hgr⟩
  ·have hn0:0≤n:=by omega
   have hn1:n≤10000:=by omega
   clear hbad;by_cases hfit:(s.length:Int) - (a+z)<n
   ·have HRN:Hid (rdW s a=.error false):=by
     show _=_;unfold rdW;rw[HR.out];dsimp only;rw[if_neg (by omega),if_pos hfit]
    have hhas:∀W,Calls Tryz.prog 236 #[.string (str s),.int .i64 (a+z),.int .i64 n] W fun e w'=>e=.returned (.bool false)∧w'=W:=fun W=>by
     have:=has_any s (a+z) n W (by omega) (by omega) (by omega)
     rwa [decide_eq_false (by omega)]at this
    have HH:=Lib.hid hhas;clear hhas
    go_wp2_with fail
    refine z39 10 hmix (by kernel_rfl) ?_;simp only[List.take_succ_cons,List.take_zero,List.drop_succ_cons,List.drop_zero]
    iterate 9 still_step
    still_call (HH.out _)
    refine wpStill_nil ?_
    go_wp2_with fail
    go_region
    all_goals go_wp2_with fail
    all_goals go_ret2
    all_goals unfold z98
    all_goals rw[HRN.out]
    all_goals exact⟨rfl,z118 (z118 hgr)⟩
   ·have HRN:Hid (rdW s a=.ok ((s.drop (a+z).toNat).take n.toNat,a+z+n)):=by
     show _=_;unfold rdW;rw[HR.out];dsimp only;rw[if_neg (by omega),if_neg hfit]
    have hhas:∀W,Calls Tryz.prog 236 #[.string (str s),.int .i64 (a+z),.int .i64 n] W fun e w'=>e=.returned (.bool true)∧w'=W:=fun W=>by
     have:=has_any s (a+z) n W (by omega) (by omega) (by omega)
     rwa [decide_eq_true (by omega)]at this
    have HH:=Lib.hid hhas;clear hhas
    go_wp2_with fail
    refine z39 10 hmix (by kernel_rfl) ?_;simp only[List.take_succ_cons,List.take_zero,List.drop_succ_cons,List.drop_zero]
    iterate 9 still_step
    still_call (HH.out _)
    refine wpStill_nil ?_
    go_wp2_with fail
    have hb3:(w'.setCell ⟨b,1,none⟩ (.int .i64 (a+z+n))).heap[b]?=some (.cells #[.string (str s),.int .i64 (a+z+n)] 250 (0,0)):=by
     have:=HBK.out;simp[World.setCell,Array.getElem?_modify,this]
    have hg3:w.grownBy (w'.setCell ⟨b,1,none⟩ (.int .i64 (a+z+n))) (some b):=grown_trans hgr ⟨rfl,rfl,rfl,by simp,fun k _ hk=>Below.heap_setCell _ _ _ k (fun e=>hk (by rw[e]))⟩;obtain⟨W3,hW3⟩:∃W3,(w'.setCell ⟨b,1,none⟩ (.int .i64 (a+z+n)))=W3:=⟨_,rfl⟩
    rw[hW3]at hb3 hg3 ⊢;clear hW3 d0 d1 d2 hgr e0 e1;have d0:W3.cell? ⟨b,0,none⟩=some (.string (str s)):=z52 hb3 0;have d1:W3.cell? ⟨b,0+1,none⟩=some (.int .i64 (a+z+n)):=z52 hb3 1;have HB3:=Lib.hid hb3;clear hb3;have hw1:IntKind.i64.wrap (a+z)=a+z:=IntWalk.i64_in _ (by omega);have hw5:(0:Int)≤a+z+n:=by omega
    have hw2:(0:Int)≤a+z:=by omega
    have hw3:a+z≤a+z+n:=by omega
    have hw4:a+z+n≤s.length:=by omega
    refine z39 16 hmix (by kernel_rfl) ?_;simp only[List.take_succ_cons,List.take_zero,List.drop_succ_cons,List.drop_zero]
    iterate 16 still_step
    refine wpStill_nil ?_;clear hw1
    go_wp2_with fail
    go_ret2
    unfold z98;rw[HRN.out];refine⟨?_,z118 (z118 hg3),HB3.out⟩;have e1:(a+z+n).toNat-(a+z).toNat=n.toNat:=by omega
    simp[e1]
theorem glob_lt{w:World}{a0 a1:Addr}(hG:Glob w a0 a1):2≠w.heap.size∧3≠w.heap.size:=by
 have h0:=z55 hG.e0;have h1:=z55 hG.e1
 dsimp only at h0 h1
 omega
set_option maxRecDepth 10000 in
theorem ReadText_any(s:List UInt8)(a:Int)(a0 a1:Addr)(w:World)(hs:s.length<1125899906842624)(ha0: -9223372036854775808≤a)(ha1:a≤9223372036854775807)(hG:Glob w a0 a1):
  Calls Tryz.prog 125 #[.string (str s),.int .i64 a] w fun e w'=>e=.returned (readRes (z25 s a))∧Below w.heap.size w w':=by
 have hmix:Tryz.prog.follows .mixedOrders=true:=by kernel_rfl
 have hB1:Below w.heap.size w (w.alloc (.cells #[.string (str s),.int .i64 a] 250)):=(Below.refl _ _).alloc (Nat.le_refl _) _;have hG1:=hG.ext hB1;have HN:=Lib.hid (words_any s a w.heap.size a0 a1 _ hs ha0 ha1 hG1 (blk_new w 250 #[.string (str s),.int .i64 a]) (glob_lt hG));have HG:=Lib.hid hG;clear hG hG1
 go_enter Tryz.func125,Tryz.ntmps125
 go_wp2_with fail
 refine HN.out.mono ?_;intro e w' hp;unfold z98 at hp;cases hr:rdW s a with
 |error t=>
  rw[hr]at hp;have hrn:z25 s a=none:=by simp[z25,hr]
  have HRN:=Lib.hid hrn;clear hr hrn;cases t
  ·obtain⟨rfl,hgr⟩:=hp;have hbl':=below_new hgr;have HW:=Lib.hid (wrong_end w' a0 a1 (HG.out.ext hbl'))
   go_wp2_with fail
   refine HW.out.mono ?_;rintro e w2 ⟨rfl,rfl⟩
   go_wp2_with fail
   go_ret3
   exact⟨by rw[HRN.out];rfl,hbl'⟩
  ·obtain⟨rfl,hgr⟩:=hp;have hbl':=below_new hgr;have HW:=Lib.hid (wrong_form w' a0 a1 (HG.out.ext hbl'))
   go_wp2_with fail
   refine HW.out.mono ?_;rintro e w2 ⟨rfl,rfl⟩
   go_wp2_with fail
   go_ret3
   exact⟨by rw[HRN.out];rfl,hbl'⟩
 |ok p=>
  obtain⟨t,z⟩:=p;rw[hr]at hp;have hrn:z25 s a=some (t,z):=by simp[z25,hr]
  have HRN:=Lib.hid hrn;clear hr hrn;obtain⟨rfl,hgr,hbk⟩:=hp;have hbl':=below_new hgr;have HW:=Lib.hid (wrong_nil w' a0 a1 (HG.out.ext hbl'));have c1:w'.cell? ⟨w.heap.size,0+1,none⟩=some (.int .i64 z):=z52 hbk 1
  go_wp2_with fail
  refine HW.out.mono ?_;rintro e w2 ⟨rfl,rfl⟩
  go_wp2_with fail
  refine z39 5 hmix (by kernel_rfl) ?_;simp only[List.take_succ_cons,List.take_zero,List.drop_succ_cons,List.drop_zero]
  iterate 5 still_step
  refine wpStill_nil ?_
  go_wp2_with fail
  go_ret3
  exact⟨by rw[HRN.out];rfl,hbl'.drew⟩
end Go.Proofs.YtcpaleaajdilgaaGreatDoor
end

section
namespace Go.Proofs.YtcpaleaajdilgaaGreatDoor
open Go Go.RowKit Go.Mor Go.Sh
structure GlobN(a0 a1:Addr)(n:Nat)(w:World):Prop where
 g:Glob w a0 a1
 sz:n≤w.heap.size
 h0:a0.block<n
 h1:a1.block<n
 hv:10≤n
def gl(a0 a1:Addr)(n:Nat):Sh.Glob where
 G:=GlobN a0 a1 n
 n:=n
 st:=fun w w' h hk=>by
  have hv:=h.hv;refine⟨⟨globU_st h.hv h.g.toGlobU hk,?_,?_,h.g.ne,?_,?_⟩,size_st h.sz hk,h.h0,h.h1,h.hv⟩
  ·rw[World.cell?_of_block (w:=w) (hk _ (show 2<n by omega))];exact h.g.e0
  ·rw[World.cell?_of_block (w:=w) (hk _ (show 3<n by omega))];exact h.g.e1
  ·rw[hk _ h.h0];exact h.g.b0
  ·rw[hk _ h.h1];exact h.g.b1
 le:=fun w h=>h.sz
theorem sc_up{a0 a1:Addr}{m f:Nat}{xs:List TV}{os:List MO}{y:TV}{os':List MO}(h:SCalls Tryz.prog (gl0 m) f xs os y os'):SCalls Tryz.prog (gl a0 a1 m) f xs os y os':=
 sc_of (g:=gl0 m) (g':=gl a0 a1 m) rfl (fun w (hG:GlobN a0 a1 m w)=>(⟨hG.g.toGlobU,hG.sz,hG.hv⟩:GlobN0 m w)) h
def numTV(r:Option (Int×Int)):TV:=match r with|some (n,b)=> .tuple [I n,I b,I 0]|none=> .tuple [I 0,I 0,I 10]
def readTV(r:Option (List UInt8×Int)):TV:=match r with|some (t,b)=> .tuple [S (str t),I b,I 0]|none=> .tuple [S (str []),I 0,I 10]
def textTV(s:List UInt8):TV:=if s.length≤10000 then .tuple [S (str (text s)),I 0] else .tuple [S (str []),I 10]
def prim1:Oracle:=fun f xs os=>
 if Nat.beq f 64 then match xs,os with
  |[.pv (.v (.int .i64 x))],[]=>if in64 x then some (S (str (num x)),[])else none
  |_,_=>none
 else if Nat.beq f 124 then match xs,os with
  |[.pv (.v (.string s)),.pv (.v (.int .i64 a))],[]=>if in64 a&&decide ((bl s).length<1125899906842624)then some (numTV (z31 (bl s) a),[])else none
  |_,_=>none
 else if Nat.beq f 93 then match xs,os with
  |[.pv (.v (.string s))],[]=>if decide ((bl s).length≤9223372036854775807)then some (textTV (bl s),[])else none
  |_,_=>none
 else if Nat.beq f 125 then match xs,os with
  |[.pv (.v (.string s)),.pv (.v (.int .i64 a))],[]=>if in64 a&&decide ((bl s).length<1125899906842624)then some (readTV (z25 (bl s) a),[])else none
  |_,_=>none
 else prim0 f xs os
theorem z149(a0 a1:Addr)(n:Nat):SoundC Tryz.prog (gl a0 a1 n) prim1:=by
 intro f xs os y os' h;unfold prim1 at h;split at h
 ·rename_i hf;obtain rfl:=Nat.eq_of_beq_eq_true hf;split at h<;>try(cases h;done)
  rename_i x;split at h<;>try(cases h;done)
  rename_i hx;cases h;obtain⟨h1,h2⟩:=in64_spec hx;exact z71 (vs:=[.int .i64 x]) (z40 (by kernel_rfl)) (fun w E r=> .pv (.v _)) (fun w _=>Num_any x h1 h2 w)
 split at h
 ·rename_i hf;obtain rfl:=Nat.eq_of_beq_eq_true hf;split at h<;>try(cases h;done)
  rename_i s a;split at h<;>try(cases h;done)
  rename_i hx;cases h;rw[Bool.and_eq_true]at hx;obtain⟨h1,h2⟩:=in64_spec hx.1;refine z71 (vs:=[.string s,.int .i64 a]) (v:=numRes (z31 (bl s) a)) (z40 (by kernel_rfl)) (fun w E r=> ?_) (fun w hG=> ?_)
  ·generalize z31 (bl s) a=q;cases q with
   |none=>exact z135 [_,_,_]
   |some p=>exact z135 [_,_,_]
  ·have:=ReadNum_any (bl s) a a0 a1 w (by simpa using hx.2) h1 h2 hG.g;rw[str_bl]at this;exact this
 split at h
 ·rename_i hf;obtain rfl:=Nat.eq_of_beq_eq_true hf;split at h<;>try(cases h;done)
  rename_i s;split at h<;>try(cases h;done)
  rename_i hx;cases h;refine z71 (vs:=[.string s]) (v:=textRes (bl s)) (z40 (by kernel_rfl)) (fun w E r=> ?_) (fun w hG=> ?_)
  ·unfold textRes textTV;split<;>exact z135 [_,_]
  ·have:=Text_any (bl s) w (by simpa using hx);rw[str_bl]at this;exact this
 split at h
 ·rename_i hf;obtain rfl:=Nat.eq_of_beq_eq_true hf;split at h<;>try(cases h;done)
  rename_i s a;split at h<;>try(cases h;done)
  rename_i hx;cases h;rw[Bool.and_eq_true]at hx;obtain⟨h1,h2⟩:=in64_spec hx.1;refine z71 (vs:=[.string s,.int .i64 a]) (v:=readRes (z25 (bl s) a)) (z40 (by kernel_rfl)) (fun w E r=> ?_) (fun w hG=> ?_)
  ·generalize z25 (bl s) a=q;cases q with
   |none=>exact z135 [_,_,_]
   |some p=>exact z135 [_,_,_]
  ·have:=ReadText_any (bl s) a a0 a1 w (by simpa using hx.2) h1 h2 hG.g;rw[str_bl]at this;exact this
 exact sc_up (prim0_sound n _ _ _ _ _ h)
structure GlobNA(a0 a1:Addr)(n:Nat)(w:World):Prop extends GlobN a0 a1 n w where
 t:GlobT w
def glA(a0 a1:Addr)(n:Nat):Sh.Glob where
 G:=GlobNA a0 a1 n
 n:=n
 st:=fun w w' h hk=>⟨(gl a0 a1 n).st w w' h.toGlobN hk,globT_st h.hv h.t hk⟩
 le:=fun w h=>h.sz
theorem sc_1A{a0 a1:Addr}{m f:Nat}{xs:List TV}{os:List MO}{y:TV}{os':List MO}(h:SCalls Tryz.prog (gl a0 a1 m) f xs os y os'):SCalls Tryz.prog (glA a0 a1 m) f xs os y os':=
 sc_of (g:=gl a0 a1 m) (g':=glA a0 a1 m) rfl (fun w (hG:GlobNA a0 a1 m w)=>hG.toGlobN) h
structure GlobNX(a0 a1:Addr)(n:Nat)(w:World):Prop extends GlobNA a0 a1 n w where
 e:GlobE w
def glX(a0 a1:Addr)(n:Nat):Sh.Glob where
 G:=GlobNX a0 a1 n
 n:=n
 st:=fun w w' h hk=>⟨(glA a0 a1 n).st w w' h.toGlobNA hk,globE_st h.hv h.e hk⟩
 le:=fun w h=>h.sz
theorem sc_AX{a0 a1:Addr}{m f:Nat}{xs:List TV}{os:List MO}{y:TV}{os':List MO}(h:SCalls Tryz.prog (glA a0 a1 m) f xs os y os'):SCalls Tryz.prog (glX a0 a1 m) f xs os y os':=
 sc_of (g:=glA a0 a1 m) (g':=glX a0 a1 m) rfl (fun w (hG:GlobNX a0 a1 m w)=>hG.toGlobNA) h
theorem sc_1X{a0 a1:Addr}{m f:Nat}{xs:List TV}{os:List MO}{y:TV}{os':List MO}(h:SCalls Tryz.prog (gl a0 a1 m) f xs os y os'):SCalls Tryz.prog (glX a0 a1 m) f xs os y os':=sc_AX (sc_1A h)
theorem sc_EX{a0 a1:Addr}{m f:Nat}{xs:List TV}{os:List MO}{y:TV}{os':List MO}(h:SCalls Tryz.prog (glE m) f xs os y os'):SCalls Tryz.prog (glX a0 a1 m) f xs os y os':=
 sc_of (g:=glE m) (g':=glX a0 a1 m) rfl (fun w (hG:GlobNX a0 a1 m w)=>(⟨⟨⟨hG.g.toGlobU,hG.sz,hG.hv⟩,hG.t⟩,hG.e⟩:GlobNE m w)) h
end Go.Proofs.YtcpaleaajdilgaaGreatDoor
end

section
namespace Go.Proofs.YtcpaleaajdilgaaGreatDoor
open Go.ChangeShapes Go.WideShapes Go.ChangeAt Go.RowKit Go.Lib Go.Mor Go.Deep
open Go.ChangeMaps (open_string shut_string)
theorem u8_nat{n:Int}(h:(Lit.int .u8 n).wf=true):∃k:Nat,n=(k:Int)∧k<256:=by
 simp[Lit.wf,IntKind.min,IntKind.max,IntKind.signed,IntKind.bits]at h;exact⟨n.toNat,by omega,by omega⟩
abbrev laidLUTEW:List (String×DataW Unit):=[("math/bits.deBruijn32tab",Rows.laid_math_bits_deBruijn32tab),("math/bits.deBruijn64tab",Rows.laid_math_bits_deBruijn64tab),("internal/strconv.uint64pow10",Rows.laid_internal_strconv_uint64pow10),("unicode/utf8.acceptRanges",Rows.laid_unicode_utf8_acceptRanges),("moraine/wire.errEnd",Rows.laid_moraine_wire_errEnd),("moraine/wire.errForm",Rows.laid_moraine_wire_errForm),("strconv.ErrRange",Rows.laid_strconv_ErrRange),("strconv.ErrSyntax",Rows.laid_strconv_ErrSyntax),("unicode/utf8.first",Rows.laid_unicode_utf8_first)]
theorem pow_eq:(Rows.laid_internal_strconv_uint64pow10:DataW Unit)=Lib.tabData .u64 Lib.pow10Tab:=by kernel_rfl
theorem mx_of{W:World}(h:W.ShapedOpen Tryz.prog):∃k,W.cell? ⟨4,0,none⟩=some (.int .i64 k):=
 cell_of_shapedOpen_int (zero:= #[.int .i64 0]) (t:=3) h (of_decide_eq_true (by kernel_rfl)) (by kernel_rfl) rfl (by kernel_rfl) (by kernel_rfl) Tryz.underlying3
theorem star: "*" ++ "errors.errorString" = "*errors.errorString" :=by decide
theorem rowErr(u:TypeId)(h:Tryz.prog.typeName? 3 u=some "*errors.errorString"):u=352:=
 typeName_ptr_named (nm:= "errors.errorString") (by rw[star];kernel_rfl) (by kernel_rfl) (by decide) u (by rw[star];exact h)
theorem glob_of_laidUTEW{W:World}(hL:laidMetH Tryz.prog laidLUTEW W)(hsh:W.ShapedOpen Tryz.prog):∃a0 a1,(glX a0 a1 W.heap.size).G W:=by
 have hL':laidMet Tryz.prog laidLUTEW W:=hL;have hU:=globU_of hL' (.tail _ (.tail _ (.tail _ (.tail _ (.tail _ (.tail _ (.tail _ (.tail _ (.head _))))))))) (.tail _ (.tail _ (.tail _ (.head _))));have hv:=hv_of hsh;have hT:GlobT W:=⟨Lib.tabIs_of_head pow10_named (t:=326) (by kernel_rfl) Tryz.underlying326 Tryz.underlying247 (by kernel_rfl) (by kernel_rfl) (by have h:=hL'.tail.tail;rw[pow_eq]at h;exact h),mx_of hsh⟩
 obtain⟨p0,p1,_,_,_,_,_,_,pv0,pv1,_⟩:=laid_sentinels2 (g0:=7) (g1:=6) (ti:=242) (tp:=352) (te:=354) (ts:=9) hL'.tail.tail.tail.tail.tail.tail (by kernel_rfl) (by kernel_rfl) (by kernel_rfl) (by kernel_rfl)
  Tryz.underlying242 rowErr Tryz.underlying352 Tryz.underlying354 rfl rfl Tryz.underlying9 (by kernel_rfl) (by kernel_rfl)
 have hE:GlobE W:=by
  refine⟨⟨352,.pointer (some p1),?_⟩,⟨352,.pointer (some p0),?_⟩⟩
  ·have:=World.var?_cell (g:=6) (by kernel_rfl) pv1 0;simpa using this
  ·have:=World.var?_cell (g:=7) (by kernel_rfl) pv0 0;simpa using this
 obtain⟨a0,a1,s0,s1,c0,c1,t0,t1,hv0,hv1,_,_,_,_,_,_,hne,hb0,hb1⟩:=laid_sentinels2 (g0:=2) (g1:=3) (ti:=242) (tp:=352) (te:=354) (ts:=9) hL'.tail.tail.tail.tail (by kernel_rfl) (by kernel_rfl) (by kernel_rfl) (by kernel_rfl)
  Tryz.underlying242 rowErr Tryz.underlying352 Tryz.underlying354 rfl rfl Tryz.underlying9 (by kernel_rfl) (by kernel_rfl)
 have hG:Glob W a0 a1:=by
  refine⟨hU,?_,?_,hne,⟨c0,t0,hb0⟩,⟨c1,t1,hb1⟩⟩
  ·have:=World.var?_cell (g:=2) (by kernel_rfl) hv0 0;simpa using this
  ·have:=World.var?_cell (g:=3) (by kernel_rfl) hv1 0;simpa using this
 have hN:GlobN a0 a1 W.heap.size W:=⟨hG,Nat.le_refl _,heap_lt hb0,heap_lt hb1,hv⟩
 exact⟨a0,a1,(⟨⟨hN,hT⟩,hE⟩:GlobNX a0 a1 W.heap.size W)⟩
theorem laid_metUTEW(os:Os)(args:Array Value):laidMet Tryz.prog laidLUTEW ((laidWorld os).forCall (fun _ _=>0) ⟨#[],args,[]⟩).memory:=
 (LaidIn.of_run [8,9,5,1,2,N0,3,N0+1,7,N0+2,6,N0+3,0] 8 (by kernel_rfl) (by kernel_rfl) (by kernel_rfl) (by kernel_rfl)).met
end Go.Proofs.YtcpaleaajdilgaaGreatDoor
end

section
namespace Go.Proofs.YtcpaleaajdilgaaGreatDoor
open Go Go.RowKit Go.Mor Go.Sh
set_option maxRecDepth 100000
set_option maxHeartbeats 4000000
theorem bbNeq(p q:Bool):scal Tryz.prog (do eqGuard .neq 4 (.const (.bool p)) (.const (.bool q)) (.bool p) (.bool q);binOp .neq 4 (.bool p) (.bool q))=some (.pv (.v (.bool (p !=q))),.no):=by
 cases p<;>cases q<;>kernel_rfl
theorem bNV:((false !=false)=false)∧((false !=true)=true)∧((true !=false)=true)∧((true !=true)=false):=⟨rfl,rfl,rfl,rfl⟩
theorem eqTyR(a b c d:Int):z14 Tryz.prog (Op.equal 46 (.agg #[.int .i64 a,.int .i64 b]) (.agg #[.int .i64 c,.int .i64 d]))=some (eqTy ⟨a,b⟩ ⟨c,d⟩):=by
 unfold Op.equal;obtain⟨n,hn⟩:∃n,Op.maxDepth=n+1+1:=⟨_,rfl⟩
 rw[hn,z84 _ _ _ _ (by kernel_rfl) (by kernel_rfl)];obtain⟨f,g,hl,nf,ng,pf,pg,ef,eg⟩:=tyFields;rw[hl];simp only[Op.eqFields,nf,ng,ne_eq,not_false_eq_true,if_true,z28,pf,pg,ef,eg,Option.bind_some];unfold eqTy;cases h:(a==c)
 ·simp[h,z74]
 ·cases h2:(b==d)<;>simp[h,h2,z74,z28,pg,eg,ng]
theorem neqTy(a b c d:Int):scal Tryz.prog (do eqGuard .neq 46 (.const (.agg #[.int .i64 a,.int .i64 b])) (.const (.agg #[.int .i64 c,.int .i64 d])) (.agg #[.int .i64 a,.int .i64 b]) (.agg #[.int .i64 c,.int .i64 d]);binOp .neq 46 (.agg #[.int .i64 a,.int .i64 b]) (.agg #[.int .i64 c,.int .i64 d]))=
  some (.pv (.v (.bool (!eqTy ⟨a,b⟩ ⟨c,d⟩))),.no):=by
 unfold scal;rw[z28];have hg:z14 Tryz.prog (eqGuard .neq 46 (.const (.agg #[.int .i64 a,.int .i64 b])) (.const (.agg #[.int .i64 c,.int .i64 d])) (.agg #[.int .i64 a,.int .i64 b]) (.agg #[.int .i64 c,.int .i64 d]))=some ():=by kernel_rfl
 rw[hg,Option.bind_some];have hb:binOp .neq 46 (.agg #[.int .i64 a,.int .i64 b]) (.agg #[.int .i64 c,.int .i64 d])=(Op.equal 46 (.agg #[.int .i64 a,.int .i64 b]) (.agg #[.int .i64 c,.int .i64 d])>>=fun r=>pure (.bool (!r))):=rfl;rw[hb,z28,eqTyR];rfl
end Go.Proofs.YtcpaleaajdilgaaGreatDoor
end

section
namespace Go.Mor
open Go Go.RowKit
set_option maxHeartbeats 1000000
theorem checkGo_ok:∀(fs:List Fld) (vs:List V) (k:Nat),(∀(i:Nat) f v,fs[i]?=some f→vs[i]?=some v→fitsV v f.t=true)→z95 k fs vs=(0,0):=by
 intro fs
 induction fs with
 |nil=>intro vs k _;simp[z95]
 |cons f r ih=>
  intro vs k h;cases vs with
  |nil=>simp[z95]
  |cons v q=>
   rw[z95,if_pos (h 0 f v rfl rfl)];exact ih q (k+1) fun i f v hf hv=>h (i+1) f v (by simpa using hf) (by simpa using hv)
theorem check_ok{c:Cls}{vs:List V}(hc:z18 c=true)(hl:vs.length=c.fs.length)(h:∀(i:Nat) f v,c.fs[i]?=some f→vs[i]?=some v→fitsV v f.t=true):check c vs=(0,0):=by
 simp only[check,hc,Bool.not_true,Bool.false_eq_true,if_false,hl,ne_eq,not_true_eq_false];exact checkGo_ok _ _ _ h
theorem fits_mkVal(t:Ty)(n many:Int)(ht:z19 t=true)(hm:many≤100000):fitsV (mkVal t n many) t=true∧(mkVal t n many).s.length≤60∧∀y∈(mkVal t n many).l,y.s.length≤60:=by
 obtain⟨k,o⟩:=t;by_cases h5:k=5
 ·subst h5;have ho:1≤o∧o≤4:=by simpa [z19]using ht
  have hp:=z32 n 4 (by omega);have hall:∀y∈(List.range (pick n 4).toNat).map (fun i:Nat=>mkVal1 o (n.tdiv 4+(i:Int)) many),noItem y=false∧ofKind y o=true∧y.s.length≤60:=by
   intro y hy;obtain⟨i,_,rfl⟩:=List.mem_map.1 hy;obtain⟨h1,_,h3,h4,h6⟩:=right1_of o (n.tdiv 4+(i:Int)) many ho hm;exact⟨by simp[noItem,h1,h4],h3,h6⟩
  have e:mkVal ⟨5,o⟩ n many=.mk 5 0 [] ((List.range (pick n 4).toNat).map (fun i:Nat=>mkVal1 o (n.tdiv 4+(i:Int)) many)):=if_pos rfl;rw[e];refine⟨?_,by simp[V.s],fun y hy=>(hall y hy).2.2⟩;simp only[fitsV,Bool.and_eq_true];refine⟨⟨⟨?_,ht⟩,by simp[ofKind,V.k]⟩,?_⟩
  ·simp only[rightV,V.k,V.n,V.s,V.l,if_true,Bool.and_eq_true,Bool.not_eq_true',List.any_eq_false];refine⟨⟨⟨rfl,rfl⟩,by simp;omega⟩,fun y hy=>by simpa using(hall y hy).1⟩
  ·simp only[V.l,Bool.not_eq_true',List.any_eq_false];intro y hy;simp[(hall y hy).2.1]
 ·have hk:1≤k∧k≤4:=by simp[z19,h5]at ht;omega
  obtain⟨h1,h2,h3,h4,h6⟩:=right1_of k n many hk hm;have e:mkVal ⟨k,o⟩ n many=mkVal1 k n many:=if_neg h5;rw[e];refine⟨?_,h6,by rw[h2];intro y hy;cases hy⟩;simp only[fitsV,rightV,if_neg h4,h1,ht,h3,h2];simp
theorem fits_zero(t:Ty)(ht:z19 t=true):fitsV (zeroV t) t=true:=by
 obtain⟨k,o⟩:=t;by_cases h5:k=5
 ·subst h5;have ho:1≤o∧o≤4:=by simpa [z19]using ht
  simp[zeroV,ht,fitsV,rightV,ofKind,V.k,V.n,V.s,V.l]
 ·have hk:(1≤k∧k≤4)∧o=0:=by simp[z19,h5]at ht;omega
  obtain⟨hk,rfl⟩:=hk;have:k=1∨k=2∨k=3∨k=4:=by omega
  rcases this with rfl|rfl|rfl|rfl<;>rfl
def quite:List UInt8:=[113,117,105,116,101,95,110,101,119]
theorem quite_ne(f:Fld)(h:f.n.length≤8):f.n≠quite:=by
 intro e;rw[e]at h;simp[quite]at h
end Go.Mor
end

section
namespace Go.Mor
open Go
structure Chg where
 k:Int
 f:List UInt8
 n:List UInt8
 m:List UInt8
 t:Ty
 x:List UInt8
 o:List UInt8
def rdV(s:List UInt8):V×Int×Int:=(parseV 1000 s).getD (V.nil,0,50)
structure Nd where
 f:Bool
 n:Bool
 m:Bool
 t:Bool
 x:Bool
 o:Bool
 ok:Bool
def needV(k:Int):Nd:=
 if k=1 then⟨false,true,false,true,true,false,true⟩
 else if k=2∨k=6 then⟨true,false,false,false,false,false,true⟩
 else if k=3 then⟨true,true,false,false,false,false,true⟩
 else if k=4 then⟨true,false,false,true,true,false,true⟩
 else if k=5 then⟨true,true,true,true,true,true,true⟩
 else⟨false,false,false,false,false,false,false⟩
def nameV(s:List UInt8)(b:Bool):Bool:=if b then z13 s else s==[]
def formV(s:List UInt8)(b:Bool):Bool:=if s==[] then true else if b then decide ((rdV s).2.2=0)else false
def wellV(h:Chg):Bool:=
 (needV h.k).ok&&nameV h.f (needV h.k).f&&nameV h.n (needV h.k).n&&nameV h.m (needV h.k).m&&(if(needV h.k).t then z19 h.t else eqTy h.t ty0)&&formV h.x (needV h.k).x&&formV h.o (needV h.k).o
inductive Tl where
 |no
 |zero
 |ev (e:V)
def tellV(c:Cls)(s:List UInt8)(t:Ty):Tl:=
 if s=[] then .zero else if(rdV s).2.2≠0 then .no else if(typeA c (rdV s).1).2=0∧eqTy (typeA c (rdV s).1).1 t=true then .ev (rdV s).1 else .no
def Tl.is:Tl→Bool
 | .no=>false
 |_=>true
def Tl.val(c:Cls)(t:Ty)(vals:List V):Tl→V
 | .no=>V.nil
 | .zero=>zeroV t
 | .ev e=>(evalA c vals e).1
def hasV(fs:List Fld)(s:List UInt8):Bool:= !decide (fieldAt fs s<0)
def freeV(fs:List Fld)(s but:List UInt8):Bool:=decide (fieldAt fs s<0)||s==but
def atV(fs:List Fld)(s:List UInt8):Nat:=(fieldAt fs s).toNat
def fld0:Fld:=⟨[],ty0,false⟩
def mayV(c:Cls)(h:Chg):Bool:=
 if h.k=1 then decide (c.fs.length<8)&&freeV c.fs h.n []&&(tellV c h.x h.t).is
 else if h.k=2 then hasV c.fs h.f
 else if h.k=3 then hasV c.fs h.f&&freeV c.fs h.n []
 else if h.k=4 then hasV c.fs h.f&&(tellV c h.x h.t).is
 else if h.k=5 then hasV c.fs h.f&&decide (c.fs.length<8)&& !(h.n==h.m)&&freeV c.fs h.n h.f&&freeV c.fs h.m h.f&&(tellV c h.x h.t).is&&(tellV c h.o h.t).is
 else hasV c.fs h.f&&decide ((c.fs.getD (atV c.fs h.f) fld0).t.k≤3)
def putL{α:Type}(l:List α)(i:Nat)(xs:List α):List α:=l.take i++xs++l.drop (i+1)
def fieldsV(c:Cls)(h:Chg):List Fld:=
 let i:=atV c.fs h.f
 let f:=c.fs.getD i fld0
 if h.k=1 then c.fs++[⟨h.n,h.t,false⟩]
 else if h.k=2 then putL c.fs i []
 else if h.k=3 then putL c.fs i [⟨h.n,f.t,f.ix⟩]
 else if h.k=4 then putL c.fs i [⟨f.n,h.t,false⟩]
 else if h.k=5 then putL c.fs i [⟨h.n,h.t,false⟩,⟨h.m,h.t,false⟩]
 else putL c.fs i [⟨f.n,f.t, !f.ix⟩]
def valsV(c:Cls)(h:Chg)(vals:List V):List V:=
 let i:=atV c.fs h.f
 let a:=(tellV c h.x h.t).val c h.t vals
 let b:=(tellV c h.o h.t).val c h.t vals
 if h.k=1 then vals++[a]
 else if h.k=2 then putL vals i []
 else if h.k=4 then putL vals i [a]
 else if h.k=5 then putL vals i [a,b]
 else vals
def okV(c:Cls)(h:Chg):Bool:=z18 c&&wellV h&&mayV c h
def applyV(c:Cls)(h:Chg):Cls×Int:=if !z18 c then(⟨[],[]⟩,40)else if !okV c h then(⟨[],[]⟩,70)else(⟨c.n,fieldsV c h⟩,0)
def valsA(c:Cls)(h:Chg)(vals:List V):List V×Int:=if(check c vals).2≠0 then([],(check c vals).2)else if !okV c h then([],70)else(valsV c h vals,0)
end Go.Mor
end

section
namespace Go.Proofs.YtcpaleaajdilgaaGreatDoor
open Go Go.RowKit Go.Mor Go.Sh
set_option maxRecDepth 100000
set_option maxHeartbeats 4000000
theorem eqTyN(n:Nat)(a b c d:Int):z14 Tryz.prog (Op.equalIn (n+1+1) 46 (.agg #[.int .i64 a,.int .i64 b]) (.agg #[.int .i64 c,.int .i64 d]))=some (eqTy ⟨a,b⟩ ⟨c,d⟩):=by
 rw[z84 _ _ _ _ (by kernel_rfl) (by kernel_rfl)];obtain⟨f,g,hl,nf,ng,pf,pg,ef,eg⟩:=tyFields;rw[hl];simp only[Op.eqFields,nf,ng,ne_eq,not_false_eq_true,if_true,z28,pf,pg,ef,eg,Option.bind_some];unfold eqTy;cases h:(a==c)
 ·simp[h,z74]
 ·cases h2:(b==d)<;>simp[h,h2,z74,z28,pg,eg,ng]
structure PartOk(f:Field)(x y:Array Value)(a b:Value)(e:Bool):Prop where
 nm:f.name≠ "_"
 px:z14 Tryz.prog (part f.type x f.offset)=some a
 py:z14 Tryz.prog (part f.type y f.offset)=some b
 eq:∀n,z14 Tryz.prog (Op.equalIn (n+1+1) f.type a b)=some e
theorem z62{f:Field}{l:List Field}{x y:Array Value}{a b:Value}{e r:Bool}{n:Nat}(h:PartOk f x y a b e)(hl:z14 Tryz.prog (Op.eqFields (n+1+1) x y l)=some r):z14 Tryz.prog (Op.eqFields (n+1+1) x y (f::l))=some (e&&r):=by
 obtain⟨h1,h2,h3,h4⟩:=h;simp only[Op.eqFields,h1,ne_eq,not_false_eq_true,if_true,z28,h2,h3,h4,Option.bind_some];cases e
 ·simp[z74]
 ·simpa using hl
theorem parts_nil{x y:Array Value}{n:Nat}:z14 Tryz.prog (Op.eqFields n x y [])=some true:=rfl
theorem prS(n:Nat)(a b:ByteArray):z14 Tryz.prog (Op.equalIn (n+1) 9 (.string a) (.string b))=some (a==b):=by kernel_rfl
theorem prI(n:Nat)(a b:Int):z14 Tryz.prog (Op.equalIn (n+1) 3 (.int .i64 a) (.int .i64 b))=some (a==b):=by kernel_rfl
theorem prB(n:Nat)(a b:Bool):z14 Tryz.prog (Op.equalIn (n+1) 4 (.bool a) (.bool b))=some (a==b):=by kernel_rfl
def fldA(s:ByteArray)(k o:Int)(b:Bool):Array Value:= #[.string s,.int .i64 k,.int .i64 o,.bool b]
theorem eqFldR(s s':ByteArray)(k k' o o':Int)(b b':Bool):z14 Tryz.prog (Op.equal 55 (.agg (fldA s k o b)) (.agg (fldA s' k' o' b')))=some ((s==s')&&(eqTy ⟨k,o⟩ ⟨k',o'⟩&&((b==b')&&true))):=by
 unfold Op.equal;obtain⟨n,hn⟩:∃n,Op.maxDepth=n+1+1+1:=⟨_,rfl⟩
 rw[hn,z84 _ _ _ _ (by kernel_rfl) (by kernel_rfl)];obtain⟨f,g,h,hl⟩:∃f g h,(Tryz.prog.fieldsOf 55).toList=[f,g,h]∧PartOk f (fldA s k o b) (fldA s' k' o' b') (.string s) (.string s') (s==s')∧PartOk g (fldA s k o b) (fldA s' k' o' b') (.agg #[.int .i64 k,.int .i64 o]) (.agg #[.int .i64 k',.int .i64 o']) (eqTy ⟨k,o⟩ ⟨k',o'⟩)∧PartOk h (fldA s k o b) (fldA s' k' o' b') (.bool b) (.bool b') (b==b'):=
  ⟨(Tryz.prog.fieldsOf 55).toList.getD 0 default,(Tryz.prog.fieldsOf 55).toList.getD 1 default,(Tryz.prog.fieldsOf 55).toList.getD 2 default,by kernel_rfl,
   ⟨of_decide_eq_true (by kernel_rfl),by kernel_rfl,by kernel_rfl,fun n=>prS (n+1) _ _⟩,⟨of_decide_eq_true (by kernel_rfl),by kernel_rfl,by kernel_rfl,fun n=>eqTyN n _ _ _ _⟩,⟨of_decide_eq_true (by kernel_rfl),by kernel_rfl,by kernel_rfl,fun n=>prB (n+1) _ _⟩⟩
 rw[hl.1];exact z62 hl.2.1 (z62 hl.2.2.1 (z62 hl.2.2.2 parts_nil))
theorem neqFld(s s':ByteArray)(k k' o o':Int)(b b':Bool):scal Tryz.prog (do eqGuard .neq 55 (.const (.agg #[.string s,.int .i64 k,.int .i64 o,.bool b])) (.const (.agg #[.string s',.int .i64 k',.int .i64 o',.bool b'])) (.agg #[.string s,.int .i64 k,.int .i64 o,.bool b]) (.agg #[.string s',.int .i64 k',.int .i64 o',.bool b']);binOp .neq 55 (.agg #[.string s,.int .i64 k,.int .i64 o,.bool b]) (.agg #[.string s',.int .i64 k',.int .i64 o',.bool b']))=
  some (.pv (.v (.bool (!((s==s')&&(eqTy ⟨k,o⟩ ⟨k',o'⟩&&((b==b')&&true)))))),.no):=by
 unfold scal;rw[z28];have hg:z14 Tryz.prog (eqGuard .neq 55 (.const (.agg #[.string s,.int .i64 k,.int .i64 o,.bool b])) (.const (.agg #[.string s',.int .i64 k',.int .i64 o',.bool b'])) (.agg #[.string s,.int .i64 k,.int .i64 o,.bool b]) (.agg #[.string s',.int .i64 k',.int .i64 o',.bool b']))=some ():=by kernel_rfl
 rw[hg,Option.bind_some];have hb:binOp .neq 55 (.agg #[.string s,.int .i64 k,.int .i64 o,.bool b]) (.agg #[.string s',.int .i64 k',.int .i64 o',.bool b'])=(Op.equal 55 (.agg (fldA s k o b)) (.agg (fldA s' k' o' b'))>>=fun r=>pure (.bool (!r))):=rfl;rw[hb,z28,eqFldR];rfl
end Go.Proofs.YtcpaleaajdilgaaGreatDoor
end

section
namespace Go.Sh.Cd7
open Go Go.Sh
set_option maxRecDepth 100000
abbrev c_103_0:=kV [3] [kO 3 0,kT 6 false] [0,6]
abbrev c_103_1:=kV [2088,2089,2090,2091] [oD 22 (.call 22 0 []),oM 7 22] [22]
abbrev c_103_2:=kR [oM 23 7,kN 24 23] [23]
abbrev c_103_3:=kR [kT 6 false] [1,2,3,7,24]
abbrev c_103_4:=kV [2104,2105,2106,2107,8] [oL 25 true 2 3,kC 26 12 0 25,oD 8 (.new [(.string ⟨#[]⟩),(.slice none 0 0)]),kS 2 8 26] [3,6,24,25,26]
abbrev c_103_5:=kV [2116,2117,2118,2119] [oL 27 true 2 8,oM 28 1,oD 29 (.call 13 0 [.tmp 27,.tmp 28,vI 5]),oM 9 29] [1,27,28,29]
abbrev c_103_6:=kV [10] [oD 30 (.build [(.int .i64 0),(.int .i64 0)] [(0,1,(vI 5)),(1,1,(vI 4))]),oD 10 (.new [(.int .i64 0),(.int .i64 0)]),kS 2 10 30] [30]
abbrev c_103_7:=kV [35] [oL 31 true 2 10,oD 32 (.build [(.int .i64 0),(.string ⟨#[]⟩),(.string ⟨#[]⟩),(.string ⟨#[]⟩),(.int .i64 0),(.int .i64 0),(.string ⟨#[]⟩),(.string ⟨#[]⟩)] [(0,1,(vI 1)),(2,1,(.val (.string ⟨#[113,117,105,116,101,95,110,101,119]⟩))),(4,2,(.tmp 31))]),oD 33 (.build [(.int .i64 0),(.string ⟨#[]⟩),(.string ⟨#[]⟩),(.string ⟨#[]⟩),(.int .i64 0),(.int .i64 0),(.string ⟨#[]⟩),(.string ⟨#[]⟩)] [(0,1,(vI 2)),(1,1,(.val (.string ⟨#[113,117,105,116,101,95,110,101,119]⟩)))]),oD 34 (.build [(.int .i64 0),(.string ⟨#[]⟩),(.string ⟨#[]⟩),(.string ⟨#[]⟩),(.int .i64 0),(.int .i64 0),(.string ⟨#[]⟩),(.string ⟨#[]⟩),(.int .i64 0),(.string ⟨#[]⟩),(.string ⟨#[]⟩),(.string ⟨#[]⟩),(.int .i64 0),(.int .i64 0),(.string ⟨#[]⟩),(.string ⟨#[]⟩)] [(0,8,(.tmp 32)),(8,8,(.tmp 33))]),oD 35 (.bslO 81 16 [.tmp 34]),oM 11 35] [10,31,32,33,34,35]
abbrev c_103_8:=kR [kA 36 1 8,oL 37 false 1 36,kZ 38 37,kK 39 .gtr 3 38 0] [36,37,38]
abbrev c_103_9:=kV [12] [kA 40 1 8,oL 41 false 1 40,oM 42 2,oD 43 (.cvi .i64 (.tmp 42)),kA 44 1 8,oL 45 false 1 44,kZ 46 45,kB 47 .rem 3 43 46,kX 48 4 41 47,oL 49 true 4 48,oD 12 (.new [(.string ⟨#[]⟩),(.int .i64 0),(.int .i64 0),(.bool false)]),kS 4 12 49] [2,39,40,41,42,43,44,45,46,47,48,49]
abbrev c_103_10:SCode:=.reg [([],[oM 50 11,kA 51 0 12,oL 52 false 1 51,oD 53 (.build [(.int .i64 0),(.string ⟨#[]⟩),(.string ⟨#[]⟩),(.string ⟨#[]⟩),(.int .i64 0),(.int .i64 0),(.string ⟨#[]⟩),(.string ⟨#[]⟩)] [(0,1,(vI 3)),(1,1,(.tmp 52)),(2,1,(.val (.string ⟨#[113,117,105,116,101,95,110,101,119]⟩)))]),kA 54 0 12,oL 55 false 1 54,oD 56 (.build [(.int .i64 0),(.string ⟨#[]⟩),(.string ⟨#[]⟩),(.string ⟨#[]⟩),(.int .i64 0),(.int .i64 0),(.string ⟨#[]⟩),(.string ⟨#[]⟩)] [(0,1,(vI 3)),(1,1,(.val (.string ⟨#[113,117,105,116,101,95,110,101,119]⟩))),(2,1,(.tmp 55))]),oD 57 (.build [(.int .i64 0),(.string ⟨#[]⟩),(.string ⟨#[]⟩),(.string ⟨#[]⟩),(.int .i64 0),(.int .i64 0),(.string ⟨#[]⟩),(.string ⟨#[]⟩),(.int .i64 0),(.string ⟨#[]⟩),(.string ⟨#[]⟩),(.string ⟨#[]⟩),(.int .i64 0),(.int .i64 0),(.string ⟨#[]⟩),(.string ⟨#[]⟩)] [(0,8,(.tmp 53)),(8,8,(.tmp 56))]),oD 58 (.bsl 16 [.tmp 57]),oD 59 (.app 81 16 208 (.tmp 50) (.tmp 58)),oM 11 59]),([59],[oM 50 11,kA 51 0 12,oL 52 false 1 51,oD 53 (.build [(.int .i64 0),(.string ⟨#[]⟩),(.string ⟨#[]⟩),(.string ⟨#[]⟩),(.int .i64 0),(.int .i64 0),(.string ⟨#[]⟩),(.string ⟨#[]⟩)] [(0,1,(vI 3)),(1,1,(.tmp 52)),(2,1,(.val (.string ⟨#[113,117,105,116,101,95,110,101,119]⟩)))]),kA 54 0 12,oL 55 false 1 54,oD 56 (.build [(.int .i64 0),(.string ⟨#[]⟩),(.string ⟨#[]⟩),(.string ⟨#[]⟩),(.int .i64 0),(.int .i64 0),(.string ⟨#[]⟩),(.string ⟨#[]⟩)] [(0,1,(vI 3)),(1,1,(.val (.string ⟨#[113,117,105,116,101,95,110,101,119]⟩))),(2,1,(.tmp 55))]),oD 57 (.build [(.int .i64 0),(.string ⟨#[]⟩),(.string ⟨#[]⟩),(.string ⟨#[]⟩),(.int .i64 0),(.int .i64 0),(.string ⟨#[]⟩),(.string ⟨#[]⟩),(.int .i64 0),(.string ⟨#[]⟩),(.string ⟨#[]⟩),(.string ⟨#[]⟩),(.int .i64 0),(.int .i64 0),(.string ⟨#[]⟩),(.string ⟨#[]⟩)] [(0,8,(.tmp 53)),(8,8,(.tmp 56))]),oD 58 (.bsl 16 [.tmp 57]),oD 59 (.appN 81 16 208 (.tmp 50) (.tmp 58)),oM 11 59])] [50,51,52,53,54,55,56,57,58,59]
abbrev c_103_11:=kR [kA 60 1 12,kA 61 0 60,oL 62 false 1 61,kK 63 .leq 3 62 3] [60,61,62]
abbrev c_103_12:SCode:=.reg [([],[oM 64 11,kA 65 0 12,oL 66 false 1 65,oD 67 (.build [(.int .i64 0),(.string ⟨#[]⟩),(.string ⟨#[]⟩),(.string ⟨#[]⟩),(.int .i64 0),(.int .i64 0),(.string ⟨#[]⟩),(.string ⟨#[]⟩)] [(0,1,(vI 6)),(1,1,(.tmp 66))]),kA 68 0 12,oL 69 false 1 68,oD 70 (.build [(.int .i64 0),(.string ⟨#[]⟩),(.string ⟨#[]⟩),(.string ⟨#[]⟩),(.int .i64 0),(.int .i64 0),(.string ⟨#[]⟩),(.string ⟨#[]⟩)] [(0,1,(vI 6)),(1,1,(.tmp 69))]),oD 71 (.build [(.int .i64 0),(.string ⟨#[]⟩),(.string ⟨#[]⟩),(.string ⟨#[]⟩),(.int .i64 0),(.int .i64 0),(.string ⟨#[]⟩),(.string ⟨#[]⟩),(.int .i64 0),(.string ⟨#[]⟩),(.string ⟨#[]⟩),(.string ⟨#[]⟩),(.int .i64 0),(.int .i64 0),(.string ⟨#[]⟩),(.string ⟨#[]⟩)] [(0,8,(.tmp 67)),(8,8,(.tmp 70))]),oD 72 (.bsl 16 [.tmp 71]),oD 73 (.app 81 16 208 (.tmp 64) (.tmp 72)),oM 11 73]),([73],[oM 64 11,kA 65 0 12,oL 66 false 1 65,oD 67 (.build [(.int .i64 0),(.string ⟨#[]⟩),(.string ⟨#[]⟩),(.string ⟨#[]⟩),(.int .i64 0),(.int .i64 0),(.string ⟨#[]⟩),(.string ⟨#[]⟩)] [(0,1,(vI 6)),(1,1,(.tmp 66))]),kA 68 0 12,oL 69 false 1 68,oD 70 (.build [(.int .i64 0),(.string ⟨#[]⟩),(.string ⟨#[]⟩),(.string ⟨#[]⟩),(.int .i64 0),(.int .i64 0),(.string ⟨#[]⟩),(.string ⟨#[]⟩)] [(0,1,(vI 6)),(1,1,(.tmp 69))]),oD 71 (.build [(.int .i64 0),(.string ⟨#[]⟩),(.string ⟨#[]⟩),(.string ⟨#[]⟩),(.int .i64 0),(.int .i64 0),(.string ⟨#[]⟩),(.string ⟨#[]⟩),(.int .i64 0),(.string ⟨#[]⟩),(.string ⟨#[]⟩),(.string ⟨#[]⟩),(.int .i64 0),(.int .i64 0),(.string ⟨#[]⟩),(.string ⟨#[]⟩)] [(0,8,(.tmp 67)),(8,8,(.tmp 70))]),oD 72 (.bsl 16 [.tmp 71]),oD 73 (.appN 81 16 208 (.tmp 64) (.tmp 72)),oM 11 73])] [12,63,64,65,66,67,68,69,70,71,72,73]
abbrev c_103_13:=kR [kI 13 0] [2,12,39,63]
abbrev c_103_14:=kR [oM 74 13,oM 75 11,kZ 76 75,kB 77 .lss 3 74 76] [74,75,76]
abbrev c_103_15:=kV [2348,2349,2350,2351,14] [oL 81 true 2 8,oM 82 11,oM 83 13,kX 84 16 82 83,kA 85 0 84,oL 86 true 8 85,kD 87 30 0 81 86,oM 80 87,kY 88 80 0,kY 89 80 1,oD 14 (.new [(.string ⟨#[]⟩),(.slice none 0 0)]),kS 2 14 88,oM 15 89] [77,80,81,82,83,84,85,86,87,88,89]
abbrev c_103_16:=kV [2392,2393,2394,2395] [oL 91 true 2 8,oM 92 11,oM 93 13,kX 94 16 92 93,kA 95 0 94,oL 96 true 8 95,oM 97 9,kE 98 31 0 91 96 97,oM 90 98,kY 99 90 0,kY 100 90 1,oM 16 99,oM 17 100] [90,91,92,93,94,95,96,97,98,99,100]
abbrev c_103_17:=kV [2432,2433,2434,2435,18] [oL 102 true 2 14,oM 103 11,oM 104 13,kX 105 16 103 104,kA 106 8 105,oL 107 true 8 106,kD 108 30 0 102 107,oM 101 108,kY 109 101 0,kY 110 101 1,oD 18 (.new [(.string ⟨#[]⟩),(.slice none 0 0)]),kS 2 18 109,oM 19 110] [101,102,103,104,105,106,107,108,109,110]
abbrev c_103_18:=kV [2476,2477,2478,2479] [oL 112 true 2 14,oM 113 11,oM 114 13,kX 115 16 113 114,kA 116 8 115,oL 117 true 8 116,oM 118 16,kE 119 31 0 112 117 118,oM 111 119,kY 120 111 0,kY 121 111 1,oM 20 120,oM 21 121] [16,111,112,113,114,115,116,117,118,119,120,121]
abbrev c_103_19:=kV [2556,2557,2558,2559,2576,2577,2578,2579,2600,2601,2602,2603] [oM 122 15,kK 123 .neq 33 122 0,oM 124 123,oH 125 124 false 17,kG 126 124 false .neq 33 125 0,oQ 127 124 126 true,oM 128 127,oH 129 128 false 19,kG 130 128 false .neq 33 129 0,oQ 131 128 130 true,oM 132 131,oH 133 132 false 21,kG 134 132 false .neq 33 133 0,oQ 135 132 134 true,oM 136 135,kL 137 136 false true 2 14,kL 138 136 false true 2 8,oG 139 136 false (.call 38 0 [.tmp 137,.tmp 138]),oQ 140 136 139 true,oM 141 140,kL 142 141 false true 2 18,kL 143 141 false true 2 8,oG 144 141 false (.call 38 0 [.tmp 142,.tmp 143]),oG 145 141 false (.un .not (.tmp 144)),oQ 146 141 145 true,oM 147 146,oH 148 147 false 20,oH 149 147 false 9,oG 150 147 false (.call 39 0 [.tmp 148,.tmp 149]),oG 151 147 false (.un .not (.tmp 150)),oQ 152 147 151 true] [14,15,17,18,19,20,21,122,123,124,125,126,127,128,129,130,131,132,133,134,135,136,137,138,139,140,141,142,143,144,145,146,147,148,149,150,151]
abbrev c_103_20:=kR [kT 6 false] [7,8,9,11,13,152]
abbrev c_103_21:=kR [oM 78 13,kK 79 .add 3 78 1,oM 13 79] [6,78,79,152]
abbrev c_103_22:SCode:=(.seq (.seq c_103_14 (.cond (.tmp 77) .skip (.exit 0))) (.seq (.block 1 (.seq c_103_15 (.seq c_103_16 (.seq c_103_17 (.seq c_103_18 (.seq c_103_19 (.cond (.tmp 152) (.seq c_103_20 .ret) .skip))))))) c_103_21))
abbrev c_103_23:=kR [oM 153 7,oM 6 153] [7,8,9,11,13,153]
abbrev F_103:SFunc:=⟨154,(.seq c_103_0 (.seq c_103_1 (.seq (.seq c_103_2 (.cond (.tmp 24) (.seq c_103_3 .ret) .skip)) (.seq c_103_4 (.seq c_103_5 (.seq c_103_6 (.seq c_103_7 (.seq (.seq c_103_8 (.cond (.tmp 39) (.seq c_103_9 (.seq c_103_10 (.seq c_103_11 (.cond (.tmp 63) c_103_12 .skip)))) .skip)) (.seq (.seq c_103_13 (.block 0 (.loop c_103_22))) (.seq c_103_23 .ret)))))))))),[.tmp 6],false⟩
theorem tf_103:z6 Go.Proofs.Tryz.prog 8 (hintT [(22,0),(26,0),(29,0),(35,1),(58,0),(72,0),(87,0),(98,0),(108,0),(119,0),(139,0),(144,0),(150,0)]) (fpT []) (killT [(0,[0,6]),(1,[22]),(2,[23]),(3,[1,2,3,7,24]),(4,[3,6,24,25,26]),(5,[1,27,28,29]),(6,[30]),(7,[10,31,32,33,34,35]),(8,[36,37,38]),(9,[2,39,40,41,42,43,44,45,46,47,48,49]),(10,[50,51,52,53,54,55,56,57,58,59]),(11,[60,61,62]),(12,[12,63,64,65,66,67,68,69,70,71,72,73]),(13,[2,12,39,63]),(14,[74,75,76]),(16,[77,80,81,82,83,84,85,86,87,88,89]),(17,[90,91,92,93,94,95,96,97,98,99,100]),(18,[101,102,103,104,105,106,107,108,109,110]),(19,[16,111,112,113,114,115,116,117,118,119,120,121]),(20,[14,15,17,18,19,20,21,122,123,124,125,126,127,128,129,130,131,132,133,134,135,136,137,138,139,140,141,142,143,144,145,146,147,148,149,150,151]),(21,[7,8,9,11,13,152]),(15,[6,78,79,152]),(22,[7,8,9,11,13,153])]) false=some F_103:=by kernel_rfl
abbrev c_104_0:=kR [kT 0 false] [0]
abbrev c_104_1:=kV [1] [oD 26 (.build [(.int .i64 0),(.int .i64 0)] [(0,1,(vI 2))]),oD 1 (.new [(.int .i64 0),(.int .i64 0)]),kS 2 1 26] [26]
abbrev c_104_2:=kV [2] [oL 27 true 2 1,oD 28 (.build [(.string ⟨#[]⟩),(.int .i64 0),(.int .i64 0),(.bool false)] [(0,1,(.val (.string ⟨#[110,97,109,101]⟩))),(1,2,(.tmp 27)),(3,1,(.val (.bool true)))]),oD 29 (.bsl 4 [.tmp 28]),oD 30 (.build [(.string ⟨#[]⟩),(.slice none 0 0)] [(0,1,(.val (.string ⟨#[112]⟩))),(1,1,(.tmp 29))]),oD 2 (.new [(.string ⟨#[]⟩),(.slice none 0 0)]),kS 2 2 30] [27,28,29,30]
abbrev c_104_3:=kV [3] [oL 31 true 2 1,oD 32 (.build [(.int .i64 0),(.string ⟨#[]⟩),(.string ⟨#[]⟩),(.string ⟨#[]⟩),(.int .i64 0),(.int .i64 0),(.string ⟨#[]⟩),(.string ⟨#[]⟩)] [(0,1,(vI 5)),(1,1,(.val (.string ⟨#[110,97,109,101]⟩))),(2,1,(.val (.string ⟨#[111,110,101]⟩))),(3,1,(.val (.string ⟨#[109,111,114,101]⟩))),(4,2,(.tmp 31)),(6,1,(.val (.string ⟨#[108,101,102,116,40,110,97,109,101,44,32,50,41]⟩))),(7,1,(.val (.string ⟨#[102,114,111,109,40,110,97,109,101,44,32,51,41]⟩)))]),oD 3 (.new [(.int .i64 0),(.string ⟨#[]⟩),(.string ⟨#[]⟩),(.string ⟨#[]⟩),(.int .i64 0),(.int .i64 0),(.string ⟨#[]⟩),(.string ⟨#[]⟩)]),kS 8 3 32] [31,32]
abbrev c_104_4:=kV [2144,2145,2146,2147,4] [oL 34 true 2 2,oL 35 true 8 3,kD 36 30 0 34 35,oM 33 36,kY 37 33 0,kY 38 33 1,oD 4 (.new [(.string ⟨#[]⟩),(.slice none 0 0)]),kS 2 4 37,oM 5 38] [33,34,35,36,37,38]
abbrev c_104_5:=kV [2176,2177,2178,2179] [oL 40 true 2 2,oL 41 true 8 3,oD 42 (.build zV [(0,1,(vI 2)),(2,1,(.val (.string ⟨#[97,98,32,99]⟩)))]),oD 43 (.bsl 4 [.tmp 42]),kE 44 31 0 40 41 43,oM 39 44,kY 45 39 0,kY 46 39 1,oM 6 45,oM 7 46] [39,40,41,42,43,44,45,46]
abbrev c_104_6:=kV [8] [oD 47 (.build [(.int .i64 0),(.int .i64 0)] [(0,1,(vI 1))]),oD 48 (.build [(.string ⟨#[]⟩),(.int .i64 0),(.int .i64 0),(.bool false)] [(0,1,(.val (.string ⟨#[110]⟩))),(1,2,(.tmp 47)),(3,1,(.val (.bool true)))]),oD 49 (.bsl 4 [.tmp 48]),oD 50 (.build [(.string ⟨#[]⟩),(.slice none 0 0)] [(0,1,(.val (.string ⟨#[113]⟩))),(1,1,(.tmp 49))]),oD 8 (.new [(.string ⟨#[]⟩),(.slice none 0 0)]),kS 2 8 50] [47,48,49,50]
abbrev c_104_7:=kV [9] [oL 51 true 2 1,oD 52 (.build [(.int .i64 0),(.string ⟨#[]⟩),(.string ⟨#[]⟩),(.string ⟨#[]⟩),(.int .i64 0),(.int .i64 0),(.string ⟨#[]⟩),(.string ⟨#[]⟩)] [(0,1,(vI 4)),(1,1,(.val (.string ⟨#[110]⟩))),(4,2,(.tmp 51)),(6,1,(.val (.string ⟨#[116,101,120,116,40,110,41]⟩)))]),oD 9 (.new [(.int .i64 0),(.string ⟨#[]⟩),(.string ⟨#[]⟩),(.string ⟨#[]⟩),(.int .i64 0),(.int .i64 0),(.string ⟨#[]⟩),(.string ⟨#[]⟩)]),kS 8 9 52] [51,52]
abbrev c_104_8:=kV [2224,2225,2226,2227,10] [oL 54 true 2 8,oL 55 true 8 9,kD 56 30 0 54 55,oM 53 56,kY 57 53 0,kY 58 53 1,oD 10 (.new [(.string ⟨#[]⟩),(.slice none 0 0)]),kS 2 10 57,oM 11 58] [53,54,55,56,57,58]
abbrev c_104_9:=kV [2256,2257,2258,2259] [oL 60 true 2 8,oL 61 true 8 9,oD 62 (.build zV [(0,1,(vI 1)),(1,1,(vI 7))]),oD 63 (.bsl 4 [.tmp 62]),kE 64 31 0 60 61 63,oM 59 64,kY 65 59 0,kY 66 59 1,oM 12 65,oM 13 66] [59,60,61,62,63,64,65,66]
abbrev c_104_10:=kV [2280,2281,2282,2283,14] [oL 68 true 2 8,oL 69 true 8 3,kD 70 30 0 68 69,oM 67 70,kY 71 67 0,kY 72 67 1,oD 14 (.new [(.string ⟨#[]⟩),(.slice none 0 0)]),kS 2 14 71,oM 15 72] [3,14,67,68,69,70,71,72]
abbrev c_104_11:=kV [2304,2305,2306,2307] [oL 74 true 2 8,oL 75 true 8 9,oD 76 (.call 31 0 [.tmp 74,.tmp 75,.val (.slice none 0 0)]),oM 73 76,kY 77 73 0,kY 78 73 1,oM 16 77,oM 17 78] [16,73,74,75,76,77,78]
abbrev c_104_12:=kV [2324,2325,2326,2327] [oL 80 true 8 9,kC 81 28 0 80,oM 79 81,kY 82 79 0,kY 83 79 1,oM 18 82,oM 19 83] [79,80,81,82,83]
abbrev c_104_13:=kV [2344,2345,2346,2347,20] [oM 85 18,oD 86 (.call 29 0 [.tmp 85,vI 0]),oM 84 86,kY 87 84 0,kY 88 84 1,kY 89 84 2,oD 20 (.new [(.int .i64 0),(.string ⟨#[]⟩),(.string ⟨#[]⟩),(.string ⟨#[]⟩),(.int .i64 0),(.int .i64 0),(.string ⟨#[]⟩),(.string ⟨#[]⟩)]),kS 8 20 87,oM 21 88,oM 22 89] [84,85,86,87,88,89]
abbrev c_104_14:=kV [2384,2385,2386,2387,23] [oM 91 18,oM 92 18,oD 93 (.slen (.tmp 92)),kK 94 .quo 3 93 2,oD 95 (.ssub (.tmp 91) none (some (.tmp 94))),oD 96 (.call 29 0 [.tmp 95,vI 0]),oM 90 96,kY 97 90 0,kY 98 90 1,kY 99 90 2,oD 23 (.new [(.int .i64 0),(.string ⟨#[]⟩),(.string ⟨#[]⟩),(.string ⟨#[]⟩),(.int .i64 0),(.int .i64 0),(.string ⟨#[]⟩),(.string ⟨#[]⟩)]),kS 8 23 97,oM 24 98,oM 25 99] [23,24,90,91,92,93,94,95,96,97,98,99]
abbrev c_104_15:=kV [2488,2489,2490,2491,2516,2517,2518,2519,2548,2549,2550,2551,2572,2573,2574,2575,2640,2641,2642,2643,2716,2717,2718,2719,2736,2737,2738,2739] [oM 100 5,kK 101 .eql 33 100 0,oM 102 101,oH 103 102 true 7,kG 104 102 true .eql 33 103 0,oP 105 102 104 false,oM 106 105,oH 107 106 true 11,kG 108 106 true .eql 33 107 0,oP 109 106 108 false,oM 110 109,oH 111 110 true 13,kG 112 110 true .eql 33 111 0,oP 113 110 112 false,oM 114 113,kL 115 114 true true 2 4,kL 116 114 true true 2 1,oG 117 114 true (.build [(.string ⟨#[]⟩),(.int .i64 0),(.int .i64 0),(.bool false)] [(0,1,(.val (.string ⟨#[111,110,101]⟩))),(1,2,(.tmp 116))]),kL 118 114 true true 2 1,oG 119 114 true (.build [(.string ⟨#[]⟩),(.int .i64 0),(.int .i64 0),(.bool false)] [(0,1,(.val (.string ⟨#[109,111,114,101]⟩))),(1,2,(.tmp 118))]),oG 120 114 true (.bsl 4 [.tmp 117,.tmp 119]),oG 121 114 true (.build [(.string ⟨#[]⟩),(.slice none 0 0)] [(0,1,(.val (.string ⟨#[112]⟩))),(1,1,(.tmp 120))]),oG 122 114 true (.call 43 0 [.tmp 115,.tmp 121]),oP 123 114 122 false,oM 124 123,oH 125 124 true 6,oG 126 124 true (.build zV [(0,1,(vI 2)),(2,1,(.val (.string ⟨#[97,98]⟩)))]),oG 127 124 true (.build zV [(0,1,(vI 2)),(2,1,(.val (.string ⟨#[99]⟩)))]),oG 128 124 true (.bsl 4 [.tmp 126,.tmp 127]),oG 129 124 true (.call 39 0 [.tmp 125,.tmp 128]),oP 130 124 129 false,oM 131 130,kL 132 131 true true 2 10,kL 133 131 true true 2 1,oG 134 131 true (.build [(.string ⟨#[]⟩),(.int .i64 0),(.int .i64 0),(.bool false)] [(0,1,(.val (.string ⟨#[110]⟩))),(1,2,(.tmp 133))]),oG 135 131 true (.bsl 4 [.tmp 134]),oG 136 131 true (.build [(.string ⟨#[]⟩),(.slice none 0 0)] [(0,1,(.val (.string ⟨#[113]⟩))),(1,1,(.tmp 135))]),oG 137 131 true (.call 43 0 [.tmp 132,.tmp 136]),oP 138 131 137 false,oM 139 138,oH 140 139 true 12,oG 141 139 true (.build zV [(0,1,(vI 2)),(2,1,(.val (.string ⟨#[55]⟩)))]),oG 142 139 true (.bsl 4 [.tmp 141]),oG 143 139 true (.call 39 0 [.tmp 140,.tmp 142]),oP 144 139 143 false,oM 145 144,oH 146 145 true 15,kG 147 145 true .eql 33 146 70,oP 148 145 147 false,oM 149 148,oH 150 149 true 17,kG 151 149 true .eql 33 150 42,oP 152 149 151 false,oM 153 152,oH 154 153 true 19,kG 155 153 true .eql 33 154 0,oP 156 153 155 false,oM 157 156,kL 158 157 true true 8 20,kL 159 157 true true 8 9,oG 160 157 true (.call 27 0 [.tmp 158,.tmp 159]),oP 161 157 160 false,oM 162 161,oH 163 162 true 21,oH 164 162 true 18,oG 165 162 true (.slen (.tmp 164)),kH 166 162 true .eql 3 163 165,oP 167 162 166 false,oM 168 167,oH 169 168 true 22,kG 170 168 true .eql 33 169 0,oP 171 168 170 false,oM 172 171,oH 173 172 true 25,kG 174 172 true .eql 33 173 10,oP 175 172 174 false,oM 176 175,kL 177 176 true true 2 8,kL 178 176 true true 8 9,oG 179 176 true (.call 32 0 [.tmp 177,.tmp 178]),oP 180 176 179 false,oM 181 180,kL 182 181 true true 2 2,kL 183 181 true true 8 9,oG 184 181 true (.call 32 0 [.tmp 182,.tmp 183]),oG 185 181 true (.un .not (.tmp 184)),oP 186 181 185 false,oM 0 186] [1,2,4,5,6,7,8,9,10,11,12,13,15,17,18,19,20,21,22,25,100,101,102,103,104,105,106,107,108,109,110,111,112,113,114,115,116,117,118,119,120,121,122,123,124,125,126,127,128,129,130,131,132,133,134,135,136,137,138,139,140,141,142,143,144,145,146,147,148,149,150,151,152,153,154,155,156,157,158,159,160,161,162,163,164,165,166,167,168,169,170,171,172,173,174,175,176,177,178,179,180,181,182,183,184,185,186]
abbrev F_104:SFunc:=⟨187,(.seq c_104_0 (.seq c_104_1 (.seq c_104_2 (.seq c_104_3 (.seq c_104_4 (.seq c_104_5 (.seq c_104_6 (.seq c_104_7 (.seq c_104_8 (.seq c_104_9 (.seq c_104_10 (.seq c_104_11 (.seq c_104_12 (.seq c_104_13 (.seq c_104_14 (.seq c_104_15 .ret)))))))))))))))),[.tmp 0],false⟩
theorem tf_104:kU 22 [(29,0),(36,0),(43,0),(44,0),(49,0),(56,0),(63,0),(64,0),(70,0),(76,0),(81,0),(86,0),(96,0),(120,0),(122,0),(128,0),(129,0),(135,0),(137,0),(142,0),(143,0),(160,0),(179,0),(184,0)] [] F_104:=by unfold kU;kernel_rfl
abbrev c_34_0:=kV [2,3] [kO 2 0,kO 3 1,kT 4 false] [0,1,4]
abbrev c_34_1:=kR [oL 5 true 8 2,oL 6 true 8 3,kB 7 .eql 50 5 6,oM 4 7] [2,3,5,6,7]
abbrev F_34:SFunc:=⟨8,(.seq c_34_0 (.seq c_34_1 .ret)),[.tmp 4],false⟩
theorem tf_34:kU 27 [] [] F_34:=by unfold kU;kernel_rfl
abbrev c_32_0:=kV [1] [kO 1 0,oD 2 (.mov (.val (.string ⟨#[]⟩))),kI 3 0] [0,2,3]
abbrev c_32_1:=kV [2032,2033,2034,2035] [oL 7 true 8 1,kC 8 63 0 7,kN 9 8] [7,8]
abbrev c_32_2:=kR [oD 2 (.mov (.val (.string ⟨#[]⟩))),kI 3 70] [1,9]
abbrev c_32_3:=kV [2048,2049,2050,2051] [kA 10 0 1,oL 11 false 1 10,kC 12 64 0 11,oM 4 12] [2,3,9,10,11,12]
abbrev c_32_4:=kR [kA 13 1 1,oL 14 false 1 13,kA 15 2 1,oL 16 false 1 15,kA 17 3 1,oL 18 false 1 17,oD 19 (.bsl 1 [.tmp 14,.tmp 16,.tmp 18]),kZ 20 19,kI 21 0] [13,14,15,16,17,18]
abbrev c_32_5:=kR [kB 22 .lss 3 21 20] []
abbrev c_32_6:=kR [kX 23 1 19 21,oL 24 false 1 23,oM 6 24] [22,23,24]
abbrev c_32_7:=kV [2108,2109,2110,2111] [oM 25 4,oM 26 6,kC 27 65 0 26,kB 28 .add 9 25 27,oM 4 28] [6,25,26,27,28]
abbrev c_32_8:=kR [kK 29 .add 3 21 1,oM 21 29] [29]
abbrev c_32_9:SCode:=(.seq c_32_5 (.seq (.cond (.tmp 22) .skip (.exit 0)) (.seq (.block 1 (.seq c_32_6 c_32_7)) c_32_8)))
abbrev c_32_10:=kV [2136,2137,2138,2139,2152,2153,2154,2155] [oM 30 4,kA 31 4 1,kA 32 0 31,oL 33 false 1 32,kC 34 64 0 33,kA 35 4 1,kA 36 1 35,oL 37 false 1 36,kC 38 64 0 37,kB 39 .add 9 34 38,kB 40 .add 9 30 39,oM 4 40] [19,20,21,30,31,32,33,34,35,36,37,38,39,40]
abbrev c_32_11:=kV [2176,2177,2178,2179,2192,2193,2194,2195] [oM 41 4,kA 42 6 1,oL 43 false 1 42,kC 44 65 0 43,kB 45 .add 9 41 44,kA 46 7 1,oL 47 false 1 46,kC 48 65 0 47,kB 49 .add 9 45 48,oM 2 49,kI 3 0] [1,4,41,42,43,44,45,46,47,48,49]
abbrev F_32:SFunc:=⟨50,(.seq c_32_0 (.seq (.seq c_32_1 (.cond (.tmp 9) (.seq c_32_2 .ret) .skip)) (.seq c_32_3 (.seq (.seq c_32_4 (.block 0 (.loop c_32_9))) (.seq c_32_10 (.seq c_32_11 .ret)))))),[.tmp 2,.tmp 3],false⟩
theorem tf_32:kU 28 [(8,0),(12,0),(19,0),(27,0),(34,0),(38,0),(44,0),(48,0)] [] F_32:=by unfold kU;kernel_rfl
abbrev c_31_0:=kV [4] [oD 4 (.new [(.int .i64 0),(.string ⟨#[]⟩),(.string ⟨#[]⟩),(.string ⟨#[]⟩),(.int .i64 0),(.int .i64 0),(.string ⟨#[]⟩),(.string ⟨#[]⟩)]),kI 5 0,kI 6 0] [5,6]
abbrev c_31_1:=kV [7] [oM 9 0,oM 10 1,oD 11 (.build [(.string ⟨#[]⟩),(.int .i64 0),(.bool false)] [(0,1,(.tmp 9)),(1,1,(.tmp 10))]),oD 7 (.new [(.string ⟨#[]⟩),(.int .i64 0),(.bool false)]),kS 3 7 11] [0,1,9,10,11]
abbrev c_31_2:=kV [2048,2049,2050,2051,2052,2053,2054,2055,2056,2057,2058,2059,2060,2061,2062,2063,8] [kC 12 66 1 7,kC 13 67 1 7,kC 14 67 1 7,kC 15 67 1 7,oD 16 (.build [(.int .i64 0),(.string ⟨#[]⟩),(.string ⟨#[]⟩),(.string ⟨#[]⟩),(.int .i64 0),(.int .i64 0),(.string ⟨#[]⟩),(.string ⟨#[]⟩)] [(0,1,(.tmp 12)),(1,1,(.tmp 13)),(2,1,(.tmp 14)),(3,1,(.tmp 15))]),oD 8 (.new [(.int .i64 0),(.string ⟨#[]⟩),(.string ⟨#[]⟩),(.string ⟨#[]⟩),(.int .i64 0),(.int .i64 0),(.string ⟨#[]⟩),(.string ⟨#[]⟩)]),kS 8 8 16] [12,13,14,15,16]
abbrev c_31_3:=kV [2068,2069,2070,2071] [kC 17 66 1 7,kA 18 4 8,kA 19 0 18,kS 1 19 17] [17,18,19]
abbrev c_31_4:=kV [2080,2081,2082,2083] [kC 20 66 1 7,kA 21 4 8,kA 22 1 21,kS 1 22 20] [20,21,22]
abbrev c_31_5:=kV [2092,2093,2094,2095] [kC 23 67 1 7,kA 24 6 8,kS 1 24 23] [23,24]
abbrev c_31_6:=kV [2100,2101,2102,2103] [kC 25 67 1 7,kA 26 7 8,kS 1 26 25] [25,26]
abbrev c_31_7:=kV [2124,2125,2126,2127] [kA 27 2 7,oL 28 false 1 27,oM 29 28,kL 30 29 false true 8 8,oG 31 29 false (.call 63 0 [.tmp 30]),oG 32 29 false (.un .not (.tmp 31)),oQ 33 29 32 true] [27,28,29,30,31,32]
abbrev c_31_8:=kR [oD 34 (.build [(.int .i64 0),(.string ⟨#[]⟩),(.string ⟨#[]⟩),(.string ⟨#[]⟩),(.int .i64 0),(.int .i64 0),(.string ⟨#[]⟩),(.string ⟨#[]⟩)] []),kS 8 4 34,kI 5 0,kI 6 10] [7,8,33,34]
abbrev c_31_9:=kR [⟨(some 35),none,(some 8),.ld true 8 (.tmp 8)⟩,kA 36 1 7,⟨(some 37),none,(some 7),.ld false 1 (.tmp 36)⟩,⟨none,none,(some 4),.st 8 (.tmp 4) (.tmp 35)⟩,oM 5 37,kI 6 0] [7,8,33,35,36,37]
abbrev F_31:SFunc:=⟨38,(.seq c_31_0 (.seq c_31_1 (.seq c_31_2 (.seq c_31_3 (.seq c_31_4 (.seq c_31_5 (.seq c_31_6 (.seq (.seq c_31_7 (.cond (.tmp 33) (.seq c_31_8 .ret) .skip)) (.seq c_31_9 .ret))))))))),[.cell true 8 4,.tmp 5,.tmp 6],false⟩
theorem tf_31:kU 29 [(12,1),(13,1),(14,1),(15,1),(17,1),(20,1),(23,1),(25,1),(31,0)] [(9,[[(0,8),(2,7),(3,4)]])] F_31:=by unfold kU;kernel_rfl
abbrev c_30_0:=kV [2,3,4] [kO 2 0,kO 3 1,oD 4 (.new [(.string ⟨#[]⟩),(.slice none 0 0)]),kI 5 0] [0,1,5]
abbrev c_30_1:=kV [2036,2037,2038,2039] [oL 8 true 2 2,kC 9 33 0 8,kN 10 9] [8,9]
abbrev c_30_2:=kR [oD 11 (.build [(.string ⟨#[]⟩),(.slice none 0 0)] []),kS 2 4 11,kI 5 40] [2,3,10,11]
abbrev c_30_3:=kV [2060,2061,2062,2063,6] [oL 13 true 2 2,oL 14 true 8 3,kD 15 68 0 13 14,oM 12 15,kY 16 12 0,kY 17 12 1,oD 6 (.new [.nilFunc,.nilFunc,.nilFunc]),kS 3 6 16,oM 7 17] [3,5,10,12,13,14,15,16,17]
abbrev c_30_4:=kR [oM 18 7,kN 19 18] [7,18]
abbrev c_30_5:=kR [oD 20 (.build [(.string ⟨#[]⟩),(.slice none 0 0)] []),kS 2 4 20,kI 5 70] [2,6,19,20]
abbrev c_30_6:=kV [2100,2101,2102,2103] [kA 21 0 2,oL 22 false 1 21,kA 23 1 6,oL 24 false 1 23,oD 25 (.callv (.tmp 24) 0 []),oD 26 (.build [(.string ⟨#[]⟩),(.slice none 0 0)] [(0,1,(.tmp 22)),(1,1,(.tmp 25))]),kS 2 4 26,kI 5 0] [2,6,19,21,22,23,24,25,26]
abbrev F_30:SFunc:=⟨27,(.seq c_30_0 (.seq (.seq c_30_1 (.cond (.tmp 10) (.seq c_30_2 .ret) .skip)) (.seq c_30_3 (.seq (.seq c_30_4 (.cond (.tmp 19) (.seq c_30_5 .ret) .skip)) (.seq c_30_6 .ret))))),[.cell true 2 4,.tmp 5],false⟩
theorem tf_30:kU 30 [(9,0),(15,0),(25,0)] [] F_30:=by unfold kU;kernel_rfl
abbrev c_35_0:=kV [3,4] [kO 3 0,kO 4 1,oD 6 (.mov (.val (.slice none 0 0))),kI 7 0] [0,1,6,7]
abbrev c_35_1:=kV [2060,2061,2062,2063] [oL 13 true 2 3,oM 14 2,kD 15 19 0 13 14,oM 12 15,kY 16 12 0,kY 17 12 1,oM 8 16,oM 9 17] [8,12,13,14,15,16,17]
abbrev c_35_2:=kR [oM 18 9,kK 19 .neq 33 18 0] [18]
abbrev c_35_3:=kR [oM 20 9,oD 6 (.mov (.val (.slice none 0 0))),oM 7 20] [2,3,4,9,19,20]
abbrev c_35_4:=kV [2096,2097,2098,2099,10] [oL 22 true 2 3,oL 23 true 8 4,kD 24 68 0 22 23,oM 21 24,kY 25 21 0,kY 26 21 1,oD 10 (.new [.nilFunc,.nilFunc,.nilFunc]),kS 3 10 25,oM 11 26] [3,4,6,7,9,19,21,22,23,24,25,26]
abbrev c_35_5:=kR [oM 27 11,kN 28 27] [11,27]
abbrev c_35_6:=kR [oD 6 (.mov (.val (.slice none 0 0))),kI 7 70] [2,10,28]
abbrev c_35_7:=kV [2128,2129,2130,2131] [kA 29 2 10,oL 30 false 1 29,oM 31 2,oD 32 (.callv (.tmp 30) 0 [.tmp 31]),oM 6 32,kI 7 0] [2,10,28,29,30,31,32]
abbrev F_35:SFunc:=⟨33,(.seq c_35_0 (.seq (.seq c_35_1 (.seq c_35_2 (.cond (.tmp 19) (.seq c_35_3 .ret) .skip))) (.seq c_35_4 (.seq (.seq c_35_5 (.cond (.tmp 28) (.seq c_35_6 .ret) .skip)) (.seq c_35_7 .ret))))),[.tmp 6,.tmp 7],false⟩
theorem tf_35:kU 31 [(15,0),(24,0),(32,0)] [] F_35:=by unfold kU;kernel_rfl
abbrev c_33_0:=kV [2,3] [kO 2 0,kO 3 1,kT 4 false] [0,1,4]
abbrev c_33_1:=kV [2040,2041,2042,2043,5] [oL 8 true 2 2,oL 9 true 8 3,kD 10 68 0 8 9,oM 7 10,kY 11 7 0,kY 12 7 1,oD 5 (.new [.nilFunc,.nilFunc,.nilFunc]),kS 3 5 11,oM 6 12] [2,3,5,7,8,9,10,11,12]
abbrev c_33_2:=kR [oM 13 6,oM 4 13] [6,13]
abbrev F_33:SFunc:=⟨14,(.seq c_33_0 (.seq c_33_1 (.seq c_33_2 .ret))),[.tmp 4],false⟩
theorem tf_33:kU 32 [(10,0)] [] F_33:=by unfold kU;kernel_rfl
abbrev c_110_0:=kR [kT 4 false] [4]
abbrev c_110_1:=kR [oM 6 0,kZ 7 6,oM 8 1,kZ 9 8,kB 10 .neq 3 7 9] [6,7,8,9]
abbrev c_110_2:=kR [kT 4 false] [0,1,10]
abbrev c_110_3:=kR [kI 5 0] [4,10]
abbrev c_110_4:=kR [oM 11 5,oM 12 0,kZ 13 12,kB 14 .lss 3 11 13] [11,12,13]
abbrev c_110_5:=kV [2100,2101,2102,2103] [oM 17 0,oM 18 5,kX 19 4 17 18,oL 20 true 4 19,oM 21 1,oM 22 5,kX 23 4 21 22,oL 24 true 4 23,kD 25 82 0 20 24,kN 26 25] [14,17,18,19,20,21,22,23,24,25]
abbrev c_110_6:=kR [kT 4 false] [0,1,5,26]
abbrev c_110_7:=kR [oM 15 5,kK 16 .add 3 15 1,oM 5 16] [4,15,16,26]
abbrev c_110_8:SCode:=(.seq (.seq c_110_4 (.cond (.tmp 14) .skip (.exit 0))) (.seq (.block 1 (.seq c_110_5 (.cond (.tmp 26) (.seq c_110_6 .ret) .skip))) c_110_7))
abbrev c_110_9:=kR [kT 4 true] [0,1,5]
abbrev F_110:SFunc:=⟨27,(.seq c_110_0 (.seq (.seq c_110_1 (.cond (.tmp 10) (.seq c_110_2 .ret) .skip)) (.seq (.seq c_110_3 (.block 0 (.loop c_110_8))) (.seq c_110_9 .ret)))),[.tmp 4],false⟩
theorem tf_110:z6 Go.Proofs.Tryz.prog 39 (hintT [(25,0)]) (fpT []) (killT [(0,[4]),(1,[6,7,8,9]),(2,[0,1,10]),(3,[4,10]),(4,[11,12,13]),(6,[14,17,18,19,20,21,22,23,24,25]),(7,[0,1,5,26]),(5,[4,15,16,26]),(8,[0,1,5])]) false=some F_110:=by kernel_rfl
abbrev c_109_0:=kV [2,3] [kO 2 0,kO 3 1,kT 4 false] [0,1,4]
abbrev c_109_1:=kR [kA 6 0 2,oL 7 false 1 6,kA 8 0 3,oL 9 false 1 8,kB 10 .neq 9 7 9,oM 11 10,kF 12 11 false 1 2,kL 13 11 false false 1 12,oG 14 11 false (.len (.tmp 13)),kF 15 11 false 1 3,kL 16 11 false false 1 15,oG 17 11 false (.len (.tmp 16)),kH 18 11 false .neq 3 14 17,oQ 19 11 18 true] [6,7,8,9,10,11,12,13,14,15,16,17,18]
abbrev c_109_2:=kR [kT 4 false] [2,3,19]
abbrev c_109_3:=kR [kI 5 0] [4,19]
abbrev c_109_4:=kR [oM 20 5,kA 21 1 2,oL 22 false 1 21,kZ 23 22,kB 24 .lss 3 20 23] [20,21,22,23]
abbrev c_109_5:=kR [kA 27 1 2,oL 28 false 1 27,oM 29 5,kX 30 4 28 29,oL 31 true 4 30,kA 32 1 3,oL 33 false 1 32,oM 34 5,kX 35 4 33 34,oL 36 true 4 35,kB 37 .neq 55 31 36] [24,27,28,29,30,31,32,33,34,35,36]
abbrev c_109_6:=kR [kT 4 false] [2,3,5,37]
abbrev c_109_7:=kR [oM 25 5,kK 26 .add 3 25 1,oM 5 26] [4,25,26,37]
abbrev c_109_8:SCode:=(.seq (.seq c_109_4 (.cond (.tmp 24) .skip (.exit 0))) (.seq (.block 1 (.seq c_109_5 (.cond (.tmp 37) (.seq c_109_6 .ret) .skip))) c_109_7))
abbrev c_109_9:=kR [kT 4 true] [2,3,5]
abbrev F_109:SFunc:=⟨38,(.seq c_109_0 (.seq (.seq c_109_1 (.cond (.tmp 19) (.seq c_109_2 .ret) .skip)) (.seq (.seq c_109_3 (.block 0 (.loop c_109_8))) (.seq c_109_9 .ret)))),[.tmp 4],false⟩
theorem tf_109:z6 Go.Proofs.Tryz.prog 43 (hintT []) (fpT []) (killT [(0,[0,1,4]),(1,[6,7,8,9,10,11,12,13,14,15,16,17,18]),(2,[2,3,19]),(3,[4,19]),(4,[20,21,22,23]),(6,[24,27,28,29,30,31,32,33,34,35,36]),(7,[2,3,5,37]),(5,[4,25,26,37]),(8,[2,3,5])]) false=some F_109:=by kernel_rfl
abbrev c_44_0:=kV [1] [kO 1 0,kT 2 false] [0,2]
abbrev c_44_1:=kV [2032,2033,2034,2035,3] [kA 6 0 1,oL 7 false 1 6,kC 8 120 0 7,oM 5 8,kY 9 5 0,kY 10 5 1,oD 3 (.new [(.bool false),(.bool false),(.bool false),(.bool false),(.bool false),(.bool false)]),kS 6 3 9,oM 4 10] [5,6,7,8,9,10]
abbrev c_44_2:=kV [2072,2073,2074,2075,2104,2105,2106,2107,2136,2137,2138,2139] [oM 11 4,kN 12 11,oM 13 12,kF 14 13 false 1 1,kL 15 13 false false 1 14,kF 16 13 false 0 3,kL 17 13 false false 1 16,oG 18 13 false (.call 121 0 [.tmp 15,.tmp 17]),oG 19 13 false (.un .not (.tmp 18)),oQ 20 13 19 true,oM 21 20,kF 22 21 false 2 1,kL 23 21 false false 1 22,kF 24 21 false 1 3,kL 25 21 false false 1 24,oG 26 21 false (.call 121 0 [.tmp 23,.tmp 25]),oG 27 21 false (.un .not (.tmp 26)),oQ 28 21 27 true,oM 29 28,kF 30 29 false 3 1,kL 31 29 false false 1 30,kF 32 29 false 2 3,kL 33 29 false false 1 32,oG 34 29 false (.call 121 0 [.tmp 31,.tmp 33]),oG 35 29 false (.un .not (.tmp 34)),oQ 36 29 35 true] [4,11,12,13,14,15,16,17,18,19,20,21,22,23,24,25,26,27,28,29,30,31,32,33,34,35]
abbrev c_44_3:=kR [kT 2 false] [1,3,36]
abbrev c_44_4:=kV [2164,2165,2166,2167] [kA 37 3 3,oL 38 false 1 37,kA 39 4 1,oL 40 true 2 39,kC 41 44 0 40,kB 42 .neq 4 38 41,oM 43 42,kF 44 43 false 3 3,kL 45 43 false false 1 44,oG 46 43 false (.un .not (.tmp 45)),oH 47 43 false 46,kF 48 47 true 4 1,kL 49 47 true true 2 48,oG 50 47 true (.build [(.int .i64 0),(.int .i64 0)] []),kH 51 47 true .neq 46 49 50,oG 52 43 false (.pick (.tmp 47) (.tmp 51) (.val (.bool false))),oQ 53 43 52 true] [2,36,37,38,39,40,41,42,43,44,45,46,47,48,49,50,51,52]
abbrev c_44_5:=kR [kT 2 false] [1,3,53]
abbrev c_44_6:=kV [2232,2233,2234,2235,2256,2257,2258,2259] [kA 54 6 1,oL 55 false 1 54,kA 56 4 3,oL 57 false 1 56,kD 58 122 0 55 57,oM 59 58,kF 60 59 true 7 1,kL 61 59 true false 1 60,kF 62 59 true 5 3,kL 63 59 true false 1 62,oG 64 59 true (.call 122 0 [.tmp 61,.tmp 63]),oP 65 59 64 false,oM 2 65] [1,3,53,54,55,56,57,58,59,60,61,62,63,64,65]
abbrev F_44:SFunc:=⟨66,(.seq c_44_0 (.seq c_44_1 (.seq (.seq c_44_2 (.cond (.tmp 36) (.seq c_44_3 .ret) .skip)) (.seq (.seq c_44_4 (.cond (.tmp 53) (.seq c_44_5 .ret) .skip)) (.seq c_44_6 .ret))))),[.tmp 2],false⟩
theorem tf_44:kU 63 [(8,0),(18,0),(26,0),(34,0),(41,0),(58,0),(64,0)] [] F_44:=by unfold kU;kernel_rfl
abbrev c_45_0:=kR [oD 2 (.mov (.val (.string ⟨#[]⟩)))] [2]
abbrev c_45_1:=kV [2028,2029,2030,2031] [oM 6 0,kC 7 93 0 6,oM 5 7,kY 8 5 0,kY 9 5 1,oM 3 8,oM 4 9] [0,4,5,6,7,8,9]
abbrev c_45_2:=kR [oM 10 3,oM 2 10] [3,10]
abbrev F_45:SFunc:=⟨11,(.seq c_45_0 (.seq c_45_1 (.seq c_45_2 .ret))),[.tmp 2],false⟩
theorem tf_45:kU 65 [(7,0)] [] F_45:=by unfold kU;kernel_rfl
abbrev c_0_0:=kR [kI 2 0] [2]
abbrev c_0_1:=kV [2060,2061,2062,2063] [oM 7 0,kQ 8 7,kA 9 0 8,oL 10 false 1 9,oM 11 0,kQ 12 11,kA 13 1 12,oL 14 false 1 13,kD 15 124 0 10 14,oM 6 15,kY 16 6 0,kY 17 6 1,kY 18 6 2,oM 3 16,oM 4 17,oM 5 18] [6,7,8,9,10,11,12,13,14,15,16,17,18]
abbrev c_0_2:=kR [oM 19 0,kQ 20 19,kA 21 2 20,oL 22 false 1 21,oM 23 22,oH 24 23 false 5,kG 25 23 false .neq 33 24 0,oQ 26 23 25 true] [5,19,20,21,22,23,24,25]
abbrev c_0_3:=kR [oM 27 0,kQ 28 27,kA 29 2 28,oN (.st 1 (.tmp 29) (.val (.bool true)))] [0,3,4,26,27,28,29]
abbrev c_0_4:=kR [kI 2 0] []
abbrev c_0_5:=kR [oM 30 0,oM 31 4,kQ 32 30,kA 33 1 32,kS 1 33 31] [0,2,4,26,30,31,32,33]
abbrev c_0_6:=kR [oM 34 3,oM 2 34] [3,34]
abbrev F_0:SFunc:=⟨35,(.seq c_0_0 (.seq c_0_1 (.seq (.seq c_0_2 (.cond (.tmp 26) (.seq c_0_3 (.seq c_0_4 .ret)) .skip)) (.seq c_0_5 (.seq c_0_6 .ret))))),[.tmp 2],false⟩
theorem tf_0:kU 66 [(15,0)] [] F_0:=by unfold kU;kernel_rfl
abbrev c_1_0:=kR [oD 2 (.mov (.val (.string ⟨#[]⟩)))] [2]
abbrev c_1_1:=kV [2060,2061,2062,2063] [oM 7 0,kQ 8 7,kA 9 0 8,oL 10 false 1 9,oM 11 0,kQ 12 11,kA 13 1 12,oL 14 false 1 13,kD 15 125 0 10 14,oM 6 15,kY 16 6 0,kY 17 6 1,kY 18 6 2,oM 3 16,oM 4 17,oM 5 18] [6,7,8,9,10,11,12,13,14,15,16,17,18]
abbrev c_1_2:=kR [oM 19 0,kQ 20 19,kA 21 2 20,oL 22 false 1 21,oM 23 22,oH 24 23 false 5,kG 25 23 false .neq 33 24 0,oQ 26 23 25 true] [5,19,20,21,22,23,24,25]
abbrev c_1_3:=kR [oM 27 0,kQ 28 27,kA 29 2 28,oN (.st 1 (.tmp 29) (.val (.bool true)))] [0,3,4,26,27,28,29]
abbrev c_1_4:=kR [oD 2 (.mov (.val (.string ⟨#[]⟩)))] []
abbrev c_1_5:=kR [oM 30 0,oM 31 4,kQ 32 30,kA 33 1 32,kS 1 33 31] [0,2,4,26,30,31,32,33]
abbrev c_1_6:=kR [oM 34 3,oM 2 34] [3,34]
abbrev F_1:SFunc:=⟨35,(.seq c_1_0 (.seq c_1_1 (.seq (.seq c_1_2 (.cond (.tmp 26) (.seq c_1_3 (.seq c_1_4 .ret)) .skip)) (.seq c_1_5 (.seq c_1_6 .ret))))),[.tmp 2],false⟩
theorem tf_1:kU 67 [(15,0)] [] F_1:=by unfold kU;kernel_rfl
abbrev c_36_0:=kV [2,3,4] [kO 2 0,kO 3 1,oD 4 (.new [.nilFunc,.nilFunc,.nilFunc]),kT 5 false] [0,1,5]
abbrev c_36_1:=kV [2036,2037,2038,2039,2052,2053,2054,2055] [oL 8 true 2 2,kC 9 33 0 8,kN 10 9,oM 11 10,kL 12 11 false true 8 3,oG 13 11 false (.call 63 0 [.tmp 12]),oG 14 11 false (.un .not (.tmp 13)),oQ 15 11 14 true] [8,9,10,11,12,13,14]
abbrev c_36_2:=kR [oD 16 (.build [.nilFunc,.nilFunc,.nilFunc] []),kS 3 4 16,kT 5 false] [2,3,15,16]
abbrev c_36_3:=kV [20] [oL 17 true 2 2,oL 18 true 8 3,oD 19 (.build [(.string ⟨#[]⟩),(.slice none 0 0),(.int .i64 0),(.string ⟨#[]⟩),(.string ⟨#[]⟩),(.string ⟨#[]⟩),(.int .i64 0),(.int .i64 0),(.string ⟨#[]⟩),(.string ⟨#[]⟩),(.int .i64 0),(.bool false),.nilFunc,.nilFunc] [(0,2,(.tmp 17)),(2,8,(.tmp 18))]),kO 20 19,oM 6 20] [5,15,17,18,19,20]
abbrev c_36_4:=kV [2108,2109,2110,2111] [oM 22 6,oM 23 6,oL 24 true 2 2,kA 25 1 3,oL 26 false 1 25,kD 27 34 0 24 26,oM 21 27,kY 28 21 0,kY 29 21 1,kQ 30 22,kA 31 10 30,kS 1 31 28,kQ 32 23,kA 33 11 32,kS 1 33 29] [21,22,23,24,25,26,27,28,29,30,31,32,33]
abbrev c_36_5:=kV [2160,2161,2162,2163] [oM 34 6,oL 35 true 2 2,kA 36 6 3,oL 37 false 1 36,kA 38 4 3,oL 39 true 2 38,kE 40 126 0 35 37 39,kQ 41 34,kA 42 12 41,kS 1 42 40] [34,35,36,37,38,39,40,41,42]
abbrev c_36_6:=kV [2196,2197,2198,2199] [oM 43 6,oL 44 true 2 2,kA 45 7 3,oL 46 false 1 45,kA 47 4 3,oL 48 true 2 47,kE 49 126 0 44 46 48,kQ 50 43,kA 51 13 50,kS 1 51 49] [2,43,44,45,46,47,48,49,50,51]
abbrev c_36_7:=kV [2212,2213,2214,2215,7] [oM 52 6,kC 53 127 0 52,kA 54 0 3,oL 55 false 1 54,oD 56 (.lkp false (.agg #[.nilFunc,.nilFunc,.nilFunc]) (.tmp 53) (.tmp 55)),oD 7 (.new [.nilFunc,.nilFunc,.nilFunc]),kS 3 7 56] [3,6,52,53,54,55,56]
abbrev c_36_8:=kV [2240,2241,2242,2243] [oL 57 true 3 7,kA 58 0 7,oL 59 false 1 58,oD 60 (.callv (.tmp 59) 0 []),kS 3 4 57,oM 5 60] [7,57,58,59,60]
abbrev F_36:SFunc:=⟨61,(.seq c_36_0 (.seq (.seq c_36_1 (.cond (.tmp 15) (.seq c_36_2 .ret) .skip)) (.seq c_36_3 (.seq c_36_4 (.seq c_36_5 (.seq c_36_6 (.seq c_36_7 (.seq c_36_8 .ret)))))))),[.cell true 3 4,.tmp 5],false⟩
theorem tf_36:kU 68 [(9,0),(13,0),(27,0),(40,0),(49,0),(53,0),(60,0)] [] F_36:=by unfold kU;kernel_rfl
abbrev c_40_0:=kV [2] [oD 2 (.new [(.bool false),(.bool false),(.bool false),(.bool false),(.bool false),(.bool false)]),kT 3 false] [3]
abbrev c_40_1:=kR [oM 4 0] [0]
abbrev c_40_2:=kR [kK 6 .eql 3 4 1,oM 5 6] [6]
abbrev c_40_3:=kR [oD 7 (.build [(.bool false),(.bool false),(.bool false),(.bool false),(.bool false),(.bool false)] [(1,1,(.val (.bool true))),(3,1,(.val (.bool true))),(4,1,(.val (.bool true)))]),kS 6 2 7,kT 3 true] [4,5,7]
abbrev c_40_4:=kR [kK 9 .eql 3 4 2,oM 8 9] [5,9]
abbrev c_40_5:=kR [kK 10 .eql 3 4 6,oM 8 10] [10]
abbrev c_40_6:=kR [oD 11 (.build [(.bool false),(.bool false),(.bool false),(.bool false),(.bool false),(.bool false)] [(0,1,(.val (.bool true)))]),kS 6 2 11,kT 3 true] [4,8,11]
abbrev c_40_7:=kR [kK 13 .eql 3 4 3,oM 12 13] [8,13]
abbrev c_40_8:=kR [oD 14 (.build [(.bool false),(.bool false),(.bool false),(.bool false),(.bool false),(.bool false)] [(0,1,(.val (.bool true))),(1,1,(.val (.bool true)))]),kS 6 2 14,kT 3 true] [4,12,14]
abbrev c_40_9:=kR [kK 16 .eql 3 4 4,oM 15 16] [12,16]
abbrev c_40_10:=kR [oD 17 (.build [(.bool false),(.bool false),(.bool false),(.bool false),(.bool false),(.bool false)] [(0,1,(.val (.bool true))),(3,1,(.val (.bool true))),(4,1,(.val (.bool true)))]),kS 6 2 17,kT 3 true] [4,15,17]
abbrev c_40_11:=kR [kK 19 .eql 3 4 5,oM 18 19] [4,15,19]
abbrev c_40_12:=kR [oD 20 (.build [(.bool false),(.bool false),(.bool false),(.bool false),(.bool false),(.bool false)] [(0,1,(.val (.bool true))),(1,1,(.val (.bool true))),(2,1,(.val (.bool true))),(3,1,(.val (.bool true))),(4,1,(.val (.bool true))),(5,1,(.val (.bool true)))]),kS 6 2 20,kT 3 true] [18,20]
abbrev c_40_13:=kR [oD 21 (.build [(.bool false),(.bool false),(.bool false),(.bool false),(.bool false),(.bool false)] []),kS 6 2 21,kT 3 false] [18,21]
abbrev F_40:SFunc:=⟨22,(.seq c_40_0 (.seq (.seq c_40_1 (.block 0 (.seq c_40_2 (.cond (.tmp 5) (.seq c_40_3 .ret) (.seq (.seq c_40_4 (.cond (.tmp 8) .skip c_40_5)) (.cond (.tmp 8) (.seq c_40_6 .ret) (.seq c_40_7 (.cond (.tmp 12) (.seq c_40_8 .ret) (.seq c_40_9 (.cond (.tmp 15) (.seq c_40_10 .ret) (.seq c_40_11 (.cond (.tmp 18) (.seq c_40_12 .ret) .skip)))))))))))) (.seq c_40_13 .ret))),[.cell true 6 2,.tmp 3],false⟩
theorem tf_40:kU 120 [] [] F_40:=by unfold kU;kernel_rfl
abbrev c_39_0:=kR [kT 4 false] [4]
abbrev c_39_1:=kR [oM 5 1,kN 6 5] [1,5]
abbrev c_39_2:=kR [oM 7 0,oD 8 (.bin .eql 9 (.tmp 7) (.val (.string ⟨#[]⟩))),oM 4 8] [0,6,7,8]
abbrev c_39_3:=kV [2044,2045,2046,2047] [oM 9 0,oD 10 (.build [(.string ⟨#[]⟩),(.slice none 0 0)] [(0,1,(.tmp 9))]),kC 11 33 0 10,oM 4 11] [0,6,9,10,11]
abbrev F_39:SFunc:=⟨12,(.seq c_39_0 (.seq (.seq c_39_1 (.cond (.tmp 6) (.seq c_39_2 .ret) .skip)) (.seq c_39_3 .ret))),[.tmp 4],false⟩
theorem tf_39:kU 121 [(11,0)] [] F_39:=by unfold kU;kernel_rfl
abbrev c_37_0:=kR [kT 4 false] [4]
abbrev c_37_1:=kR [oM 8 0,oD 9 (.bin .eql 9 (.tmp 8) (.val (.string ⟨#[]⟩)))] [8]
abbrev c_37_2:=kR [kT 4 true] [0,1,9]
abbrev c_37_3:=kR [oM 10 1,kN 11 10] [1,4,9,10]
abbrev c_37_4:=kR [kT 4 false] [0,11]
abbrev c_37_5:=kV [2056,2057,2058,2059,5] [oM 13 0,kC 14 36 0 13,oM 12 14,kY 15 12 0,kY 16 12 1,kY 17 12 2,oD 5 (.new zV),kS 4 5 15,oM 6 16,oM 7 17] [0,4,5,6,11,12,13,14,15,16,17]
abbrev c_37_6:=kR [oM 18 7,kK 19 .eql 33 18 0,oM 4 19] [7,18,19]
abbrev F_37:SFunc:=⟨20,(.seq c_37_0 (.seq (.seq c_37_1 (.cond (.tmp 9) (.seq c_37_2 .ret) .skip)) (.seq (.seq c_37_3 (.cond (.tmp 11) (.seq c_37_4 .ret) .skip)) (.seq c_37_5 (.seq c_37_6 .ret))))),[.tmp 4],false⟩
theorem tf_37:kU 122 [(14,0)] [] F_37:=by unfold kU;kernel_rfl
abbrev c_41_0:=kV [3,5] [kO 3 0,kO 5 2,oD 6 (.mov (.val .nilFunc))] [0,2,6]
abbrev c_41_1:=kR [oM 12 1,oD 13 (.bin .eql 9 (.tmp 12) (.val (.string ⟨#[]⟩)))] [12]
abbrev c_41_2:=kR [oD 14 (.mkf (.func 185) [] [.tmp 5]),oM 6 14] [1,3,5,13,14]
abbrev c_41_3:=kV [2068,2069,2070,2071,7] [oM 16 1,kC 17 36 0 16,oM 15 17,kY 18 15 0,kY 19 15 1,kY 20 15 2,oD 7 (.new zV),kS 4 7 18,oM 8 19,oM 9 20] [1,6,8,13,15,16,17,18,19,20]
abbrev c_41_4:=kR [oM 21 9,kK 22 .neq 33 21 0] [9,21]
abbrev c_41_5:=kR [oD 6 (.mov (.val .nilFunc))] [3,5,7,22]
abbrev c_41_6:=kV [2104,2105,2106,2107,10] [oL 24 true 4 7,oL 25 true 2 3,kD 26 78 0 24 25,oM 23 26,kY 27 23 0,kY 28 23 1,oD 10 (.new [(.int .i64 0),(.int .i64 0)]),kS 2 10 27,oM 11 28] [6,22,23,24,25,26,27,28]
abbrev c_41_7:=kR [oM 29 11,kK 30 .neq 33 29 0,oM 31 30,kL 32 31 false true 2 10,kL 33 31 false true 2 5,kH 34 31 false .neq 46 32 33,oQ 35 31 34 true] [5,10,11,29,30,31,32,33,34]
abbrev c_41_8:=kR [oD 6 (.mov (.val .nilFunc))] [3,7,35]
abbrev c_41_9:=kR [oD 36 (.mkf (.func 186) [] [.tmp 7,.tmp 3]),oM 6 36] [3,7,35,36]
abbrev F_41:SFunc:=⟨37,(.seq c_41_0 (.seq (.seq c_41_1 (.cond (.tmp 13) (.seq c_41_2 .ret) .skip)) (.seq c_41_3 (.seq (.seq c_41_4 (.cond (.tmp 22) (.seq c_41_5 .ret) .skip)) (.seq (.seq c_41_6 (.seq c_41_7 (.cond (.tmp 35) (.seq c_41_8 .ret) .skip))) (.seq c_41_9 .ret)))))),[.tmp 6],false⟩
theorem tf_41:kU 126 [(17,0),(26,0)] [] F_41:=by unfold kU;kernel_rfl
abbrev c_42_0:=kV [3] [oD 3 (.new zV)] [0]
abbrev c_42_1:=kV [2020,2021,2022,2023] [oL 4 true 2 1,kC 5 35 0 4,kS 4 3 5] [1,4,5]
abbrev F_42:SFunc:=⟨6,(.seq c_42_0 (.seq c_42_1 .ret)),[.cell true 4 3],false⟩
theorem tf_42:kU 185 [(5,0)] [] F_42:=by unfold kU;kernel_rfl
abbrev c_43_0:=kV [4] [oD 4 (.new zV)] []
abbrev c_43_1:=kV [2044,2045,2046,2047,5] [oL 8 true 4 1,oL 9 true 2 2,oM 10 0,kE 11 37 0 8 9 10,oM 7 11,kY 12 7 0,kY 13 7 1,oD 5 (.new zV),kS 4 5 12,oM 6 13] [0,1,2,6,7,8,9,10,11,12,13]
abbrev c_43_2:=kR [oL 14 true 4 5,kS 4 4 14] [5,14]
abbrev F_43:SFunc:=⟨15,(.seq c_43_0 (.seq c_43_1 (.seq c_43_2 .ret))),[.cell true 4 4],false⟩
theorem tf_43:kU 186 [(11,0)] [] F_43:=by unfold kU;kernel_rfl
abbrev c_9_0:=kR [kT 2 false] [2]
abbrev c_9_1:=kV [2068,2069,2070,2071] [oM 3 0,kQ 4 3,kA 5 0 4,kA 6 1 5,oL 7 false 1 6,kZ 8 7,kK 9 .lss 3 8 8,oM 10 9,oH 11 10 true 0,oH 12 10 true 0,oG 13 10 true (.nchk (.tmp 12)),kF 14 10 true 2 13,kF 15 10 true 2 14,kL 16 10 true false 1 15,oG 17 10 true (.call 239 1 [.tmp 11,.tmp 16,.val (.string ⟨#[]⟩)]),oP 18 10 17 false,oM 19 18,oH 20 19 true 0,oG 21 19 true (.nchk (.tmp 20)),kF 22 19 true 12 21,kL 23 19 true false 1 22,oG 24 19 true (.fnil true (.tmp 23)),oP 25 19 24 false,oM 2 25] [0,3,4,5,6,7,8,9,10,11,12,13,14,15,16,17,18,19,20,21,22,23,24,25]
abbrev F_9:SFunc:=⟨26,(.seq c_9_0 (.seq c_9_1 .ret)),[.tmp 2],false⟩
theorem tf_9:kU 187 [(17,1)] [] F_9:=by unfold kU;kernel_rfl
abbrev c_2_0:=kR [oD 2 (.mov (.val (.slice none 0 0)))] [2]
abbrev c_2_1:SCode:=.reg [([2032,2033,2034,2035],[oM 3 0,kQ 4 3,kA 5 0 4,kA 6 1 5,oL 7 false 1 6,kC 8 240 0 7,oM 9 0,kQ 10 9,kA 11 2 10,kA 12 2 11,oL 13 false 1 12,oM 14 0,kQ 15 14,kA 16 2 15,kA 17 4 16,oL 18 true 2 17,oD 19 (.build [(.string ⟨#[]⟩),(.int .i64 0),(.int .i64 0),(.bool false)] [(0,1,(.tmp 13)),(1,2,(.tmp 18))]),oD 20 (.bsl 4 [.tmp 19]),oD 21 (.app 55 4 40 (.tmp 8) (.tmp 20)),oM 2 21]),([2032,2033,2034,2035,21],[oM 3 0,kQ 4 3,kA 5 0 4,kA 6 1 5,oL 7 false 1 6,kC 8 240 0 7,oM 9 0,kQ 10 9,kA 11 2 10,kA 12 2 11,oL 13 false 1 12,oM 14 0,kQ 15 14,kA 16 2 15,kA 17 4 16,oL 18 true 2 17,oD 19 (.build [(.string ⟨#[]⟩),(.int .i64 0),(.int .i64 0),(.bool false)] [(0,1,(.tmp 13)),(1,2,(.tmp 18))]),oD 20 (.bsl 4 [.tmp 19]),oD 21 (.appN 55 4 40 (.tmp 8) (.tmp 20)),oM 2 21])] [0,3,4,5,6,7,8,9,10,11,12,13,14,15,16,17,18,19,20,21]
abbrev F_2:SFunc:=⟨22,(.seq c_2_0 (.seq c_2_1 .ret)),[.tmp 2],false⟩
theorem tf_2:kU 188 [(8,0),(20,0)] [] F_2:=by unfold kU;kernel_rfl
abbrev c_3_0:=kR [oD 4 (.mov (.val (.slice none 0 0)))] [4]
abbrev c_3_1:SCode:=.reg [([2024,2025,2026,2027,2048,2049,2050,2051],[oM 5 1,kC 6 241 0 5,oM 7 0,kQ 8 7,kA 9 12 8,oL 10 false 1 9,oM 11 1,oD 12 (.callv (.tmp 10) 0 [.tmp 11]),oD 13 (.bsl 4 [.tmp 12]),oD 14 (.app 37 4 56 (.tmp 6) (.tmp 13)),oM 4 14]),([2024,2025,2026,2027,2048,2049,2050,2051,14],[oM 5 1,kC 6 241 0 5,oM 7 0,kQ 8 7,kA 9 12 8,oL 10 false 1 9,oM 11 1,oD 12 (.callv (.tmp 10) 0 [.tmp 11]),oD 13 (.bsl 4 [.tmp 12]),oD 14 (.appN 37 4 56 (.tmp 6) (.tmp 13)),oM 4 14])] [0,1,5,6,7,8,9,10,11,12,13,14]
abbrev F_3:SFunc:=⟨15,(.seq c_3_0 (.seq c_3_1 .ret)),[.tmp 4],false⟩
theorem tf_3:kU 189 [(6,0),(12,0),(13,0)] [] F_3:=by unfold kU;kernel_rfl
abbrev c_10_0:=kR [kT 2 false] [2]
abbrev c_10_1:=kR [oM 3 0,kQ 4 3,kA 5 11 4,oL 6 false 1 5,oM 2 6] [0,3,4,5,6]
abbrev F_10:SFunc:=⟨7,(.seq c_10_0 (.seq c_10_1 .ret)),[.tmp 2],false⟩
theorem tf_10:kU 190 [] [] F_10:=by unfold kU;kernel_rfl
abbrev c_4_0:=kR [oD 2 (.mov (.val (.slice none 0 0)))] [2]
abbrev c_4_1:=kV [2100,2101,2102,2103] [oM 3 0,kQ 4 3,kA 5 0 4,kA 6 1 5,oL 7 false 1 6,oM 8 0,kQ 9 8,kA 10 10 9,oL 11 false 1 10,oD 12 (.sub 4 (.tmp 7) none (some (.tmp 11))),oM 13 0,kQ 14 13,kA 15 0 14,kA 16 1 15,oL 17 false 1 16,oM 18 0,kQ 19 18,kA 20 10 19,oL 21 false 1 20,kK 22 .add 3 21 1,oD 23 (.sub 4 (.tmp 17) (some (.tmp 22)) none),oD 24 (.bsl 1 [.tmp 12,.tmp 23]),kC 25 242 0 24,oM 2 25] [0,3,4,5,6,7,8,9,10,11,12,13,14,15,16,17,18,19,20,21,22,23,24,25]
abbrev F_4:SFunc:=⟨26,(.seq c_4_0 (.seq c_4_1 .ret)),[.tmp 2],false⟩
theorem tf_4:kU 191 [(24,0),(25,0)] [] F_4:=by unfold kU;kernel_rfl
abbrev c_5_0:=kR [oD 4 (.mov (.val (.slice none 0 0)))] [4]
abbrev c_5_1:=kV [2044,2045,2046,2047,2076,2077,2078,2079,2084,2085,2086,2087] [oM 5 1,oM 6 0,kQ 7 6,kA 8 10 7,oL 9 false 1 8,oD 10 (.sub 4 (.tmp 5) none (some (.tmp 9))),kC 11 241 0 10,oM 12 1,oM 13 0,kQ 14 13,kA 15 10 14,oL 16 false 1 15,kK 17 .add 3 16 1,oD 18 (.sub 4 (.tmp 12) (some (.tmp 17)) none),kC 19 241 0 18,oD 20 (.bsl 1 [.tmp 11,.tmp 19]),kC 21 243 0 20,oM 4 21] [0,1,5,6,7,8,9,10,11,12,13,14,15,16,17,18,19,20,21]
abbrev F_5:SFunc:=⟨22,(.seq c_5_0 (.seq c_5_1 .ret)),[.tmp 4],false⟩
theorem tf_5:kU 192 [(11,0),(19,0),(20,0),(21,0)] [] F_5:=by unfold kU;kernel_rfl
abbrev c_12_0:=kR [kT 2 false] [2]
abbrev c_12_1:=kV [2056,2057,2058,2059] [oM 3 0,kQ 4 3,kA 5 11 4,oL 6 false 1 5,oM 7 6,oH 8 7 true 0,oH 9 7 true 0,oG 10 7 true (.nchk (.tmp 9)),kF 11 7 true 2 10,kF 12 7 true 2 11,kL 13 7 true false 1 12,oG 14 7 true (.call 239 1 [.tmp 8,.tmp 13,.val (.string ⟨#[]⟩)]),oP 15 7 14 false,oM 2 15] [0,3,4,5,6,7,8,9,10,11,12,13,14,15]
abbrev F_12:SFunc:=⟨16,(.seq c_12_0 (.seq c_12_1 .ret)),[.tmp 2],false⟩
theorem tf_12:kU 193 [(14,1)] [] F_12:=by unfold kU;kernel_rfl
abbrev c_15_0:=kR [oD 2 (.mov (.val (.slice none 0 0)))] [2]
abbrev c_15_1:=kV [2036,2037,2038,2039] [oM 4 0,kQ 5 4,kA 6 0 5,kA 7 1 6,oL 8 false 1 7,kC 9 240 0 8,oM 3 9] [4,5,6,7,8,9]
abbrev c_15_2:=kR [oM 10 3,oM 11 0,kQ 12 11,kA 13 10 12,oL 14 false 1 13,oM 15 0,kQ 16 15,kA 17 2 16,kA 18 2 17,oL 19 false 1 18,kX 20 4 10 14,kA 21 0 20,kS 1 21 19] [0,10,11,12,13,14,15,16,17,18,19,20,21]
abbrev c_15_3:=kR [oM 22 3,oM 2 22] [3,22]
abbrev F_15:SFunc:=⟨23,(.seq c_15_0 (.seq c_15_1 (.seq c_15_2 (.seq c_15_3 .ret)))),[.tmp 2],false⟩
theorem tf_15:kU 194 [(9,0)] [] F_15:=by unfold kU;kernel_rfl
abbrev c_8_0:=kR [oD 4 (.mov (.val (.slice none 0 0)))] [0,4]
abbrev c_8_1:=kV [2024,2025,2026,2027] [oM 5 1,kC 6 241 0 5,oM 4 6] [1,5,6]
abbrev F_8:SFunc:=⟨7,(.seq c_8_0 (.seq c_8_1 .ret)),[.tmp 4],false⟩
theorem tf_8:kU 195 [(6,0)] [] F_8:=by unfold kU;kernel_rfl
abbrev c_14_0:=kR [kT 2 false] [2]
abbrev c_14_1:=kR [oM 3 0,kQ 4 3,kA 5 11 4,oL 6 false 1 5,oM 7 6,oH 8 7 true 0,oG 9 7 true (.nchk (.tmp 8)),kF 10 7 true 12 9,kL 11 7 true false 1 10,oG 12 7 true (.fnil true (.tmp 11)),oP 13 7 12 false,oM 2 13] [0,3,4,5,6,7,8,9,10,11,12,13]
abbrev F_14:SFunc:=⟨14,(.seq c_14_0 (.seq c_14_1 .ret)),[.tmp 2],false⟩
theorem tf_14:kU 196 [] [] F_14:=by unfold kU;kernel_rfl
abbrev c_18_0:=kR [oD 2 (.mov (.val (.slice none 0 0)))] [2]
abbrev c_18_1:=kV [2036,2037,2038,2039] [oM 4 0,kQ 5 4,kA 6 0 5,kA 7 1 6,oL 8 false 1 7,kC 9 240 0 8,oM 3 9] [4,5,6,7,8,9]
abbrev c_18_2:=kR [oM 10 3,oM 11 0,kQ 12 11,kA 13 10 12,oL 14 false 1 13,oM 15 3,oM 16 0,kQ 17 16,kA 18 10 17,oL 19 false 1 18,oM 20 0,kQ 21 20,kA 22 2 21,kA 23 4 22,oL 24 true 2 23,kX 25 4 10 14,kA 26 1 25,kS 2 26 24,kX 27 4 15 19,kA 28 3 27,oN (.st 1 (.tmp 28) (.val (.bool false)))] [0,10,11,12,13,14,15,16,17,18,19,20,21,22,23,24,25,26,27,28]
abbrev c_18_3:=kR [oM 29 3,oM 2 29] [3,29]
abbrev F_18:SFunc:=⟨30,(.seq c_18_0 (.seq c_18_1 (.seq c_18_2 (.seq c_18_3 .ret)))),[.tmp 2],false⟩
theorem tf_18:kU 197 [(9,0)] [] F_18:=by unfold kU;kernel_rfl
abbrev c_19_0:=kR [oD 4 (.mov (.val (.slice none 0 0)))] [4]
abbrev c_19_1:=kV [2028,2029,2030,2031] [oM 6 1,kC 7 241 0 6,oM 5 7] [6,7]
abbrev c_19_2:=kV [2072,2073,2074,2075] [oM 8 5,oM 9 0,kQ 10 9,kA 11 10 10,oL 12 false 1 11,oM 13 0,kQ 14 13,kA 15 12 14,oL 16 false 1 15,oM 17 1,oD 18 (.callv (.tmp 16) 0 [.tmp 17]),kX 19 4 8 12,kS 4 19 18] [0,1,8,9,10,11,12,13,14,15,16,17,18,19]
abbrev c_19_3:=kR [oM 20 5,oM 4 20] [5,20]
abbrev F_19:SFunc:=⟨21,(.seq c_19_0 (.seq c_19_1 (.seq c_19_2 (.seq c_19_3 .ret)))),[.tmp 4],false⟩
theorem tf_19:kU 198 [(7,0),(18,0)] [] F_19:=by unfold kU;kernel_rfl
abbrev c_13_0:=kR [kT 2 false] [2]
abbrev c_13_1:=kR [oM 3 0,kQ 4 3,kA 5 11 4,oL 6 false 1 5,kN 7 6,oM 8 7,oH 9 8 false 0,oG 10 8 false (.nchk (.tmp 9)),kF 11 8 false 0 10,kF 12 8 false 1 11,kL 13 8 false false 1 12,oG 14 8 false (.len (.tmp 13)),kG 15 8 false .geq 3 14 8,oQ 16 8 15 true,oM 17 16,oH 18 17 false 0,oG 19 17 false (.nchk (.tmp 18)),kF 20 17 false 2 19,kF 21 17 false 2 20,kL 22 17 false false 1 21,oH 23 17 false 0,oG 24 17 false (.nchk (.tmp 23)),kF 25 17 false 2 24,kF 26 17 false 3 25,kL 27 17 false false 1 26,kH 28 17 false .eql 9 22 27,oQ 29 17 28 true] [3,4,5,6,7,8,9,10,11,12,13,14,15,16,17,18,19,20,21,22,23,24,25,26,27,28]
abbrev c_13_2:=kR [kT 2 false] [0,29]
abbrev c_13_3:=kV [2164,2165,2166,2167,2216,2217,2218,2219] [oM 30 0,oM 31 0,kQ 32 31,kA 33 2 32,kA 34 2 33,oL 35 false 1 34,oM 36 0,kQ 37 36,kA 38 2 37,kA 39 1 38,oL 40 false 1 39,kE 41 239 1 30 35 40,oM 42 41,oH 43 42 true 0,oH 44 42 true 0,oG 45 42 true (.nchk (.tmp 44)),kF 46 42 true 2 45,kF 47 42 true 3 46,kL 48 42 true false 1 47,oH 49 42 true 0,oG 50 42 true (.nchk (.tmp 49)),kF 51 42 true 2 50,kF 52 42 true 1 51,kL 53 42 true false 1 52,oG 54 42 true (.call 239 1 [.tmp 43,.tmp 48,.tmp 53]),oP 55 42 54 false,oM 56 55,oH 57 56 true 0,oG 58 56 true (.nchk (.tmp 57)),kF 59 56 true 12 58,kL 60 56 true false 1 59,oG 61 56 true (.fnil true (.tmp 60)),oP 62 56 61 false,oM 63 62,oH 64 63 true 0,oG 65 63 true (.nchk (.tmp 64)),kF 66 63 true 13 65,kL 67 63 true false 1 66,oG 68 63 true (.fnil true (.tmp 67)),oP 69 63 68 false,oM 2 69] [0,29,30,31,32,33,34,35,36,37,38,39,40,41,42,43,44,45,46,47,48,49,50,51,52,53,54,55,56,57,58,59,60,61,62,63,64,65,66,67,68,69]
abbrev F_13:SFunc:=⟨70,(.seq c_13_0 (.seq (.seq c_13_1 (.cond (.tmp 29) (.seq c_13_2 .ret) .skip)) (.seq c_13_3 .ret))),[.tmp 2],false⟩
theorem tf_13:kU 199 [(41,1),(54,1)] [] F_13:=by unfold kU;kernel_rfl
abbrev c_16_0:=kR [oD 2 (.mov (.val (.slice none 0 0)))] [2]
abbrev c_16_1:=kR [oM 4 0,kQ 5 4,kA 6 2 5,kA 7 2 6,oL 8 false 1 7,oM 9 0,kQ 10 9,kA 11 2 10,kA 12 4 11,oL 13 true 2 12,oD 14 (.build [(.string ⟨#[]⟩),(.int .i64 0),(.int .i64 0),(.bool false)] [(0,1,(.tmp 8)),(1,2,(.tmp 13))]),oM 15 0,kQ 16 15,kA 17 2 16,kA 18 3 17,oL 19 false 1 18,oM 20 0,kQ 21 20,kA 22 2 21,kA 23 4 22,oL 24 true 2 23,oD 25 (.build [(.string ⟨#[]⟩),(.int .i64 0),(.int .i64 0),(.bool false)] [(0,1,(.tmp 19)),(1,2,(.tmp 24))]),oD 26 (.bsl 4 [.tmp 14,.tmp 25]),oM 3 26] [4,5,6,7,8,9,10,11,12,13,14,15,16,17,18,19,20,21,22,23,24,25,26]
abbrev c_16_2:=kV [2200,2201,2202,2203] [oM 27 0,kQ 28 27,kA 29 0 28,kA 30 1 29,oL 31 false 1 30,oM 32 0,kQ 33 32,kA 34 10 33,oL 35 false 1 34,oD 36 (.sub 4 (.tmp 31) none (some (.tmp 35))),oM 37 3,oM 38 0,kQ 39 38,kA 40 0 39,kA 41 1 40,oL 42 false 1 41,oM 43 0,kQ 44 43,kA 45 10 44,oL 46 false 1 45,kK 47 .add 3 46 1,oD 48 (.sub 4 (.tmp 42) (some (.tmp 47)) none),oD 49 (.bsl 1 [.tmp 36,.tmp 37,.tmp 48]),kC 50 242 0 49,oM 2 50] [0,3,27,28,29,30,31,32,33,34,35,36,37,38,39,40,41,42,43,44,45,46,47,48,49,50]
abbrev F_16:SFunc:=⟨51,(.seq c_16_0 (.seq c_16_1 (.seq c_16_2 .ret))),[.tmp 2],false⟩
theorem tf_16:kU 200 [(26,0),(49,0),(50,0)] [] F_16:=by unfold kU;kernel_rfl
abbrev c_17_0:=kR [oD 4 (.mov (.val (.slice none 0 0)))] [4]
abbrev c_17_1:=kV [2044,2045,2046,2047,2068,2069,2070,2071] [oM 6 0,kQ 7 6,kA 8 12 7,oL 9 false 1 8,oM 10 1,oD 11 (.callv (.tmp 9) 0 [.tmp 10]),oM 12 0,kQ 13 12,kA 14 13 13,oL 15 false 1 14,oM 16 1,oD 17 (.callv (.tmp 15) 0 [.tmp 16]),oD 18 (.bsl 4 [.tmp 11,.tmp 17]),oM 5 18] [6,7,8,9,10,11,12,13,14,15,16,17,18]
abbrev c_17_2:=kV [2100,2101,2102,2103,2136,2137,2138,2139,2144,2145,2146,2147] [oM 19 1,oM 20 0,kQ 21 20,kA 22 10 21,oL 23 false 1 22,oD 24 (.sub 4 (.tmp 19) none (some (.tmp 23))),kC 25 241 0 24,oM 26 5,oM 27 1,oM 28 0,kQ 29 28,kA 30 10 29,oL 31 false 1 30,kK 32 .add 3 31 1,oD 33 (.sub 4 (.tmp 27) (some (.tmp 32)) none),kC 34 241 0 33,oD 35 (.bsl 1 [.tmp 25,.tmp 26,.tmp 34]),kC 36 243 0 35,oM 4 36] [0,1,5,19,20,21,22,23,24,25,26,27,28,29,30,31,32,33,34,35,36]
abbrev F_17:SFunc:=⟨37,(.seq c_17_0 (.seq c_17_1 (.seq c_17_2 .ret))),[.tmp 4],false⟩
theorem tf_17:kU 201 [(11,0),(17,0),(18,0),(25,0),(34,0),(35,0),(36,0)] [] F_17:=by unfold kU;kernel_rfl
abbrev c_11_0:=kR [kT 2 false] [2]
abbrev c_11_1:=kR [oM 3 0,kQ 4 3,kA 5 11 4,oL 6 false 1 5,oM 7 6,oH 8 7 true 0,oG 9 7 true (.nchk (.tmp 8)),kF 10 7 true 0 9,kF 11 7 true 1 10,kL 12 7 true false 1 11,oH 13 7 true 0,oG 14 7 true (.nchk (.tmp 13)),kF 15 7 true 10 14,kL 16 7 true false 1 15,oG 17 7 true (.idxA 4 (.tmp 12) (.tmp 16)),kF 18 7 true 1 17,kF 19 7 true 0 18,kL 20 7 true false 1 19,kG 21 7 true .leq 3 20 3,oP 22 7 21 false,oM 2 22] [0,3,4,5,6,7,8,9,10,11,12,13,14,15,16,17,18,19,20,21,22]
abbrev F_11:SFunc:=⟨23,(.seq c_11_0 (.seq c_11_1 .ret)),[.tmp 2],false⟩
theorem tf_11:kU 202 [] [] F_11:=by unfold kU;kernel_rfl
abbrev c_7_0:=kR [oD 2 (.mov (.val (.slice none 0 0)))] [2]
abbrev c_7_1:=kV [2036,2037,2038,2039] [oM 4 0,kQ 5 4,kA 6 0 5,kA 7 1 6,oL 8 false 1 7,kC 9 240 0 8,oM 3 9] [4,5,6,7,8,9]
abbrev c_7_2:=kR [oM 10 3,oM 11 0,kQ 12 11,kA 13 10 12,oL 14 false 1 13,oM 15 3,oM 16 0,kQ 17 16,kA 18 10 17,oL 19 false 1 18,kX 20 4 15 19,kA 21 3 20,oL 22 false 1 21,kN 23 22,kX 24 4 10 14,kA 25 3 24,kS 1 25 23] [0,10,11,12,13,14,15,16,17,18,19,20,21,22,23,24,25]
abbrev c_7_3:=kR [oM 26 3,oM 2 26] [3,26]
abbrev F_7:SFunc:=⟨27,(.seq c_7_0 (.seq c_7_1 (.seq c_7_2 (.seq c_7_3 .ret)))),[.tmp 2],false⟩
theorem tf_7:kU 203 [(9,0)] [] F_7:=by unfold kU;kernel_rfl
abbrev c_6_0:=kR [kT 6 false] [6]
abbrev c_6_1:=kV [2060,2061,2062,2063] [oM 10 0,kQ 11 10,kA 12 0 11,oL 13 true 2 12,oM 14 1,kD 15 34 0 13 14,oM 9 15,kY 16 9 0,kY 17 9 1,oM 7 16,oM 8 17] [0,7,9,10,11,12,13,14,15,16,17]
abbrev c_6_2:=kR [oM 18 8,kN 19 18,oM 20 19,oH 21 20 false 1,oH 22 20 false 2,kH 23 20 false .eql 9 21 22,oQ 24 20 23 true,oM 6 24] [1,2,8,18,19,20,21,22,23,24]
abbrev F_6:SFunc:=⟨25,(.seq c_6_0 (.seq c_6_1 (.seq c_6_2 .ret))),[.tmp 6],false⟩
theorem tf_6:kU 239 [(15,0)] [] F_6:=by unfold kU;kernel_rfl
abbrev c_38_0:=kR [oD 2 (.mov (.val (.slice none 0 0)))] [2]
abbrev c_38_1:=kR [oD 3 (.mov (.val (.slice none 0 0)))] []
abbrev c_38_2:=kR [oM 6 0,kZ 7 6,kI 8 0] [0]
abbrev c_38_3:=kR [kB 9 .lss 3 8 7] []
abbrev c_38_4:=kV [5] [kX 10 4 6 8,oL 11 true 4 10,oD 5 (.new zV),kS 4 5 11] [9,10,11]
abbrev c_38_5:=kV [2056,2057,2058,2059] [kA 12 3 5,oL 13 false 1 12,kC 14 241 0 13,kA 15 3 5,kS 1 15 14] [12,13,14,15]
abbrev c_38_6:SCode:=.reg [([],[oM 16 3,oL 17 true 4 5,oD 18 (.bsl 4 [.tmp 17]),oD 19 (.app 37 4 56 (.tmp 16) (.tmp 18)),oM 3 19]),([19],[oM 16 3,oL 17 true 4 5,oD 18 (.bsl 4 [.tmp 17]),oD 19 (.appN 37 4 56 (.tmp 16) (.tmp 18)),oM 3 19])] [5,16,17,18,19]
abbrev c_38_7:=kR [kK 20 .add 3 8 1,oM 8 20] [20]
abbrev c_38_8:SCode:=(.seq c_38_3 (.seq (.cond (.tmp 9) .skip (.exit 0)) (.seq (.block 1 (.seq c_38_4 (.seq c_38_5 c_38_6))) c_38_7)))
abbrev c_38_9:=kR [oM 21 3,oM 2 21] [3,6,7,8,21]
abbrev F_38:SFunc:=⟨22,(.seq c_38_0 (.seq c_38_1 (.seq (.seq c_38_2 (.block 0 (.loop c_38_8))) (.seq c_38_9 .ret)))),[.tmp 2],true⟩
theorem tf_38:z6 Go.Proofs.Tryz.prog 241 (hintT [(14,0),(18,0)]) (fpT []) (killT (klN 0 F_38.code.kl)) true=some F_38:=by kernel_rfl
abbrev c_111_0:=kR [oD 2 (.mov (.val (.slice none 0 0)))] [2]
abbrev c_111_1:=kR [kI 3 0] []
abbrev c_111_2:=kR [oM 9 0,kZ 10 9,kI 11 0] []
abbrev c_111_3:=kR [kB 12 .lss 3 11 10] []
abbrev c_111_4:=kR [kX 13 1 9 11,oL 14 false 1 13,oM 5 14] [12,13,14]
abbrev c_111_5:=kR [oM 15 3,oM 16 5,kZ 17 16,kB 18 .add 3 15 17,oM 3 18] [5,15,16,17,18]
abbrev c_111_6:=kR [oM 19 3,kK 20 .lss 3 19 0] [19]
abbrev c_111_7:SCode:=.regq [([],[oD 21 (.mkI 9 (.val (.string ⟨#[108,101,110,32,111,117,116,32,111,102,32,114,97,110,103,101]⟩))),oN (.pan (.tmp 21))])] [20,21,9999]
abbrev c_111_8:=kR [kK 22 .add 3 11 1,oM 11 22] [20,22]
abbrev c_111_9:SCode:=(.seq c_111_3 (.seq (.cond (.tmp 12) .skip (.exit 0)) (.seq (.block 1 (.seq c_111_4 (.seq c_111_5 (.seq c_111_6 (.cond (.tmp 20) c_111_7 .skip))))) c_111_8)))
abbrev c_111_10:=kV [2096,2097,2098,2099] [oM 23 3,oD 24 (.call 280 0 [.val (.slice none 0 0),.tmp 23]),oM 6 24] [3,9,10,11,23,24]
abbrev c_111_11:=kR [oM 25 0,kZ 26 25,kI 27 0] [0]
abbrev c_111_12:=kR [kB 28 .lss 3 27 26] []
abbrev c_111_13:=kR [kX 29 1 25 27,oL 30 false 1 29,oM 8 30] [28,29,30]
abbrev c_111_14:SCode:=.reg [([],[oM 31 6,oM 32 8,oD 33 (.app 55 4 40 (.tmp 31) (.tmp 32)),oM 6 33]),([33],[oM 31 6,oM 32 8,oD 33 (.appN 55 4 40 (.tmp 31) (.tmp 32)),oM 6 33])] [8,31,32,33]
abbrev c_111_15:=kR [kK 34 .add 3 27 1,oM 27 34] [34]
abbrev c_111_16:SCode:=(.seq c_111_12 (.seq (.cond (.tmp 28) .skip (.exit 2)) (.seq (.block 3 (.seq c_111_13 c_111_14)) c_111_15)))
abbrev c_111_17:=kR [oM 35 6,oM 2 35] [6,25,26,27,35]
abbrev F_111:SFunc:=⟨36,(.seq c_111_0 (.seq c_111_1 (.seq (.seq c_111_2 (.block 0 (.loop c_111_9))) (.seq c_111_10 (.seq (.seq c_111_11 (.block 2 (.loop c_111_16))) (.seq c_111_17 .ret)))))),[.tmp 2],false⟩
theorem tf_111:kU 242 [(24,0)] [] F_111:=by unfold kU;kernel_rfl
abbrev c_112_0:=kR [oD 2 (.mov (.val (.slice none 0 0)))] [2]
abbrev c_112_1:=kR [kI 3 0] []
abbrev c_112_2:=kR [oM 9 0,kZ 10 9,kI 11 0] []
abbrev c_112_3:=kR [kB 12 .lss 3 11 10] []
abbrev c_112_4:=kR [kX 13 1 9 11,oL 14 false 1 13,oM 5 14] [12,13,14]
abbrev c_112_5:=kR [oM 15 3,oM 16 5,kZ 17 16,kB 18 .add 3 15 17,oM 3 18] [5,15,16,17,18]
abbrev c_112_6:=kR [oM 19 3,kK 20 .lss 3 19 0] [19]
abbrev c_112_7:SCode:=.regq [([],[oD 21 (.mkI 9 (.val (.string ⟨#[108,101,110,32,111,117,116,32,111,102,32,114,97,110,103,101]⟩))),oN (.pan (.tmp 21))])] [20,21,9999]
abbrev c_112_8:=kR [kK 22 .add 3 11 1,oM 11 22] [20,22]
abbrev c_112_9:SCode:=(.seq c_112_3 (.seq (.cond (.tmp 12) .skip (.exit 0)) (.seq (.block 1 (.seq c_112_4 (.seq c_112_5 (.seq c_112_6 (.cond (.tmp 20) c_112_7 .skip))))) c_112_8)))
abbrev c_112_10:=kV [2096,2097,2098,2099] [oM 23 3,oD 24 (.call 281 0 [.val (.slice none 0 0),.tmp 23]),oM 6 24] [3,9,10,11,23,24]
abbrev c_112_11:=kR [oM 25 0,kZ 26 25,kI 27 0] [0]
abbrev c_112_12:=kR [kB 28 .lss 3 27 26] []
abbrev c_112_13:=kR [kX 29 1 25 27,oL 30 false 1 29,oM 8 30] [28,29,30]
abbrev c_112_14:SCode:=.reg [([],[oM 31 6,oM 32 8,oD 33 (.app 37 4 56 (.tmp 31) (.tmp 32)),oM 6 33]),([33],[oM 31 6,oM 32 8,oD 33 (.appN 37 4 56 (.tmp 31) (.tmp 32)),oM 6 33])] [8,31,32,33]
abbrev c_112_15:=kR [kK 34 .add 3 27 1,oM 27 34] [34]
abbrev c_112_16:SCode:=(.seq c_112_12 (.seq (.cond (.tmp 28) .skip (.exit 2)) (.seq (.block 3 (.seq c_112_13 c_112_14)) c_112_15)))
abbrev c_112_17:=kR [oM 35 6,oM 2 35] [6,25,26,27,35]
abbrev F_112:SFunc:=⟨36,(.seq c_112_0 (.seq c_112_1 (.seq (.seq c_112_2 (.block 0 (.loop c_112_9))) (.seq c_112_10 (.seq (.seq c_112_11 (.block 2 (.loop c_112_16))) (.seq c_112_17 .ret)))))),[.tmp 2],false⟩
theorem tf_112:kU 243 [(24,0)] [] F_112:=by unfold kU;kernel_rfl
def funcs:Nat→Option SFunc
 |_=>none
end Go.Sh.Cd7
end

section
namespace Go.Proofs.YtcpaleaajdilgaaGreatDoor
open Go Go.RowKit Go.Mor Go.Sh Go.Sh.Cd1 Go.Sh.Cd7
set_option maxRecDepth 100000
set_option maxHeartbeats 4000000
def ndT(d:Nd):TV:=.agg [B d.f,B d.n,B d.m,B d.t,B d.x,B d.o]
def chT(h:Chg):TV:=.agg [I h.k,S (str h.f),S (str h.n),S (str h.m),I h.t.k,I h.t.o,S (str h.x),S (str h.o)]
structure TxOk(m:Nat)(s:List UInt8):Prop where
 len:s.length<4611686018427387904
 rd:s≠[]→SCalls Tryz.prog (glE m) 36 [S (str s)] [] (parT (rdV s)) []
 sm:s≠[]→ESmall (rdV s).1
structure ChOk(q:Nat)(h:Chg):Prop where
 f:Short h.f
 n:Short h.n
 m:Short h.m
 x:TxOk q h.x
 o:TxOk q h.o
theorem needs_ok(g:Sh.Glob)(k:Int):SCalls Tryz.prog g 120 [I k] [] (.tuple [ndT (needV k),B (needV k).ok]) []:=by
 refine z7 hmix tf_40 rfl ?_;have hk:k=1∨k=2∨k=6∨k=3∨k=4∨k=5∨(¬k=1∧¬k=2∧¬k=6∧¬k=3∧¬k=4∧¬k=5):=by omega
 unfold ndT B;rcases hk with rfl|rfl|rfl|rfl|rfl|rfl|⟨h1,h2,h6,h3,h4,h5⟩
 all_goals unfold needV
 ·simp only[vW,seval]
 ·simp only[vW,seval]
 ·simp only[vW,seval]
 ·simp only[vW,seval]
 ·simp only[vW,seval]
 ·simp only[vW,seval]
 ·simp only[vW,seval,h1,h2,h6,h3,h4,h5]
theorem right_bare(s:List UInt8):z18 ⟨s,[]⟩=z13 s:=by simp[z18,onceGo]
theorem chName_ok(g:Sh.Glob)(s:List UInt8)(b:Bool)(hs:Short s):SCalls Tryz.prog g 121 [S (str s),B b] [] (B (nameV s b)) []:=by
 have HR:=classRight_ok g ⟨s,[]⟩ ⟨hs,by simp,by simp⟩;rw[right_bare]at HR;have HR:=HR.inp (xs:=[.agg [S (str s),nilT]]) rfl (fun j c d hc hd=>by
  cases j with
  |zero=>
   simp at hc hd;subst hc;subst hd;exact wk_agg rfl (fun j p q hp hq=>by
    match j with
    |0=>simp at hp hq;subst hp;subst hq;exact .refl _
    |1=>simp at hp hq;subst hp;subst hq;exact wk_nil 4
    |j+2=>simp at hp)
  |succ j=>simp at hc)
 have e0:(⟨#[]⟩:ByteArray)=str []:=rfl;refine z7 hmix tf_39 rfl ?_;unfold nameV B nilT at*;cases b
 ·simp only[vW,seval,e0]
 ·simp only[vW,seval];(with_reducible apply v_call);exact kv;rfl;exact HR;exact km;exact kv;simp only[vW,seval]
theorem formula_ok(m:Nat)(s:List UInt8)(b:Bool)(hs:TxOk m s):SCalls Tryz.prog (glE m) 122 [S (str s),B b] [] (B (formV s b)) []:=by
 have e0:(⟨#[]⟩:ByteArray)=str []:=rfl;refine z7 hmix tf_37 rfl ?_;unfold formV B;by_cases h:s=[]
 ·subst h;simp only[vW,seval,e0]
 ·have hb:(s==[])=false:=by simpa using h
  have HP:=hs.rd h;generalize rdV s=r at*;unfold parT at HP;cases b
  ·simp only[vW,seval,e0,hb]
  ·by_cases h0:r.2.2=0
   ·rw[if_pos h0]at HP;simp only[vW,seval,e0,hb];(with_reducible apply v_call);exact kv;rfl;exact HP;exact km;exact kv;simp only[vW,seval,h0]
   ·rw[if_neg h0]at HP;unfold zeroE at HP;simp only[vW,seval,e0,hb];(with_reducible apply v_call);exact kv;rfl;exact HP;exact km;exact kv;simp only[vW,seval,h0]
theorem wellFormed_ok(m:Nat)(h:Chg)(hh:ChOk m h):SCalls Tryz.prog (glE m) 63 [chT h] [] (B (wellV h)) []:=by
 have HN:=needs_ok (glE m) h.k;have H1:=fun b=>chName_ok (glE m) h.f b hh.f;have H2:=fun b=>chName_ok (glE m) h.n b hh.n;have H3:=fun b=>chName_ok (glE m) h.m b hh.m;have HT:=rightTypeC_ok (glE m) h.t;have H4:=fun b=>formula_ok m h.x b hh.x;have H5:=fun b=>formula_ok m h.o b hh.o;have hz:z19 ty0=false:=by decide
 refine z7 hmix tf_44 rfl ?_;unfold wellV;generalize needV h.k=d at*;obtain⟨df,dn,dm,dt,dx,dO,dk⟩:=d;simp only[]at*;unfold ndT chT tyT B at*;simp only[vW,seval];(with_reducible apply v_call);exact kv;rfl;exact HN;exact km;exact kv;cases dk
 ·simp only[vW,seval]
 simp only[vW,seval];(with_reducible apply v_call);exact kv;rfl;exact H1 df;exact km;exact kv;cases nameV h.f df
 ·simp only[vW,seval]
 simp only[vW,seval];(with_reducible apply v_call);exact kv;rfl;exact H2 dn;exact km;exact kv;cases nameV h.n dn
 ·simp only[vW,seval]
 simp only[vW,seval];(with_reducible apply v_call);exact kv;rfl;exact H3 dm;exact km;exact kv;cases nameV h.m dm
 ·simp only[vW,seval]
 simp only[vW,seval];(with_reducible apply v_call);exact kv;rfl;exact HT;exact km;exact kv;have tyE:(⟨h.t.k,h.t.o⟩:Ty)=h.t:=rfl;cases dt
 ·rw[if_neg (by simp)];by_cases hq:eqTy h.t ty0=true
  ·have hr:z19 h.t=false:=by
    unfold eqTy ty0 at hq;simp only[Bool.and_eq_true,beq_iff_eq]at hq;unfold z19;simp[hq.1,hq.2]
   have hq':eqTy h.t ⟨0,0⟩=true:=hq;rw[hr,hq];simp only[vW,seval,bbNeq,bNV,neqTy,tyE,hq'];(with_reducible apply v_call);exact kv;rfl;exact H4 dx;exact km;exact kv;cases formV h.x dx
   ·simp only[vW,seval]
   simp only[vW,seval];(with_reducible apply v_call);exact kv;rfl;exact H5 dO;exact km;exact kv;simp only[vW,seval]
  ·have hq:eqTy h.t ty0=false:=by simpa using hq
   have hq':eqTy h.t ⟨0,0⟩=false:=hq;rw[hq];cases hr:z19 h.t
   ·simp only[vW,seval,bbNeq,bNV,neqTy,tyE,hq']
   ·simp only[vW,seval,bbNeq,bNV,neqTy,tyE,hq']
 ·rw[if_pos rfl];cases hr:z19 h.t
  ·simp only[vW,seval,bbNeq,bNV,neqTy]
  ·simp only[vW,seval,bbNeq,bNV,neqTy];(with_reducible apply v_call);exact kv;rfl;exact H4 dx;exact km;exact kv;cases formV h.x dx
   ·simp only[vW,seval]
   simp only[vW,seval];(with_reducible apply v_call);exact kv;rfl;exact H5 dO;exact km;exact kv;simp only[vW,seval]
end Go.Proofs.YtcpaleaajdilgaaGreatDoor
end

section
namespace Go.Proofs.YtcpaleaajdilgaaGreatDoor
open Go Go.RowKit Go.Mor Go.Sh Go.Sh.Cd1
set_option maxRecDepth 100000
set_option maxHeartbeats 4000000
theorem zero_ok(g:Sh.Glob)(t:Ty):SCalls Tryz.prog g 35 [tyT t] [] (nv (zeroV t)) []:=by
 refine z7 hmix tf_122 rfl ?_;have HR:=rightType_ok g t;unfold B at HR;obtain⟨k,o⟩:=t;generalize hr:z19 ⟨k,o⟩=r at HR;have key:zeroV ⟨k,o⟩=if !r||k==3||k==4 then V.nil else .mk k 0 [] []:=by rw[←hr];rfl
 rw[key];simp only[vW,seval];(with_reducible apply v_call);exact kv;rfl;exact HR;exact km;exact kv;cases r
 ·simp only[vW,seval];rfl
 ·simp only[vW,seval]
  repeat' (first|(apply And.intro)|(intro _))
  all_goals(first|(simp_all [V.nil,V.k,V.n,V.s,e0];done)|rfl)
end Go.Proofs.YtcpaleaajdilgaaGreatDoor
end

section
namespace Go.Proofs.YtcpaleaajdilgaaGreatDoor
open Go Go.RowKit Go.Mor Go.Sh Go.Sh.Cd1 Go.Sh.Cd7
set_option maxRecDepth 100000
set_option maxHeartbeats 4000000
def tlT(c:Cls)(t:Ty):Tl→PV
 | .no=> .v .nilFunc
 | .zero=> .fn (.func 185) [] [.el [.v (.int .i64 t.k),.v (.int .i64 t.o)]]
 | .ev e=> .fn (.func 186) [] [.el [.v (.int .i64 e.k),.v (.int .i64 e.n),.v (.string (str e.s)),.sl 4 (V.rows e.l)],.el [.v (.string (str c.n)),.sl 4 (flR c.fs)]]
theorem zeroV_l(t:Ty):(zeroV t).l=[]:=by unfold zeroV;split<;>rfl
theorem teller1_ok(g:Sh.Glob)(t:Ty)(vals:List V):SCalls Tryz.prog g 185 [.pv (.sl 4 (V.rows vals)),.pv (.el [.v (.int .i64 t.k),.v (.int .i64 t.o)])] [] (tv (zeroV t)) []:=by
 have HZ:=zero_ok g t;refine SCalls.out ?_ (nv_tv (zeroV_l t));refine z7 hmix tf_42 rfl ?_;simp only[vW,seval];(with_reducible apply v_call);exact kv;rfl;exact HZ;exact km;exact kv;simp only[vW,seval]
theorem teller2_ok(m:Nat)(c:Cls)(e:V)(vals:List V)(hc:ClsOk c)(he:ESmall e)(hf:∀x∈vals,VFew x∧VOk x)(hl:vals.length≤4611686018427387904):
  SCalls Tryz.prog (glE m) 186 [.pv (.sl 4 (V.rows vals)),.pv (.el [.v (.int .i64 e.k),.v (.int .i64 e.n),.v (.string (str e.s)),.sl 4 (V.rows e.l)]),.pv (.el [.v (.string (str c.n)),.sl 4 (flR c.fs)])] [] (tv (evalA c vals e).1) []:=by
 have HE:=evEval_ok m c e vals hc he hf hl;have hn:(evalA c vals e).2≠0→(evalA c vals e).1=V.nil:=by
  unfold evalA;split
  ·intro _;rfl
  ·split
   ·intro _;rfl
   ·intro h;exact absurd rfl h
 unfold evalT at HE;generalize evalA c vals e=r at*;by_cases h:r.2=0
 ·rw[if_pos h]at HE;refine z7 hmix tf_43 rfl ?_;unfold clT at HE;simp only[vW,seval];(with_reducible apply v_call);exact kv;rfl;exact HE;exact km;exact kv;simp only[vW,seval]
 ·rw[if_neg h]at HE;rw[hn h];refine SCalls.out ?_ (nv_tv (x:=V.nil) rfl);refine z7 hmix tf_43 rfl ?_;unfold clT at HE;simp only[vW,seval];(with_reducible apply v_call);exact kv;rfl;exact HE;exact km;exact kv;simp only[vW,seval]
theorem teller_zero(g:Sh.Glob)(c:Cls)(t:Ty):SCalls Tryz.prog g 126 [clT c,S (str []),tyT t] [] (.pv (tlT c t .zero)) []:=by
 have h:SCalls Tryz.prog g 126 [clT c,S (str []),tyT t] [] (.fn (.func 185) [] (z110 1000 1)) ([[PV.v (.int .i64 t.k),.v (.int .i64 t.o)]].map fun ps=> .box (ps.map .pv)):=by
  refine z17 hmix tf_41 rfl rfl rfl ?_;unfold clT;simp only[vW,seval,str0];rfl
 exact SCalls.frz (pss:=[_]) h
theorem teller_ev(m:Nat)(c:Cls)(s:List UInt8)(t:Ty)(hs:TxOk m s)(hc:ClsOk c)(hne:s≠[]):SCalls Tryz.prog (glE m) 126 [clT c,S (str s),tyT t] [] (.pv (tlT c t (tellV c s t))) []:=by
 have HP:=hs.rd hne;have HT:=evType_ok m c (rdV s).1 hc (hs.sm hne);have e0:(⟨#[]⟩:ByteArray)=str []:=rfl;have hb:(s==[])=false:=by simpa using hne
 unfold tellV;rw[if_neg hne];generalize rdV s=r at*;unfold parT at HP;unfold typeT at HT;generalize typeA c r.1=q at*;obtain⟨⟨qk,qo⟩,q2⟩:=q;obtain⟨tk,ot⟩:=t;simp only[]at*;by_cases h0:r.2.2=0
 ·rw[if_neg (c:=r.2.2≠0) (by simpa using h0)];rw[if_pos h0]at HP;by_cases h1:q2=0
  ·cases h2:eqTy ⟨qk,qo⟩ ⟨tk,ot⟩
   ·rw[if_neg (by simp)];refine z7 hmix tf_41 rfl ?_;unfold clT tlT at*;simp only[vW,seval,e0,hb];(with_reducible apply v_call);exact kv;rfl;exact HP;exact km;exact kv;simp only[vW,seval,h0];(with_reducible apply v_call);exact kv;rfl;exact HT;exact km;exact kv;simp only[vW,seval,h1,neqTy,h2]
   ·rw[if_pos ⟨h1,rfl⟩];have h:SCalls Tryz.prog (glE m) 126 [clT c,S (str s),tyT ⟨tk,ot⟩] [] (.fn (.func 186) [] (z110 1000 2)) ([[PV.v (.int .i64 r.1.k),.v (.int .i64 r.1.n),.v (.string (str r.1.s)),.sl 4 (V.rows r.1.l)],[.v (.string (str c.n)),.sl 4 (flR c.fs)]].map fun ps=> .box (ps.map .pv)):=by
     refine z17 hmix tf_41 rfl rfl rfl ?_;unfold clT at*;simp only[vW,seval,e0,hb];(with_reducible apply v_call);exact kv;rfl;exact HP;exact km;exact kv;simp only[vW,seval,h0];(with_reducible apply v_call);exact kv;rfl;exact HT;exact km;exact kv;simp only[vW,seval,h1,neqTy,h2];rfl
    exact SCalls.frz (pss:=[_,_]) h
  ·rw[if_neg (fun h=>h1 h.1)];refine z7 hmix tf_41 rfl ?_;unfold clT tlT at*;simp only[vW,seval,e0,hb];(with_reducible apply v_call);exact kv;rfl;exact HP;exact km;exact kv;simp only[vW,seval,h0];(with_reducible apply v_call);exact kv;rfl;exact HT;exact km;exact kv;simp only[vW,seval,h1]
 ·rw[if_pos (c:=r.2.2≠0) h0];rw[if_neg h0]at HP;refine z7 hmix tf_41 rfl ?_;unfold clT tlT zeroE at*;simp only[vW,seval,e0,hb];(with_reducible apply v_call);exact kv;rfl;exact HP;exact km;exact kv;simp only[vW,seval,h0]
theorem teller_ok(m:Nat)(c:Cls)(s:List UInt8)(t:Ty)(hs:TxOk m s)(hc:ClsOk c):SCalls Tryz.prog (glE m) 126 [clT c,S (str s),tyT t] [] (.pv (tlT c t (tellV c s t))) []:=by
 by_cases h:s=[]
 ·subst h;have:tellV c [] t=.zero:=by unfold tellV;rw[if_pos rfl]
  rw[this];exact teller_zero (glE m) c t
 ·exact teller_ev m c s t hs hc h
end Go.Proofs.YtcpaleaajdilgaaGreatDoor
end

section
namespace Go.Sh
open Go Go.RowKit
variable{B:Base}{s:FS}{a:Act}{w:World}{E:Env}
theorem flat_fwd{W:Nat}:∀{es:List (List PV)},(∀cs∈es,cs.length=W)→∀{i j:Nat} {cs:List PV} {c:PV},es[i]?=some cs→cs[j]?=some c→es.flatten[i*W+j]?=some c
 |[],_,i,j,cs,c,h,_=>by simp at h
 |x::es,hW,i,j,cs,c,h,hc=>by
  have hx:=hW x (List.mem_cons_self ..);rw[List.flatten_cons];cases i with
  |zero=>
   obtain rfl:x=cs:=by simpa using h
   rw[Nat.zero_mul,Nat.zero_add,List.getElem?_append_left (gJ hc).1];exact hc
  |succ i=>
   rw[List.getElem?_append_right (by rw[hx,Nat.add_mul];omega)];have:=flat_fwd (es:=es) (fun y hy=>hW y (List.mem_cons_of_mem _ hy)) (i:=i) (by simpa using h) hc;rw[←this];congr 1;rw[hx,Nat.add_mul];omega
theorem Sim.freezeS(h:Sim B s a w E){d W:Nat}{es:List (List PV)}(hd:s.b d=some (es.flatten.map TV.pv))(hW:∀cs∈es,cs.length=W):
  ∃K',Sim B { s with b:=fun e=>if e=d then none else s.b e } a w { E with K:=K' }∧∀c v,RelT w { E with K:=K' } s.r (.bs d 0 es.length c) v→RelT w { E with K:=K' } s.r (.pv (.sl W es)) v:=by
 obtain⟨K',h1,h2,_⟩:=h.freeze0 hd;refine⟨K',h1,fun c v hv=> ?_⟩;cases hv with
 |bs _ _ _ _ C hn hc hm=>
 cases h2 with
 |pv h2=>
 cases h2 with
 |el _ _ _ f hf hs=>
 refine .pv (.sl W es (E.β d) 0 C (some ⟨E.β d,0,none⟩) (fun i j=>f (i*W+j)) (fun _=>rfl) (by omega) hm hW (fun i j cs c e1 e2=> ?_) (fun i j cs c e1 e2=>hs _ _ (flat_fwd hW e1 e2)));have:=hf _ _ (flat_fwd hW e1 e2);rw[Nat.zero_add]at this ⊢;exact this
theorem fs_drp(s:ES)(d:Nat):(fun e=>if e=d then none else s.fs.b e)=lk (drp [d] s.b):=by
 funext e;rw[lk_drp];show(if e=d then none else lk s.b e)=_;by_cases h:e=d
 ·subst h;simp[has,Nat.beq_refl]
 ·have:has [d] e=false:=by simp only[has];rw[z131 (fun h'=>h h'.symm)]
  rw[if_neg h,this];rfl
theorem frT_lw{s:ES}{k d W c:Nat}{es:List (List PV)}(hd:lk s.b d=some (es.flatten.map TV.pv))(hW:∀cs∈es,cs.length=W)(hk:lk s.t k=some (.bs d 0 es.length c)):(⟨sv s.t k (.pv (.sl W es)),drp [d] s.b,s.r,s.i⟩:ES).Lw s:=by
 intro B a w E _ _ hS;obtain⟨K',h1,h2⟩:=hS.freezeS hd hW;refine⟨{ E with K:=K' },?_⟩;have:=h1.reT (k:=k) (x:=.bs d 0 es.length c) (y:=.pv (.sl W es)) hk (h2 c);have he:(⟨sv s.t k (.pv (.sl W es)),drp [d] s.b,s.r,s.i⟩:ES).fs=FS.setT { s.fs with b:=fun e=>if e=d then none else s.fs.b e } k (.pv (.sl W es)):=by
  rw[fs_drp];simp only[ES.fs,FS.setT,lk_sv]
 rw[he];exact this
theorem frE_lw{s:ES}{k d:Nat}{ps:List PV}(hd:lk s.b d=some (ps.map TV.pv))(hk:lk s.t k=some (.ptr d 0)):(⟨sv s.t k (.pv (.el ps)),drp [d] s.b,s.r,s.i⟩:ES).Lw s:=by
 intro B a w E _ _ hS;obtain⟨K',h1,h2,_⟩:=hS.freeze0 hd;refine⟨{ E with K:=K' },?_⟩;have:=h1.reT (k:=k) (x:=.ptr d 0) (y:=.pv (.el ps)) hk (fun v hv=>by cases hv;exact h2);have he:(⟨sv s.t k (.pv (.el ps)),drp [d] s.b,s.r,s.i⟩:ES).fs=FS.setT { s.fs with b:=fun e=>if e=d then none else s.fs.b e } k (.pv (.el ps)):=by
  rw[fs_drp];simp only[ES.fs,FS.setT,lk_sv]
 rw[he];exact this
section
variable{P:Program}{g:Glob}{N:Nat}{a b c:SCode}{Q Q':SExit→ES→Prop}{s s0:ES}
@[congr] theorem sem_congr (h:s=s0):SemW P g N c Q s=SemW P g N c Q s0:=by rw[h]
theorem sem_mono(h:SemW P g N c Q s)(hq:∀e s,Q e s→Q' e s):SemW P g N c Q' s:=fun H Fp K code ht B a w E h1 h2 h3 h4 h5 h6=>wp_mono (h H Fp K code ht B a w E h1 h2 h3 h4 h5 h6) (by
 rintro x a' w' ⟨e,s',E',q1,q2,q3⟩;exact⟨e,s',E',q1,hq _ _ q2,q3⟩)
theorem sem_lw(hl:s0.Lw s)(h:SemW P g N c Q s0):SemW P g N c Q s:=by
 intro H Fp K code ht B a w E h1 h2 h3 h4 h5 h6;obtain⟨E',h7⟩:=hl B a w E h2 h3 h6;exact h H Fp K code ht B a w E' h1 h2 h3 h4 h5 h7
theorem sem_seq(h:SemW P g N a (thenW (SemW P g N b Q) Q) s):SemW P g N (.seq a b) Q s:=by
 intro H Fp K code ht B ac w E h1 h2 h3 h4 h5 h6;cases code with
 |seq x y=>
  simp only[z8]at ht;split at ht<;>try(cases ht;done)
  rename_i a' b' ha hb;cases ht;refine wp_seq (wp_mono (h H Fp K x ha B ac w E h1 h2 h3 h4 h5 h6) ?_);rintro z a2 w2 ⟨e,s2,E2,rfl,hq,hS2⟩;cases e with
  |normal=>exact hq H Fp K y hb B a2 w2 E2 h1 h2 h3 h4 h5 hS2
  |exit id=>exact⟨.exit id,s2,E2,rfl,hq,hS2⟩
  |ret=>exact⟨.ret,s2,E2,rfl,hq,hS2⟩
  |pan z=>exact⟨.pan z,s2,E2,rfl,hq,hS2⟩
 |skip|exit id|ret|rangeFunc _ _ _ _=>simp[z8]at ht
 |region id ops draw=>
  simp only[z8]at ht;split at ht
  ·cases ht
  ·split at ht<;>cases ht
 |cond x y z=>
  simp only[z8]at ht;split at ht<;>cases ht
 |block id x=>
  simp only[z8]at ht;obtain⟨_,_,h⟩:=gO ht;cases h
 |loop x=>
  simp only[z8]at ht;obtain⟨_,_,h⟩:=gO ht;cases h
 |_=>simp[z8]at ht
theorem z43(hmix:P.follows .mixedOrders=true)(h:swp P g a (thenW (SemW P g N b Q) Q) s):SemW P g N (.seq a b) Q s:=sem_seq (sem_swp hmix h)
end
theorem call_ofS{P:Program}{g:Glob}{f:Nat}{H:Nat→Option Nat→Nat}{Fp:Nat→List (Nat→Option Nat)}{K:Nat→List Nat}{keep:Bool}{F:SFunc}(hmix:P.follows .mixedOrders=true)(hF:z6 P f H Fp K keep=some F){xs:List TV}{os os':List MO}{y:TV}(hn:Nat.ble xs.length F.N=true)(hos:Nat.ble os.length 1000=true)(hmo:moOk os os'=true)
  (h:SemW P g F.N F.code (PostR F.res F.keep os.length y os') (startE xs os)):SCalls P g f xs os y os':=
 call_of_sem hmix hF (Nat.le_of_ble_eq_true hn) (Nat.le_of_ble_eq_true hos) hmo (sem_mono h fun e s he=>by
  cases e with
  |normal=>exact⟨.inr rfl,by rw[exitF_R];exact he⟩
  |ret=>exact⟨.inl rfl,by rw[exitF_R];exact he⟩
  |exit id=>exact he.elim
  |pan z=>exact he.elim)
theorem z152{P:Program}{g:Glob}{f:Nat}{H:Nat→Option Nat→Nat}{Fp:Nat→List (Nat→Option Nat)}{K:Nat→List Nat}{keep:Bool}{F:SFunc}(hmix:P.follows .mixedOrders=true)(hF:z6 P f H Fp K keep=some F){xs:List TV}{y:TV}(hn:Nat.ble xs.length F.N=true)
  (h:SemW P g F.N F.code (Post0 F.res y) (startE xs [])):SCalls P g f xs [] y []:=by
 have key:∀s,ansW y (resT s.fs F.res)→exitR F.res F.keep 0 s=some (y,[]):=by
  intro s he;cases hr:resT s.fs F.res with
  |none=>rw[hr]at he;exact he.elim
  |some y0=>
   rw[hr]at he;obtain⟨h1,h2⟩:=he;simp[exitR,exitF,hr,idsFrom,h1,reach,h2,seqO]
 refine call_ofS hmix hF hn rfl rfl (sem_mono h fun e s he=> ?_);cases e with
 |normal=>exact key s he
 |ret=>exact key s he
 |exit id=>exact he.elim
 |pan z=>exact he.elim
end Go.Sh
end

section
namespace Go.Proofs.YtcpaleaajdilgaaGreatDoor
open Go Go.RowKit Go.Mor Go.Sh Go.Sh.Cd1 Go.Sh.Cd7
set_option maxRecDepth 100000
set_option maxHeartbeats 4000000
def fnW(w:List PV)(f:Nat):TV:=.fn (.func f) [.pv (.el w)] []
def kdT(w:List PV)(a b c:Nat):TV:=.agg [fnW w a,fnW w b,fnW w c]
def kdL(w:List PV):List TV:=[kdT w 187 188 189,kdT w 190 191 192,kdT w 193 194 195,kdT w 196 197 198,kdT w 199 200 201,kdT w 202 203 195]
def kdK:List Value:=[.int .i64 1,.int .i64 2,.int .i64 3,.int .i64 4,.int .i64 5,.int .i64 6]
noncomputable def kindOps:Array Oper:=match Tryz.prog.funcs[127]? with
 |some fn=>match fn.body with
  |some (.seq _ (.seq (.region _ ops _) _))=>ops
  |_=> #[]
 |none=> #[]
def kindMix:List MixO:=[.op ⟨(some 4),none,none,.mov (.tmp 0)⟩,.op ⟨(some 5),none,none,.mkf (.func 187) [(.tmp 4)] []⟩,.op ⟨(some 6),none,none,.mov (.tmp 0)⟩,.op ⟨(some 7),none,none,.mkf (.func 188) [(.tmp 6)] []⟩,.op ⟨(some 8),none,none,.mov (.tmp 0)⟩,.op ⟨(some 9),none,none,.mkf (.func 189) [(.tmp 8)] []⟩,.op ⟨(some 10),none,none,.build [.nilFunc,.nilFunc,.nilFunc] [(0,1,(.tmp 5)),(1,1,(.tmp 7)),(2,1,(.tmp 9))]⟩,.ins ((.int .i64 1)) 10,.op ⟨(some 11),none,none,.mov (.tmp 0)⟩,.op ⟨(some 12),none,none,.mkf (.func 190) [(.tmp 11)] []⟩,.op ⟨(some 13),none,none,.mov (.tmp 0)⟩,.op ⟨(some 14),none,none,.mkf (.func 191) [(.tmp 13)] []⟩,.op ⟨(some 15),none,none,.mov (.tmp 0)⟩,.op ⟨(some 16),none,none,.mkf (.func 192) [(.tmp 15)] []⟩,.op ⟨(some 17),none,none,.build [.nilFunc,.nilFunc,.nilFunc] [(0,1,(.tmp 12)),(1,1,(.tmp 14)),(2,1,(.tmp 16))]⟩,.ins ((.int .i64 2)) 17,.op ⟨(some 18),none,none,.mov (.tmp 0)⟩,.op ⟨(some 19),none,none,.mkf (.func 193) [(.tmp 18)] []⟩,.op ⟨(some 20),none,none,.mov (.tmp 0)⟩,.op ⟨(some 21),none,none,.mkf (.func 194) [(.tmp 20)] []⟩,.op ⟨(some 22),none,none,.mov (.tmp 0)⟩,.op ⟨(some 23),none,none,.mkf (.func 195) [(.tmp 22)] []⟩,.op ⟨(some 24),none,none,.build [.nilFunc,.nilFunc,.nilFunc] [(0,1,(.tmp 19)),(1,1,(.tmp 21)),(2,1,(.tmp 23))]⟩,.ins ((.int .i64 3)) 24,.op ⟨(some 25),none,none,.mov (.tmp 0)⟩,.op ⟨(some 26),none,none,.mkf (.func 196) [(.tmp 25)] []⟩,.op ⟨(some 27),none,none,.mov (.tmp 0)⟩,.op ⟨(some 28),none,none,.mkf (.func 197) [(.tmp 27)] []⟩,.op ⟨(some 29),none,none,.mov (.tmp 0)⟩,.op ⟨(some 30),none,none,.mkf (.func 198) [(.tmp 29)] []⟩,.op ⟨(some 31),none,none,.build [.nilFunc,.nilFunc,.nilFunc] [(0,1,(.tmp 26)),(1,1,(.tmp 28)),(2,1,(.tmp 30))]⟩,.ins ((.int .i64 4)) 31,.op ⟨(some 32),none,none,.mov (.tmp 0)⟩,.op ⟨(some 33),none,none,.mkf (.func 199) [(.tmp 32)] []⟩,.op ⟨(some 34),none,none,.mov (.tmp 0)⟩,.op ⟨(some 35),none,none,.mkf (.func 200) [(.tmp 34)] []⟩,.op ⟨(some 36),none,none,.mov (.tmp 0)⟩,.op ⟨(some 37),none,none,.mkf (.func 201) [(.tmp 36)] []⟩,.op ⟨(some 38),none,none,.build [.nilFunc,.nilFunc,.nilFunc] [(0,1,(.tmp 33)),(1,1,(.tmp 35)),(2,1,(.tmp 37))]⟩,.ins ((.int .i64 5)) 38,.op ⟨(some 39),none,none,.mov (.tmp 0)⟩,.op ⟨(some 40),none,none,.mkf (.func 202) [(.tmp 39)] []⟩,.op ⟨(some 41),none,none,.mov (.tmp 0)⟩,.op ⟨(some 42),none,none,.mkf (.func 203) [(.tmp 41)] []⟩,.op ⟨(some 43),none,none,.mov (.tmp 0)⟩,.op ⟨(some 44),none,none,.mkf (.func 195) [(.tmp 43)] []⟩,.op ⟨(some 45),none,none,.build [.nilFunc,.nilFunc,.nilFunc] [(0,1,(.tmp 40)),(1,1,(.tmp 42)),(2,1,(.tmp 44))]⟩,.ins ((.int .i64 6)) 45,.op ⟨(some 46),none,none,.mov (.tmp 3)⟩,.op ⟨(some 2),none,none,.mov (.tmp 46)⟩]
theorem kindMix_eq:mixL Tryz.prog 47 (fun _=>0) kindOps 205 3 (List.range' 1 50)=some kindMix:=by kernel_rfl
def kindF:SFunc:=⟨0,.skip,[.tmp 2],false⟩
def kindK(w:List PV)(s:ES):Prop:=exitF kindF 0 s=some (.mp kdK (kdL w),[])
theorem kinds_walk(g:Sh.Glob)(w:List PV):mixW Tryz.prog g false 3 (kindK w) kindMix ⟨[(0,.pv (.el w)),(3,.mp [] [])],[],[],[]⟩:=by
 unfold kindMix;simp only[vW,seval,mwV,SOper.news,SOp.news];repeat(refine⟨by rfl,?_⟩)
 show exitF kindF 0 _=some (.mp kdK (kdL w),[]);rfl
theorem kinds_ok(g:Sh.Glob)(ps:List PV):SCalls Tryz.prog g 127 [.pv (.el ps)] [] (.mp kdK (kdL ps)) []:=by
 refine⟨z40 (by kernel_rfl),fun w E us hG hm hX hl hr=> ?_⟩;obtain⟨u,rfl⟩:∃u,us=[u]:=by
  match us,hl with
  |[u],_=>exact⟨u,rfl⟩
 have hu:=hr 0 _ u rfl rfl;have hS0:=start_sim (N:=47) (xs:=[.pv (.el ps)]) (by show 1≤47;decide) hm hl hr;refine calls_of_wp Tryz.func127 rfl ?_;refine wp_seq (wp_region ?_);show wpOps _ _ _ [0] _ _;rw[wpOps_cons];refine z89 rfl rfl (v:=.map none) (w':=w) rfl ?_;show(Code.seq _ _).wp _ _ _ _;refine wp_seq (wp_region ?_);show wpOps _ kindOps _ (0::(List.range' 1 50++[])) _ _;rw[wpOps_cons];refine z89 rfl rfl (v:=.map (some w.heap.size)) (w':=w.alloc (.map #[] 0)) rfl ?_;have hnew:(w.alloc (.map #[] 0)).heap[w.heap.size]?=some (.map #[] 0):=heap_alloc_new w _;have hbel:Below w.heap.size w (w.alloc (.map #[] 0)):=(Below.refl w.heap.size w).alloc (Nat.le_refl _) _;have hS1:=hS0.same hbel;refine mix_sound (B:=Sh.start w E [] 47) (g:=g) (kt:=3) (et:=124) (text:=false) (t:=205) (m:=3) (b:=w.heap.size) (H:=fun _=>0) (K:=kindK ps) (by show 0≤1000;decide) (by show 47≤1000;decide) hG hX (by kernel_rfl) (by kernel_rfl) (by show 3<47;decide) (Nat.le_refl _) ?_ _ kindMix kindMix_eq ⟨[(0,.pv (.el ps)),(3,.mp [] [])],[],[],[]⟩ _ _ E (kinds_walk g ps) ?_ ?_
 ·intro s a w2 E2 hS hk;show Code.ret.wp _ _ a w2;refine wp_ret ?_;have hhrs:seqO (z60 Tryz.prog) Tryz.f127.results.toList=some [.tmp 2]:=by kernel_rfl
  obtain⟨v,hrun,v1,E4,hv,hm4,hr4,hl4⟩:=fin_of (F:=kindF) rfl rfl hhrs (os:=[]) (os':=[]) (ds:=[]) rfl hS hk;exact⟨hS.defers,v,hrun,v1,E4,hv,hm4,hr4,hl4⟩
 ·have hnt:Tryz.f127.ntmps=47:=rfl;show Sim _ _ ((Act.put ⟨#[u]++Array.replicate (Tryz.f127.ntmps - #[u].size) undef,[]⟩ (some 2) (.map none)).put (some 3) (.map (some w.heap.size))) _ _;have h2:=hS1.act (a2:=Act.put ⟨#[u]++Array.replicate (Tryz.f127.ntmps - #[u].size) undef,[]⟩ (some 2) (.map none)) (by rw[hnt];simp[Act.put];rfl) rfl (fun k x hx=>by
   have hx:([TV.pv (.el ps)]:List TV)[k]?=some x:=by rw[←hx];cases k<;>rfl
   cases k with
   |zero=>
    cases hx;have:=(hS1.tmp 0 _ rfl).2;simpa [Act.put,Array.getD]using this
   |succ k=>simp at hx)
  have h3:=h2.setT (k:=3) (by show 3<47;decide) (x:=.mp [] []) (v:=.map (some w.heap.size)) (.mp [] [] w.heap.size #[] 0 (fun _=>undef) hnew rfl rfl (by simp) (by simp));have he:((startE [.pv (.el ps)] []).fs.setT 3 (.mp [] []))=(⟨[(0,.pv (.el ps)),(3,.mp [] [])],[],[],[]⟩:ES).fs:=by
   refine FS.ext' (fun k=> ?_) (fun k=>rfl) (fun k=>rfl) (fun k=>rfl);show setF (lk [(0,TV.pv (.el ps))]) 3 _ k=lk [(0,_),(3,_)] k;rw[←lk_sv];rfl
  rw[he]at h3;exact h3
 ·show(Act.put _ (some 3) _).tmps.getD 3 undef=_;simp[Act.put,Array.getD]
def wkP(c:Cls)(h:Chg)(i:Nat)(b:Bool)(x o:PV):List PV:=
 [.v (.string (str c.n)),.sl 4 (flR c.fs),.v (.int .i64 h.k),.v (.string (str h.f)),.v (.string (str h.n)),.v (.string (str h.m)),.v (.int .i64 h.t.k),.v (.int .i64 h.t.o),.v (.string (str h.x)),.v (.string (str h.o)),
  .v (.int .i64 (i:Int)),.v (.bool b),x,o]
def wkC(c:Cls)(h:Chg):List PV:=wkP c h (atV c.fs h.f) (hasV c.fs h.f) (tlT c h.t (tellV c h.x h.t)) (tlT c h.t (tellV c h.o h.t))
theorem fieldT_eq(fs:List Fld)(s:List UInt8):fieldT fs s=.tuple [I (atV fs s:Int),B (hasV fs s)]:=by
 unfold fieldT atV hasV;by_cases h:fieldAt fs s<0
 ·rw[if_pos h,decide_eq_true h];have:(fieldAt fs s).toNat=0:=by omega
  rw[this];rfl
 ·rw[if_neg h,decide_eq_false h];have:((fieldAt fs s).toNat:Int)=fieldAt fs s:=by omega
  rw[this];rfl
theorem wkFree_ok(g:Sh.Glob)(c:Cls)(h:Chg)(i:Nat)(b:Bool)(x o:PV)(s t:List UInt8)(hl:c.fs.length≤4611686018427387904):SCalls Tryz.prog g 239 [.pv (.el (wkP c h i b x o)),S (str s),S (str t)] [] (B (freeV c.fs s t)) []:=by
 have HF:=field_ok g c s hl;rw[fieldT_eq]at HF;have hv:freeV c.fs s t=(!hasV c.fs s||(s==t)):=by unfold freeV hasV;simp
 rw[hv];generalize hasV c.fs s=q at*;generalize atV c.fs s=j at*;refine z7 hmix tf_6 rfl ?_;unfold clT wkP B at*;cases q
 ·simp only[vW,seval];(with_reducible apply v_call);exact kv;rfl;exact HF;exact km;exact kv;simp only[vW,seval];rfl
 ·simp only[vW,seval];(with_reducible apply v_call);exact kv;rfl;exact HF;exact km;exact kv;simp only[vW,seval]
theorem tlT_ne(c:Cls)(t:Ty)(x:Tl):∃p,tlT c t x=p∧fnilK true (some (.pv p))=some (.pv (.v (.bool x.is)),.no):=by
 cases x<;>exact⟨_,rfl,rfl⟩
def mayF(k:Int):Nat:=if k=1 then 187 else if k=2 then 190 else if k=3 then 193 else if k=4 then 196 else if k=5 then 199 else 202
def fldF(k:Int):Nat:=if k=1 then 188 else if k=2 then 191 else if k=3 then 194 else if k=4 then 197 else if k=5 then 200 else 203
def valF(k:Int):Nat:=if k=1 then 189 else if k=2 then 192 else if k=3 then 195 else if k=4 then 198 else if k=5 then 201 else 195
theorem may_ok(g:Sh.Glob)(c:Cls)(h:Chg)(hk:h.k=1∨h.k=2∨h.k=3∨h.k=4∨h.k=5∨h.k=6)(hl:c.fs.length≤4611686018427387904):SCalls Tryz.prog g (mayF h.k) [.pv (.el (wkC c h))] [] (B (mayV c h)) []:=by
 have HF:=fun s t=>wkFree_ok g c h (atV c.fs h.f) (hasV c.fs h.f) (tlT c h.t (tellV c h.x h.t)) (tlT c h.t (tellV c h.o h.t)) s t hl;have e0:(⟨#[]⟩:ByteArray)=str []:=rfl;have hidx:hasV c.fs h.f=true→∃f,c.fs[atV c.fs h.f]?=some f∧c.fs.getD (atV c.fs h.f) fld0=f:=by
  intro hh;unfold hasV at hh;have h0:¬fieldAt c.fs h.f<0:=by simpa using hh
  obtain⟨f,hf,_⟩:=z163 (fun f:Fld=>f.n==h.f) c.fs (atV c.fs h.f) (by unfold atV fieldAt at*;omega);exact⟨f,hf,by rw[List.getD_eq_getElem?_getD,hf];rfl⟩
 unfold wkC;obtain⟨px,hpx,nx⟩:=tlT_ne c h.t (tellV c h.x h.t);obtain⟨po,hpo,no⟩:=tlT_ne c h.t (tellV c h.o h.t);rw[hpx,hpo]at HF ⊢;unfold mayV mayF;generalize(tellV c h.x h.t).is=bx at*;generalize(tellV c h.o h.t).is=bo at*;generalize atV c.fs h.f=i at*;generalize hasV c.fs h.f=hb at*;clear hpx hpo;obtain⟨k,f,n,m,t,x,o⟩:=h;simp only[]at*;rcases hk with rfl|rfl|rfl|rfl|rfl|rfl
 ·rw[if_pos rfl,if_pos rfl];refine z7 hmix tf_9 rfl ?_;have HF:=HF n [];unfold wkP B at*;by_cases h8:(c.fs.length:Int)<8
  ·have h8':c.fs.length<8:=by omega
   rw[decide_eq_true h8',Bool.true_and];simp only[vW,seval,h8,e0,clV];(with_reducible apply v_call);exact kv;rfl;exact HF;exact km;exact kv;cases freeV c.fs n []
   ·simp only[vW,seval]
   ·simp only[vW,seval,nx]
  ·have h8':¬c.fs.length<8:=by omega
   rw[decide_eq_false h8'];simp only[vW,seval,h8,clV]
 ·rw[if_neg (by decide),if_pos rfl,if_neg (by decide),if_pos rfl];refine z7 hmix tf_10 rfl ?_;unfold wkP B at*;simp only[vW,seval]
 ·rw[if_neg (by decide),if_neg (by decide),if_pos rfl,if_neg (by decide),if_neg (by decide),if_pos rfl];refine z7 hmix tf_12 rfl ?_;have HF:=HF n [];unfold wkP B at*;cases hb
  ·simp only[vW,seval]
  ·simp only[vW,seval,e0];(with_reducible apply v_call);exact kv;rfl;exact HF;exact km;exact kv;simp only[vW,seval]
 ·rw[if_neg (by decide),if_neg (by decide),if_neg (by decide),if_pos rfl,if_neg (by decide),if_neg (by decide),if_neg (by decide),if_pos rfl];refine z7 hmix tf_14 rfl ?_;unfold wkP B at*;cases hb
  ·simp only[vW,seval]
  ·simp only[vW,seval,nx]
 ·rw[if_neg (by decide),if_neg (by decide),if_neg (by decide),if_neg (by decide),if_pos rfl,if_neg (by decide),if_neg (by decide),if_neg (by decide),if_neg (by decide),if_pos rfl];refine z7 hmix tf_13 rfl ?_;have HF1:=HF n f;have HF2:=HF m f;unfold wkP B at*;cases hb
  ·simp only[vW,seval]
  by_cases h8:(8:Int)≤(c.fs.length:Int)
  ·have h8':¬c.fs.length<8:=by omega
   rw[decide_eq_false h8'];simp only[vW,seval,h8,clV]
  ·have h8':c.fs.length<8:=by omega
   rw[decide_eq_true h8'];cases hnm:(n==m)
   ·simp only[vW,seval,h8,hnm,clV];(with_reducible apply v_call);exact kv;rfl;exact HF1;exact km;exact kv;cases freeV c.fs n f
    ·simp only[vW,seval]
    simp only[vW,seval];(with_reducible apply v_call);exact kv;rfl;exact HF2;exact km;exact kv;cases freeV c.fs m f
    ·simp only[vW,seval]
    simp only[vW,seval,nx];cases bx
    ·simp only[vW,seval]
    ·simp only[vW,seval,no]
   ·simp only[vW,seval,h8,hnm,clV]
 ·rw[if_neg (by decide),if_neg (by decide),if_neg (by decide),if_neg (by decide),if_neg (by decide),if_neg (by decide),if_neg (by decide),if_neg (by decide),if_neg (by decide),if_neg (by decide)];refine z7 hmix tf_11 rfl ?_;unfold wkP B at*;cases hb
  ·simp only[vW,seval]
  ·obtain⟨fd,ef,eg⟩:=hidx rfl;rw[eg];simp only[vW,seval,ef,clV]
end Go.Proofs.YtcpaleaajdilgaaGreatDoor
end

section
namespace Go.Sh
open Go Go.RowKit
set_option maxHeartbeats 1000000
theorem start_noX{w:World}{E:Env}{N:Nat}:∀d b,¬(start w E [] N).X d b:=fun d b hx=>by
 rcases hx with⟨cs,h1,_⟩|⟨q,cap,h1,_⟩
 ·simp[objB]at h1
 ·simp[objR]at h1
theorem z91{w:World}{E:Env}{N:Nat}:∀d,¬(start w E [] N).old d:=fun d h=>by have h1:=h.1;have h2:d<1000+0:=h.2;omega
theorem z126{e W n d:Nat}{q:Nat×Nat×Nat}(h:objR [.row e W n] d=some q):d=1000∧q=(e,W,n):=by
 unfold objR at h;split at h
 ·rename_i hd;have:d-1000=0∨∃k,d-1000=k+1:=by cases d-1000<;>simp
  rcases this with h0|⟨k,hk⟩
  ·rw[h0]at h;simp at h;exact⟨by omega,by rw[←h]⟩
  ·rw[hk]at h;simp at h
 ·cases h
theorem objB_one{cs:List TV}{d:Nat}{c:List TV}(h:objB [.box cs] d=some c):d=1000∧c=cs:=by
 unfold objB at h;split at h
 ·rename_i hd;have:d-1000=0∨∃k,d-1000=k+1:=by cases d-1000<;>simp
  rcases this with h0|⟨k,hk⟩
  ·rw[h0]at h;simp at h;exact⟨by omega,h.symm⟩
  ·rw[hk]at h;simp at h
 ·cases h
theorem objB_row{e W n d:Nat}:objB [.row e W n] d=none:=by
 unfold objB;split
 ·have:d-1000=0∨∃k,d-1000=k+1:=by cases d-1000<;>simp
  rcases this with h0|⟨k,hk⟩
  ·rw[h0];rfl
  ·rw[hk];rfl
 ·rfl
theorem objR_box{cs:List TV}{d:Nat}:objR [.box cs] d=none:=by
 unfold objR;split
 ·have:d-1000=0∨∃k,d-1000=k+1:=by cases d-1000<;>simp
  rcases this with h0|⟨k,hk⟩
  ·rw[h0];rfl
  ·rw[hk];rfl
 ·rfl
theorem low_below{X:Nat→Nat→Prop}{w w':World}(h:Below w.heap.size w w'):Low X w w':=⟨h.os,h.tape,h.output,h.size,fun k hk _=>h.block k hk⟩
theorem own_of{P:Program}{g:Glob}{f:Nat}{xs:List TV}{e W:Nat}{es:List (List PV)}(hW:0<W)(hb:hasBody P f)
  (h:∀(w:World) (E:Env) (us:List Value),g.G w→xs.length=us.length→(∀(j:Nat) x v,xs[j]?=some x→us[j]?=some v→RelT w E (objR []) x v)→
   ∃(news:List Value) (F:Nat→Nat→Value),News w E.K W es news F∧Calls P f us.toArray w fun o w'=>∃v',o=.returned v'∧w'.ownsRow w.heap.size e W v' es.length news∧Below w.heap.size w w'):
  SCalls P g f xs [] (.own 1000 W es) [.row e W es.length]:=by
 refine⟨hb,fun w E us hG hm hX hl hr=> ?_⟩;obtain⟨news,F,hn,hc⟩:=h w E us hG hl hr;refine hc.mono ?_;rintro o w' ⟨v',rfl,hown,hbel⟩;have hk0:∀b o u,E.K b o→w.cell? ⟨b,o,none⟩=some u→w'.cell? ⟨b,o,none⟩=some u:=fun b o u h1 h2=>(hbel.cell (z69 h2)).trans h2;obtain⟨hlen,hown⟩:=hown;rcases hown with⟨rfl,h0⟩|⟨k,cap,cur,rfl,hk,hcur,hle,hmax,hsz,htake⟩
 ·have hes:es=[]:=List.eq_nil_of_length_eq_zero h0;subst hes;refine⟨_,{ E with γ:=fun j=>if j=1000 then none else E.γ j },rfl,⟨fun d cs hd=>(by rw[objB_row]at hd;cases hd),fun d e' W' n hd=> ?_,fun d d' cs cs' hd=>(by rw[objB_row]at hd;cases hd),fun d d' cs q k cap hd=>(by rw[objB_row]at hd;cases hd),fun d d' q q' k cap cap' h1 h2 h3=> ?_,fun k o ho=>Nat.lt_of_lt_of_le (hm.lt k o ho) hbel.size,low_below hbel,fun k o u h1 h2=>⟨h1,hk0 k o u h1 h2⟩,fun k o h1=> .inl h1,⟨fun d hd=>absurd hd (z91 d),fun d hd=>absurd hd (z91 d),fun d e W n hd=>absurd hd (z91 d)⟩⟩,?_,⟨fun d h1 h2=>absurd h2 (by simp;omega),fun d h1 h2=>absurd h2 (by simp;omega),fun d e W n hd=>by simp[objR]at hd⟩⟩
  ·obtain⟨rfl,hq⟩:=z126 hd;cases hq;exact .inl ⟨by simp,rfl⟩
  ·obtain⟨rfl,_⟩:=z126 h1;simp at h3
  ·refine .own 1000 W [] _ (.sl W [] 0 0 0 none (fun _ _=>undef) (by simp) (by simp) (Nat.zero_le _) (by simp) (by simp) (by simp)) (fun e' W' n hd=> ?_);obtain⟨_,hq⟩:=z126 hd;cases hq;exact⟨Nat.le_refl _,fun _=>⟨rfl,by simp[hdr]⟩⟩
 ·have hcell:∀(j:Nat) u,news[j]?=some u→w'.cell? ⟨k,j,none⟩=some u:=fun j u hj=>by
   have hj':j<es.length*W:=by rw[←hlen];exact(gJ hj).1
   have:=World.ownsRow.cellAt (w:=w') (base:=w.heap.size) (e:=e) (size:=W) (g:=k) (n:=es.length) (cap:=cap) (xs:=news) ⟨hlen,.inr ⟨k,cap,cur,rfl,hk,hcur,hle,hmax,hsz,htake⟩⟩ j hj';rw[this];exact hj
  let K':Nat→Nat→Prop:=fun b o=>E.K b o∨(b=k∧o<es.length*W)
  have hkk:∀b o u,E.K b o→w.cell? ⟨b,o,none⟩=some u→K' b o∧w'.cell? ⟨b,o,none⟩=some u:=fun b o u h1 h2=>⟨.inl h1,hk0 b o u h1 h2⟩
  have hklt:k<w'.heap.size:=(gA hcur).1;refine⟨_,{ E with K:=K',γ:=fun j=>if j=1000 then some (k,cap)else E.γ j },rfl,⟨fun d cs hd=>(by rw[objB_row]at hd;cases hd),fun d e' W' n hd=> ?_,fun d d' cs cs' hd=>(by rw[objB_row]at hd;cases hd),fun d d' cs q k cap hd=>(by rw[objB_row]at hd;cases hd),fun d d' q q' k cap cap' h1 h2 h3 _=> ?_,fun b o ho=> ?_,low_below hbel,fun b o u h1 h2=>⟨.inl h1,hk0 b o u h1 h2⟩,fun b o h1=> ?_,⟨fun d hd=>absurd hd (z91 d),fun d hd=>absurd hd (z91 d),fun d e W n hd=>absurd hd (z91 d)⟩⟩,?_,⟨fun d h1 h2=>absurd h2 (by simp;omega),fun d h1 h2=>absurd h2 (by simp;omega),fun d e W n hd=>by simp[objR]at hd⟩⟩
  ·obtain⟨rfl,hq⟩:=z126 hd;cases hq;refine .inr ⟨k,cap,by simp,.inl hk,⟨⟨cur,hcur,hsz⟩,hle,hmax,fun o ho=> ?_⟩⟩;rcases ho with ho|⟨_,ho⟩
   ·exact absurd (hm.lt k o ho) (by omega)
   ·exact ho
  ·obtain⟨rfl,_⟩:=z126 h1;obtain⟨rfl,_⟩:=z126 h2;rfl
  ·rcases ho with ho|⟨rfl,_⟩
   ·exact Nat.lt_of_lt_of_le (hm.lt b o ho) hbel.size
   ·exact hklt
  ·rcases h1 with h1|⟨rfl,_⟩
   ·exact .inl h1
   ·exact .inr (.inl hk)
  ·refine .own 1000 W es _ (.sl W es k 0 cap _ F (fun _=>rfl) hle hmax hn.len (fun i j cs c h1 h2=> ?_) (fun i j cs c h1 h2=> ?_)) (fun e' W' n hd=> ?_)
   ·obtain⟨n1,n2,_⟩:=hn.at_ i j cs c h1 h2;have hi:=(gJ h1).1;have hj:j<W:=by rw[←hn.len cs (gM h1)];exact(gJ h2).1
    rw[Nat.zero_add];exact⟨.inr ⟨rfl,idx_lt hi hj⟩,hcell _ _ n1,n2⟩
   ·exact(hn.at_ i j cs c h1 h2).2.2.mono hkk
   ·obtain⟨_,hq⟩:=z126 hd;cases hq;exact⟨Nat.le_refl _,fun _=>⟨rfl,by simp[hdr]⟩⟩
def PV.flat:PV→Bool
 | .v _=>true
 | .sl _ []=>true
 |_=>false
theorem flat_any{w:World}{K K':Nat→Nat→Prop}{p:PV}{v:Value}(hp:p.flat=true)(h:RelV w K p v):RelV w K' p v:=by
 cases h with
 |v=>exact .v _
 |sl W es b off cap p f hp' hcap hmax hW hc hs=>
  cases es with
  |nil=>exact .sl W [] b off cap p f hp' hcap hmax hW (by simp) (by simp)
  |cons x l=>simp[PV.flat]at hp
 |_=>simp[PV.flat]at hp
theorem SCalls.boxed{P:Program}{g:Glob}{f:Nat}{xs:List TV}{e W:Nat}{es:List (List PV)}(h:SCalls P g f xs [] (.own 1000 W es) [.row e W es.length])(hne:es≠[])(hfl:∀cs∈es,cs.length=W∧∀c∈cs,c.flat=true):
  SCalls P g f xs [] (.bs 1000 0 es.length es.length) [.box (es.flatten.map TV.pv)]:=by
 refine⟨h.1,fun w E us hG hm hX hl hr=>(h.2 w E us hG hm hX hl hr).mono ?_⟩;rintro o w' ⟨v,E',rfl,hM,hrel,hleft⟩;have hq:objR [.row e W es.length] 1000=some (e,W,es.length):=by simp[objR]
 cases hrel with
 |own _ _ _ _ hv hown=>
 obtain⟨_,hval⟩:=hown e W es.length hq;obtain⟨_,rfl⟩:=hval rfl;have hpos:0<es.length:=List.length_pos_iff.2 hne;rcases hM.row 1000 e W es.length hq with⟨_,h0⟩|⟨k,cap,hg,hk,hrow⟩
 ·omega
 have hk:w.heap.size≤k:=by
  rcases hk with hk|hk
  ·exact hk
  ·exact absurd hk (start_noX _ _)
 rw[hg]at hv ⊢;obtain⟨cur,hcur,hsz⟩:=hrow.cells;obtain⟨b,off,cap',p,F,he,hp,_,_,hWs,hcs⟩:=z63 hv;have hpe:=hp hne;subst hpe;simp only[hdr,Value.slice.injEq,Option.some.injEq,Addr.mk.injEq]at he;obtain⟨⟨rfl,rfl,_⟩,_,rfl⟩:=he;have hno:∀d,¬(start w E [] 0).old d:=z91;have hcl:cur.toList.length=cap*W:=by rw[Array.length_toList];exact hsz
 have htk:(cur.toList.take (es.length*W)).length=es.length*W:=by rw[List.length_take,hcl];exact Nat.min_eq_left (Nat.mul_le_mul_right W hrow.le)
 refine⟨_,{ E' with K:=fun b o=>E'.K b o∧b≠k,β:=fun j=>if j=1000 then k else E'.β j },rfl,⟨fun d cs hd=> ?_,fun d e' W' n hd=>(by rw[objR_box]at hd;cases hd),fun d d' cs cs' h1 h2 _=> ?_,fun d d' cs q k cap _ h2=>(by rw[objR_box]at h2;cases h2),fun d d' q q' k cap cap' h1=>(by rw[objR_box]at h1;cases h1),fun b o ho=>hM.lt b o ho.1,hM.low,fun b o u h1 h2=> ?_,fun b o h1=>hM.knew b o h1.1,⟨fun d hd=>absurd hd (hno d),fun d hd=>absurd hd (hno d),fun d e W n hd=>absurd hd (hno d)⟩⟩,?_,⟨fun d h1 h2=>absurd h2 (by simp;omega),fun d h1 h2=>absurd h2 (by simp;omega),fun d e W n hd=>by simp[objR]at hd⟩⟩
 ·obtain⟨rfl,rfl⟩:=objB_one hd;simp only[if_true];refine⟨⟨(gA hcur).1,⟨_,_,_,hcur⟩,fun o=> ?_,fun j c hj=> ?_,fun o ho=>ho.2 rfl⟩,.inl hk⟩
  ·exact World.ownsRow.frozenAt (w:=w') (base:=0) (e:=e) (size:=W) (g:=k) (n:=es.length) (cap:=cap) (xs:=cur.toList.take (es.length*W)) ⟨htk,.inr ⟨k,cap,cur,rfl,Nat.zero_le _,hcur,hrow.le,hrow.max,hsz,rfl⟩⟩ o
  ·rw[List.getElem?_map]at hj;obtain⟨p,hp,rfl⟩:=gO hj;obtain⟨i,q,cs,h1,h2,rfl⟩:=flat_at (fun cs h=>(hfl cs h).1) hp;obtain⟨⟨_,c2,c3⟩,c4⟩:=hcs i q cs p h1 h2;rw[Nat.zero_add]at c2;exact⟨_,c2,c3,.pv (flat_any ((hfl cs (gM h1)).2 p (gM h2)) c4)⟩
 ·obtain⟨rfl,_⟩:=objB_one h1;obtain⟨rfl,_⟩:=objB_one h2;rfl
 ·obtain⟨h3,h4⟩:=hM.keep b o u h1 h2;refine⟨⟨h3,fun hb=> ?_⟩,h4⟩;have:b<w.heap.size:=z69 h2;omega
 ·have:(⟨(if(1000:Nat)=1000 then k else E'.β 1000),0,none⟩:Addr)=⟨k,0,none⟩:=by simp
  show RelT w' _ _ (.bs 1000 0 es.length es.length) (.slice (some ⟨k,0,none⟩) es.length cap);exact .bs (E:={ E' with K:=fun b o=>E'.K b o∧b≠k,β:=fun j=>if j=1000 then k else E'.β j }) 1000 0 es.length es.length cap (Nat.le_refl _) hrow.le hrow.max
end Go.Sh
end

section
namespace Go.Proofs.YtcpaleaajdilgaaGreatDoor
open Go Go.RowKit Go.Mor Go.Sh Go.Lib
set_option maxRecDepth 100000
set_option maxHeartbeats 4000000
theorem infoOf{P:Program}{t:TypeId}{z:Value}{n b:Nat}(h:(P.info? t).map (fun i=>(i.zero,i.size,i.bytes))=some (some z,n,b)):∃i,P.info? t=some i∧i.zero=some z∧i.size=n∧i.bytes=b:=by
 obtain⟨i,h1,h2⟩:=gO h;simp only[Prod.mk.injEq]at h2;exact⟨i,h1,h2.1,h2.2.1,h2.2.2⟩
theorem infF:(Tryz.prog.info? 55).map (fun i=>(i.zero,i.size,i.bytes))=some (some (.agg #[.string ⟨#[]⟩,.int .i64 0,.int .i64 0,.bool false]),4,40):=by kernel_rfl
theorem infV:(Tryz.prog.info? 37).map (fun i=>(i.zero,i.size,i.bytes))=some (some (.agg #[.int .i64 0,.int .i64 0,.string ⟨#[]⟩,.slice none 0 0]),4,56):=by kernel_rfl
theorem clone_any(ad:Addr)(n c:Nat)(news:List Value)(w:World)(hl:news.length=n*4)(hn:n≤maxLen)(hbig:n*40≤140737488355328)(hc:∀j u,news[j]?=some u→w.cell? (ad.add j)=some u)(h1:∀u∈news,u.oneCell'=true):
  Calls Tryz.prog 240 #[.slice (some ad) n c] w fun e w'=>∃v',e=.returned v'∧w'.ownsRow w.heap.size 55 4 v' n news∧Below w.heap.size w w':=by
 have mixed:=hmix;obtain⟨i0,hi,hz0,hz1,hz2⟩:=infoOf infF;have t22:=Tryz.underlying27;have q22:∀(w:World) (a:Option Addr) (n c n' c':Nat),(binOp .eql 27 (.slice a n c) (.slice none n' c')).run Tryz.prog w=.ok (.bool a.isNone) w:=fun w a n c n' c'=>Lib.run_eql_slice_nil w _ _ a n c n' c' t22;have A:Aside (∀j u,news[j]?=some u→w.cell? (ad.add j)=some u):=hc;clear hc
 go_enter Tryz.func240,Tryz.ntmps240
 go_wp2_with (at_builtin;refine wpList_append_own _ rfl _ _ 27 rfl w.heap.size 55 i0 _ 4 40 t22 hi hz0 hz1 hz2 rfl (by decide) _ _ _ rfl (World.ownsRow_made w #[] 0 (Nat.le_refl _) (Nat.zero_le _) (by simp)) ad n c news rfl ?qc1 ?qc2 ?qc3 ?qc4 ?qc5 ?qc6 ?_)
 case qc1=>exact hl
 case qc2=>
  intro j u hj;exact Lib.cell?_alloc_some _ (A.out j u hj)
 case qc3=>exact h1
 case qc4=>rw[Nat.zero_add];exact hn
 case qc5=>rw[Nat.zero_add];exact hbig
 case qc6=>simp
 intro v' w1 hown hgrow hnil
 go_wp2
 go_ret
 refine⟨v',rfl,by simpa using hown,?_⟩;exact((Below.refl _ w).alloc (Nat.le_refl _) _).grown hgrow (by simp) (by intro k hk;simp[Value.ownBlock]at hk;omega)
theorem clone_nil(n c:Nat)(w:World):Calls Tryz.prog 240 #[.slice none n c] w fun e w'=>e=.returned (.slice none 0 0)∧w'=w:=by
 have mixed:=hmix;have t22:=Tryz.underlying27;have q22:∀(w:World) (a:Option Addr) (n c n' c':Nat),(binOp .eql 27 (.slice a n c) (.slice none n' c')).run Tryz.prog w=.ok (.bool a.isNone) w:=fun w a n c n' c'=>Lib.run_eql_slice_nil w _ _ a n c n' c' t22
 go_enter Tryz.func240,Tryz.ntmps240
 go_wp2
 go_ret
 exact⟨rfl,rfl⟩
theorem clone_ok(g:Sh.Glob)(l:List Fld)(hm:l.length≤maxLen)(hbig:l.length*40≤140737488355328):SCalls Tryz.prog g 240 [.pv (.sl 4 (flR l))] [] (.own 1000 4 (flR l)) [.row 55 4 (flR l).length]:=by
 refine own_of (by decide) (z40 (by kernel_rfl)) fun w E us hG hl hr=> ?_;obtain⟨u,rfl⟩:∃u,us=[u]:=by
  match us,hl with
  |[u],_=>exact⟨u,rfl⟩
 have hu:=hr 0 _ u rfl rfl;cases hu with
 |pv hu=>
 obtain⟨news,F,h1,h2,h3,p,cap,rfl,h4⟩:=news_of (by decide) hu;refine⟨news,F,h1,?_⟩;cases p with
 |none=>
  have he:flR l=[]:=by
   rcases h4 with h4|⟨ad,h4,_⟩
   ·exact h4
   ·cases h4
  have hn0:news=[]:=List.eq_nil_of_length_eq_zero (by rw[h2,he];rfl);refine(clone_nil _ _ w).mono ?_;rintro e w' ⟨rfl,rfl⟩;rw[hn0,he];exact⟨_,rfl,World.ownsRow_nil _ _ _ _,.refl _ _⟩
 |some ad=>
  refine clone_any ad _ cap news w h2 (by rw[flLen];exact hm) (by rw[flLen];exact hbig) ?_ h3;rcases h4 with h4|⟨ad',h4,h5⟩
  ·intro j u hj;have hn0:news=[]:=List.eq_nil_of_length_eq_zero (by rw[h2,h4];rfl);rw[hn0]at hj;simp at hj
  ·cases h4;exact h5
theorem growF_any(n:Nat)(w:World)(hn:0<n)(hbig:n*40≤140737488355328)(h63:n≤4611686018427387904):
  Calls Tryz.prog 280 #[.slice none 0 0,.int .i64 n] w fun e w'=>∃v',e=.returned v'∧w'.ownsRow w.heap.size 55 4 v' 0 []∧Below w.heap.size w w':=by
 have mixed:=hmix;obtain⟨i0,hi,hz0,hz1,hz2⟩:=infoOf infF;have t22:=Tryz.underlying27;have t3:=Tryz.underlying3;have q1:¬((n:Int)<0):=by omega
 have q2:RowKit.wrap64 ((0:Int) - 0)=0:=by unfold RowKit.wrap64;omega
 have q3:RowKit.wrap64 ((n:Int) - 0)=(n:Int):=by unfold RowKit.wrap64;omega
 have q4:(n:Int)>0:=by omega
 have hrz:∀ty,(Builtin.append_ #[27,3] ty #[.slice none 0 0,.int .i64 (n:Int)]).run Tryz.prog w=
   .ok (.slice (some ⟨w.heap.size,0,none⟩) n (grownCap w n 0 55)) (w.drew.alloc (.cells ((#[]:Array Value)++Builtin.zeroCells (.agg #[.string ⟨#[]⟩,.int .i64 0,.int .i64 0,.bool false]:Value).cells n++Builtin.zeroCells (.agg #[.string ⟨#[]⟩,.int .i64 0,.int .i64 0,.bool false]:Value).cells (grownCap w n 0 55-n)) 55)):=fun ty=>by
  have h:=Lib.run_append_grow_zeros w 27 3 ty 55 i0 _ .i64 .i64 t22 t3 hi hz0 none 0 0 [] (run_firstCells_none w.drew i0.size 0 0 0) n hn (by omega) (by omega) (by omega) (by rw[hz2];omega) (by rw[hz2,Nat.zero_add];exact growslice_fits (by omega) (by omega));rw[Nat.zero_add]at h;exact h
 have hGn:n≤grownCap w n 0 55:=by have:=grownCap_ge w n 0 55;omega
 obtain⟨G,hG⟩:∃G,G=grownCap w n 0 55:=⟨_,rfl⟩
 rw[←hG]at hrz hGn;have hG63:G≤maxLen:=by
  have:=grownCap_le_maxLen w n 0 55 (by unfold maxLen;omega);rw[←hG]at this;exact this
 have hG64:G≤9223372036854775807:=hG63;clear hG
 go_enter Tryz.func280,Tryz.ntmps280
 go_wp2_with (at_builtin;refine Lib.wpList_append_run _ rfl _ _ _ _ rfl _ _ rfl rfl _ _ (hrz _) ?_)
 all_goals(go_ret;refine⟨_,rfl,⟨rfl,.inr ⟨w.heap.size,G,_,rfl,Nat.le_refl _,heap_alloc_new w.drew _,Nat.zero_le _,hG63,?_,by simp⟩⟩,((Below.refl _ w).drew).alloc (by simp) _⟩)
 all_goals(simp[Builtin.zeroCells,Value.cells];omega)
theorem growF_zero(w:World):Calls Tryz.prog 280 #[.slice none 0 0,.int .i64 0] w fun e w'=>∃v',e=.returned v'∧w'.ownsRow w.heap.size 55 4 v' 0 []∧Below w.heap.size w w':=by
 have mixed:=hmix;have t22:=Tryz.underlying27;have q1:¬((0:Int)<0):=by omega
 have q2:RowKit.wrap64 ((0:Int) - 0)=0:=by unfold RowKit.wrap64;omega
 have q4:¬(0:Int)>0:=by omega
 go_enter Tryz.func280,Tryz.ntmps280
 go_wp2
 go_ret
 exact⟨_,rfl,World.ownsRow_nil _ _ _ _,.refl _ _⟩
theorem growF_ok(g:Sh.Glob)(n:Nat)(hbig:n*40≤140737488355328)(h63:n≤4611686018427387904):SCalls Tryz.prog g 280 [.pv (.v (.slice none 0 0)),I (n:Int)] [] (.own 1000 4 []) [.row 55 4 0]:=by
 refine own_of (es:=[]) (by decide) (z40 (by kernel_rfl)) fun w E us hG hl hr=> ?_;obtain⟨u,u',rfl⟩:∃u u',us=[u,u']:=by
  match us,hl with
  |[u,u'],_=>exact⟨u,u',rfl⟩
 obtain rfl:=val_rel (hr 0 _ u rfl rfl) rfl;obtain rfl:=rel_I (hr 1 _ u' rfl rfl);refine⟨[],fun _ _=>undef,⟨by simp,by simp⟩,?_⟩;by_cases h:n=0
 ·subst h;exact growF_zero w
 ·exact growF_any n w (by omega) hbig h63
theorem growV_any(n:Nat)(w:World)(hn:0<n)(hbig:n*56≤140737488355328)(h63:n≤4611686018427387904):
  Calls Tryz.prog 281 #[.slice none 0 0,.int .i64 n] w fun e w'=>∃v',e=.returned v'∧w'.ownsRow w.heap.size 37 4 v' 0 []∧Below w.heap.size w w':=by
 have mixed:=hmix;obtain⟨i0,hi,hz0,hz1,hz2⟩:=infoOf infV;have t22:=Tryz.underlying31;have t3:=Tryz.underlying3;have q1:¬((n:Int)<0):=by omega
 have q2:RowKit.wrap64 ((0:Int) - 0)=0:=by unfold RowKit.wrap64;omega
 have q3:RowKit.wrap64 ((n:Int) - 0)=(n:Int):=by unfold RowKit.wrap64;omega
 have q4:(n:Int)>0:=by omega
 have hrz:∀ty,(Builtin.append_ #[31,3] ty #[.slice none 0 0,.int .i64 (n:Int)]).run Tryz.prog w=
   .ok (.slice (some ⟨w.heap.size,0,none⟩) n (grownCap w n 0 37)) (w.drew.alloc (.cells ((#[]:Array Value)++Builtin.zeroCells (.agg #[.int .i64 0,.int .i64 0,.string ⟨#[]⟩,.slice none 0 0]:Value).cells n++Builtin.zeroCells (.agg #[.int .i64 0,.int .i64 0,.string ⟨#[]⟩,.slice none 0 0]:Value).cells (grownCap w n 0 37-n)) 37)):=fun ty=>by
  have h:=Lib.run_append_grow_zeros w 31 3 ty 37 i0 _ .i64 .i64 t22 t3 hi hz0 none 0 0 [] (run_firstCells_none w.drew i0.size 0 0 0) n hn (by omega) (by omega) (by omega) (by rw[hz2];omega) (by rw[hz2,Nat.zero_add];exact growslice_fits (by omega) (by omega));rw[Nat.zero_add]at h;exact h
 have hGn:n≤grownCap w n 0 37:=by have:=grownCap_ge w n 0 37;omega
 obtain⟨G,hG⟩:∃G,G=grownCap w n 0 37:=⟨_,rfl⟩
 rw[←hG]at hrz hGn;have hG63:G≤maxLen:=by
  have:=grownCap_le_maxLen w n 0 37 (by unfold maxLen;omega);rw[←hG]at this;exact this
 have hG64:G≤9223372036854775807:=hG63;clear hG
 go_enter Tryz.func281,Tryz.ntmps281
 go_wp2_with (at_builtin;refine Lib.wpList_append_run _ rfl _ _ _ _ rfl _ _ rfl rfl _ _ (hrz _) ?_)
 all_goals(go_ret;refine⟨_,rfl,⟨rfl,.inr ⟨w.heap.size,G,_,rfl,Nat.le_refl _,heap_alloc_new w.drew _,Nat.zero_le _,hG63,?_,by simp⟩⟩,((Below.refl _ w).drew).alloc (by simp) _⟩)
 all_goals(simp[Builtin.zeroCells,Value.cells];omega)
theorem growV_zero(w:World):Calls Tryz.prog 281 #[.slice none 0 0,.int .i64 0] w fun e w'=>∃v',e=.returned v'∧w'.ownsRow w.heap.size 37 4 v' 0 []∧Below w.heap.size w w':=by
 have mixed:=hmix;have t22:=Tryz.underlying31;have q1:¬((0:Int)<0):=by omega
 have q2:RowKit.wrap64 ((0:Int) - 0)=0:=by unfold RowKit.wrap64;omega
 have q4:¬(0:Int)>0:=by omega
 go_enter Tryz.func281,Tryz.ntmps281
 go_wp2
 go_ret
 exact⟨_,rfl,World.ownsRow_nil _ _ _ _,.refl _ _⟩
theorem growV_ok(g:Sh.Glob)(n:Nat)(hbig:n*56≤140737488355328)(h63:n≤4611686018427387904):SCalls Tryz.prog g 281 [.pv (.v (.slice none 0 0)),I (n:Int)] [] (.own 1000 4 []) [.row 37 4 0]:=by
 refine own_of (es:=[]) (by decide) (z40 (by kernel_rfl)) fun w E us hG hl hr=> ?_;obtain⟨u,u',rfl⟩:∃u u',us=[u,u']:=by
  match us,hl with
  |[u,u'],_=>exact⟨u,u',rfl⟩
 obtain rfl:=val_rel (hr 0 _ u rfl rfl) rfl;obtain rfl:=rel_I (hr 1 _ u' rfl rfl);refine⟨[],fun _ _=>undef,⟨by simp,by simp⟩,?_⟩;by_cases h:n=0
 ·subst h;exact growV_zero w
 ·exact growV_any n w (by omega) hbig h63
end Go.Proofs.YtcpaleaajdilgaaGreatDoor
end

section
namespace Go.Proofs.YtcpaleaajdilgaaGreatDoor
open Go Go.RowKit Go.Mor Go.Sh Go.Sh.Cd1 Go.Sh.Cd7
set_option maxRecDepth 100000
set_option maxHeartbeats 4000000
def slR(ls:List (List (List PV))):List (List PV):=ls.map fun l=>[PV.sl 4 l]
theorem slRGet(ls:List (List (List PV)))(i:Nat):(slR ls)[i]?=(ls[i]?).map fun l=>[PV.sl 4 l]:=by unfold slR;rw[List.getElem?_map]
theorem slRLen(ls:List (List (List PV))):(slR ls).length=ls.length:=by unfold slR;rw[List.length_map]
theorem slV:(type_of% @slRGet)∧(type_of% @slRLen):=⟨@slRGet,@slRLen⟩
def cat(ls:List (List (List PV)))(i:Nat):List (List PV):=(ls.take i).flatten
theorem cat_succ{ls:List (List (List PV))}{i:Nat}{l:List (List PV)}(h:ls[i]?=some l):cat ls (i+1)=cat ls i++l:=by
 unfold cat;rw[List.take_add_one,h];simp
theorem cat_le(ls:List (List (List PV))):∀i,(cat ls i).length≤ls.flatten.length:=by
 intro i;unfold cat
 conv=>rhs;rw[←List.take_append_drop i ls,List.flatten_append,List.length_append]
 omega
theorem cat_all(ls:List (List (List PV))):cat ls ls.length=ls.flatten:=by unfold cat;rw[List.take_length]
theorem concatF_ok(g:Sh.Glob)(ls:List (List (List PV)))(hl:ls.length≤1000)(hf:ls.flatten.length≤1000000):SCalls Tryz.prog g 242 [.pv (.sl 1 (slR ls))] [] (.pv (.sl 4 ls.flatten)) []:=by
 have HG:=growF_ok g ls.flatten.length (by omega) (by omega);have hcat:=cat_le ls;have hall:=cat_all ls;refine z54 hmix tf_111 rfl rfl ?_;simp only[vW,seval];refine v_loop (σ:={i:Nat // i≤ls.length}) (fun i=>⟨[(0,.pv (.sl 1 (slR ls))),(3,I ((cat ls i.1).length:Int)),(9,.pv (.sl 1 (slR ls))),(10,I (ls.length:Int)),(11,I (i.1:Int))],[],[],[]⟩) (fun i=>ls.length-i.1) ⟨0,Nat.zero_le _⟩ ?_ ?_
 ·apply lw_of<;>simp[leL,lk,sv,Nat.beq,I,S,ES.kill,has,drp,nilT,slRLen,cat]
 rintro⟨i,hi⟩;by_cases hlt:i<ls.length
 ·have d1:(i:Int)<(ls.length:Int):=by omega
  obtain⟨l,el⟩:∃l,ls[i]?=some l:=⟨_,gE hlt⟩
  have hc:=cat_succ el;have h1:=hcat (i+1);rw[hc,List.length_append]at h1;have w1:IntKind.i64.wrap ((i:Int)+1)=((i+1:Nat):Int):=by rw[wrap64 (by omega) (by omega)];omega
  have w2:IntKind.i64.wrap (((cat ls i).length:Int)+(l.length:Int))=((cat ls i).length:Int)+(l.length:Int):=wrap64 (by omega) (by omega);have d2:¬((cat ls i).length:Int)+(l.length:Int)<0:=by omega
  simp only[vW,seval,slV,d1,d2,el,w1,w2];refine z10 ⟨i+1,hlt⟩ (by show ls.length-(i+1)<ls.length-i;omega) ?_;simp only[hc,List.length_append,Int.natCast_add];apply lw_of<;>simp[leL,lk,sv,Nat.beq,I,S,ES.kill,has,drp,nilT]
 have d1:¬(i:Int)<(ls.length:Int):=by omega
 obtain rfl:i=ls.length:=by omega
 rw[hall];simp only[vW,seval,slV,d1];(with_reducible apply v_call);exact kv;rfl;exact HG;exact km;exact kv;simp only[vW,seval,slV];refine v_loop (σ:={i:Nat // i≤ls.length}) (fun i=>⟨[(6,.own 2096 4 (cat ls i.1)),(25,.pv (.sl 1 (slR ls))),(26,I (ls.length:Int)),(27,I (i.1:Int))],[],[(2096,(55,4,(cat ls i.1).length))],[]⟩) (fun i=>ls.length-i.1) ⟨0,Nat.zero_le _⟩ ?_ ?_
 ·apply lw_of<;>simp[leL,lk,sv,Nat.beq,I,S,ES.kill,has,drp,nilT,slRLen,cat]
 rintro⟨i,hi⟩;by_cases hlt:i<ls.length
 ·have d1:(i:Int)<(ls.length:Int):=by omega
  obtain⟨l,el⟩:∃l,ls[i]?=some l:=⟨_,gE hlt⟩
  have hc:=cat_succ el;have h1:=hcat (i+1);rw[hc,List.length_append]at h1;have w1:IntKind.i64.wrap ((i:Int)+1)=((i+1:Nat):Int):=by rw[wrap64 (by omega) (by omega)];omega
  simp only[vW,seval,slV,d1,el,w1];refine⟨⟨by omega,by unfold maxLen;omega⟩,z10 ⟨i+1,hlt⟩ (by show ls.length-(i+1)<ls.length-i;omega) ?_⟩;simp only[hc,List.length_append];apply lw_of<;>simp[leL,lk,sv,Nat.beq,I,S,ES.kill,has,drp,nilT]
 have d1:¬(i:Int)<(ls.length:Int):=by omega
 obtain rfl:i=ls.length:=by omega
 rw[hall];simp only[vW,seval,slV,d1]
theorem concatV_ok(g:Sh.Glob)(ls:List (List (List PV)))(hl:ls.length≤1000)(hf:ls.flatten.length≤1000000):SCalls Tryz.prog g 243 [.pv (.sl 1 (slR ls))] [] (.pv (.sl 4 ls.flatten)) []:=by
 have HG:=growV_ok g ls.flatten.length (by omega) (by omega);have hcat:=cat_le ls;have hall:=cat_all ls;refine z54 hmix tf_112 rfl rfl ?_;simp only[vW,seval];refine v_loop (σ:={i:Nat // i≤ls.length}) (fun i=>⟨[(0,.pv (.sl 1 (slR ls))),(3,I ((cat ls i.1).length:Int)),(9,.pv (.sl 1 (slR ls))),(10,I (ls.length:Int)),(11,I (i.1:Int))],[],[],[]⟩) (fun i=>ls.length-i.1) ⟨0,Nat.zero_le _⟩ ?_ ?_
 ·apply lw_of<;>simp[leL,lk,sv,Nat.beq,I,S,ES.kill,has,drp,nilT,slRLen,cat]
 rintro⟨i,hi⟩;by_cases hlt:i<ls.length
 ·have d1:(i:Int)<(ls.length:Int):=by omega
  obtain⟨l,el⟩:∃l,ls[i]?=some l:=⟨_,gE hlt⟩
  have hc:=cat_succ el;have h1:=hcat (i+1);rw[hc,List.length_append]at h1;have w1:IntKind.i64.wrap ((i:Int)+1)=((i+1:Nat):Int):=by rw[wrap64 (by omega) (by omega)];omega
  have w2:IntKind.i64.wrap (((cat ls i).length:Int)+(l.length:Int))=((cat ls i).length:Int)+(l.length:Int):=wrap64 (by omega) (by omega);have d2:¬((cat ls i).length:Int)+(l.length:Int)<0:=by omega
  simp only[vW,seval,slV,d1,d2,el,w1,w2];refine z10 ⟨i+1,hlt⟩ (by show ls.length-(i+1)<ls.length-i;omega) ?_;simp only[hc,List.length_append,Int.natCast_add];apply lw_of<;>simp[leL,lk,sv,Nat.beq,I,S,ES.kill,has,drp,nilT]
 have d1:¬(i:Int)<(ls.length:Int):=by omega
 obtain rfl:i=ls.length:=by omega
 rw[hall];simp only[vW,seval,slV,d1];(with_reducible apply v_call);exact kv;rfl;exact HG;exact km;exact kv;simp only[vW,seval,slV];refine v_loop (σ:={i:Nat // i≤ls.length}) (fun i=>⟨[(6,.own 2096 4 (cat ls i.1)),(25,.pv (.sl 1 (slR ls))),(26,I (ls.length:Int)),(27,I (i.1:Int))],[],[(2096,(37,4,(cat ls i.1).length))],[]⟩) (fun i=>ls.length-i.1) ⟨0,Nat.zero_le _⟩ ?_ ?_
 ·apply lw_of<;>simp[leL,lk,sv,Nat.beq,I,S,ES.kill,has,drp,nilT,slRLen,cat]
 rintro⟨i,hi⟩;by_cases hlt:i<ls.length
 ·have d1:(i:Int)<(ls.length:Int):=by omega
  obtain⟨l,el⟩:∃l,ls[i]?=some l:=⟨_,gE hlt⟩
  have hc:=cat_succ el;have h1:=hcat (i+1);rw[hc,List.length_append]at h1;have w1:IntKind.i64.wrap ((i:Int)+1)=((i+1:Nat):Int):=by rw[wrap64 (by omega) (by omega)];omega
  simp only[vW,seval,slV,d1,el,w1];refine⟨⟨by omega,by unfold maxLen;omega⟩,z10 ⟨i+1,hlt⟩ (by show ls.length-(i+1)<ls.length-i;omega) ?_⟩;simp only[hc,List.length_append];apply lw_of<;>simp[leL,lk,sv,Nat.beq,I,S,ES.kill,has,drp,nilT]
 have d1:¬(i:Int)<(ls.length:Int):=by omega
 obtain rfl:i=ls.length:=by omega
 rw[hall];simp only[vW,seval,slV,d1]
theorem rows_more{l:List V}{i:Nat}{v:V}(h:l[i]?=some v):V.rows (l.take (i+1))=V.rows (l.take i)++[V.row v]:=by rw[List.take_add_one,h];simp[V.rows]
theorem fresh7_n(g:Sh.Glob):∀(n:Nat) (l:List V),SizeOf.sizeOf l≤n→l.length≤1000→(∀v∈l,VFew v)→SCalls Tryz.prog g 241 [.pv (.sl 4 (V.rows l))] [] (.own 1000 4 (V.rows l)) [.row 37 4 l.length]:=by
 intro n
 induction n with
 |zero=>intro l hs;cases l<;>simp at hs
 |succ n ih=>
  intro l hs hl hf;have IH:∀v∈l,SCalls Tryz.prog g 241 [.pv (.sl 4 (V.rows v.l))] [] (.own 1000 4 (V.rows v.l)) [.row 37 4 v.l.length]:=fun v hv=>by
   have h1:=List.sizeOf_lt_of_mem hv;have h2:=hf v hv;refine ih v.l ?_ h2.len (fun y hy=>h2.sub hy);cases v with
   |mk k m s vl=>
    have:SizeOf.sizeOf vl<SizeOf.sizeOf (V.mk k m s vl):=by simp;omega
    simp only[Vl];omega
  refine z17 hmix tf_38 rfl rfl rfl ?_;simp only[vW,seval];refine v_loop (σ:={i:Nat // i≤l.length}) (fun i=>⟨[(3,.own 3000 4 (V.rows (l.take i.1))),(6,.pv (.sl 4 (V.rows l))),(7,I (l.length:Int)),(8,I (i.1:Int))],[],[(3000,(37,4,i.1))],[]⟩) (fun i=>l.length-i.1) ⟨0,Nat.zero_le _⟩ ?_ ?_
  ·refine ES.Lw.trans ?_ (show ES.Lw ⟨[(3,nilT),(6,.pv (.sl 4 (V.rows l))),(7,I (l.length:Int)),(8,I 0)],[],[],[]⟩ _ by apply lw_of<;>simp[leL,lk,sv,Nat.beq,I,S,ES.kill,has,drp,nilT]);refine ES.Lw.trans ?_ (adT_lw (k:=3) (d:=3000) (e:=37) (W:=4) (.inr (by decide)) rfl);exact lw_eq rfl
  rintro⟨i,hi⟩;by_cases hlt:i<l.length
  ·have d1:(i:Int)<(l.length:Int):=by omega
   obtain⟨v,ev⟩:∃v,l[i]?=some v:=⟨_,gE hlt⟩
   have w1:IntKind.i64.wrap ((i:Int)+1)=((i+1:Nat):Int):=by rw[wrap64 (by omega) (by omega)];omega
   have HI:=IH v (gM ev);have hm:=rows_more ev;have hlen:(l.take i).length=i:=by rw[List.length_take];omega
   simp only[vW,seval,d1,ev];(with_reducible apply v_call);exact kv;rfl;exact HI;exact km;exact kv;simp only[vW,seval,hlen,w1];refine⟨⟨by omega,by unfold maxLen;omega⟩,z10 ⟨i+1,hlt⟩ (by show l.length-(i+1)<l.length-i;omega) ?_⟩;simp only[hm];apply lw_of<;>simp[leL,lk,sv,Nat.beq,I,S,ES.kill,has,drp,nilT,row4]
  have d1:¬(i:Int)<(l.length:Int):=by omega
  obtain rfl:i=l.length:=by omega
  rw[List.take_length];simp only[vW,seval,d1]
theorem fresh7_ok(g:Sh.Glob)(l:List V)(hl:l.length≤1000)(hf:∀v∈l,VFew v):SCalls Tryz.prog g 241 [.pv (.sl 4 (V.rows l))] [] (.own 1000 4 (V.rows l)) [.row 37 4 l.length]:=fresh7_n g _ l (Nat.le_refl _) hl hf
def flC(l:List Fld):List PV:=(flR l).flatten
theorem flW(l:List Fld):∀cs∈flR l,cs.length=4:=by
 intro cs h;unfold flR at h;obtain⟨f,_,rfl⟩:=List.mem_map.1 h;rfl
theorem flC_len(l:List Fld):(flC l).length=l.length*4:=by unfold flC;rw[flat_len (flW l),flLen]
theorem flC_at{l:List Fld}{k j:Nat}{f:Fld}{p:PV}(h:l[k]?=some f)(hj:(flR1 f)[j]?=some p):(flC l)[k*4+j]?=some p:=by
 unfold flC;exact flat_fwd (flW l) (by rw[flGet,h];rfl) hj
theorem flC_set{f':Fld}{p:PV}{j:Nat}(hj:j<4):∀{l:List Fld} {k:Nat} {f:Fld},l[k]?=some f→(flR1 f).set j p=flR1 f'→(flC l).set (k*4+j) p=flC (l.set k f')
 |[],k,f,h,_=>by simp at h
 |g::l,0,f,h,he=>by
  obtain rfl:g=f:=by simpa using h
  show(flR1 g++flC l).set (0*4+j) p=flR1 f'++flC l;rw[Nat.zero_mul,Nat.zero_add,List.set_append_left _ _ (by exact hj),he]
 |g::l,k+1,f,h,he=>by
  show(flR1 g++flC l).set ((k+1)*4+j) p=flR1 g++flC (l.set k f');have:(k+1)*4+j=(flR1 g).length+(k*4+j):=by show _=4+_;omega
  rw[this,List.set_append_right _ _ (by omega),Nat.add_sub_cancel_left,flC_set hj (by simpa using h) he]
theorem pvC_set2(y z:PV):∀{xs:List PV} {i:Nat},i+1<xs.length→List.take i (pvC xs)++[TV.pv y,TV.pv z]++List.drop (i+2) (pvC xs)=pvC ((xs.set i y).set (i+1) z)
 |[],i,h=>by simp at h
 |[a],i,h=>by simp at h
 |a::b::l,0,h=>rfl
 |a::b::l,i+1,h=>by
  have:=pvC_set2 y z (xs:=b::l) (i:=i) (by simpa using h);show TV.pv a::(List.take i (pvC (b::l))++[TV.pv y,TV.pv z]++List.drop (i+2) (pvC (b::l)))=TV.pv a::pvC (((b::l).set i y).set (i+1) z);rw[this]
theorem cloneB_ok(g:Sh.Glob)(l:List Fld)(hm:l.length≤1000)(hne:l≠[]):SCalls Tryz.prog g 240 [.pv (.sl 4 (flR l))] [] (.bs 1000 0 l.length l.length) [.box (pvC (flC l))]:=by
 have h:=(clone_ok g l (by unfold maxLen;omega) (by omega)).boxed (fun h=>hne (by unfold flR at h;simpa using h)) (fun cs hcs=>⟨flW l cs hcs,fun c hc=>by
  unfold flR at hcs;obtain⟨f,_,rfl⟩:=List.mem_map.1 hcs;simp only[flR1,List.mem_cons,List.not_mem_nil,or_false]at hc;rcases hc with rfl|rfl|rfl|rfl<;>rfl⟩)
 rw[flLen]at h;exact h
theorem putL_set{α:Type}{l:List α}{i:Nat}{x:α}(h:i<l.length):putL l i [x]=l.set i x:=by unfold putL;rw[List.set_eq_take_append_cons_drop,if_pos h];simp
theorem flR_putL(l:List Fld)(i:Nat)(xs:List Fld):flR (putL l i xs)=(flR l).take i++flR xs++(flR l).drop (i+1):=by unfold flR putL;simp[List.map_take,List.map_drop]
theorem has_at{fs:List Fld}{s:List UInt8}(h:hasV fs s=true):∃f,fs[atV fs s]?=some f∧f.n=s∧fs.getD (atV fs s) fld0=f:=by
 unfold hasV at h;have h0:¬fieldAt fs s<0:=by simpa using h
 obtain⟨f,hf,hn⟩:=z163 (fun f:Fld=>f.n==s) fs (atV fs s) (by unfold atV fieldAt at*;omega);exact⟨f,hf,by simpa using hn,by rw[List.getD_eq_getElem?_getD,hf];rfl⟩
theorem fields_ok(g:Sh.Glob)(c:Cls)(h:Chg)(hk:h.k=1∨h.k=2∨h.k=3∨h.k=4∨h.k=5∨h.k=6)(hl:c.fs.length≤1000)(hh:h.k≠1→hasV c.fs h.f=true):SCalls Tryz.prog g (fldF h.k) [.pv (.el (wkC c h))] [] (.pv (.sl 4 (flR (fieldsV c h)))) []:=by
 have HC:=clone_ok g c.fs (by unfold maxLen;omega) (by omega);have HK2:=fun ls h1 h2=>concatF_ok g ls h1 h2;have hidx:h.k≠1→∃f,c.fs[atV c.fs h.f]?=some f∧c.fs.getD (atV c.fs h.f) fld0=f:=fun hn=>by
  obtain⟨f,h1,_,h2⟩:=has_at (hh hn);exact⟨f,h1,h2⟩
 have HB:=fun(hne:c.fs≠[])=>cloneB_ok g c.fs hl hne;unfold wkC fieldsV fldF;generalize tlT c h.t (tellV c h.x h.t)=px at*;generalize tlT c h.t (tellV c h.o h.t)=po at*;generalize hasV c.fs h.f=hb at*;generalize atV c.fs h.f=i at*;obtain⟨k,f,n,m,t,x,o⟩:=h;simp only[]at*;by_cases h1:k=1
 ·subst h1;rw[if_pos rfl,if_pos rfl];refine z54 hmix tf_2 rfl rfl ?_;unfold wkP;simp only[vW,seval];left;(with_reducible apply v_call);exact kv;rfl;exact HC;exact km;exact kv;simp only[vW,seval,clV];refine⟨⟨by omega,by unfold maxLen;omega⟩,?_⟩;simp[flR,flR1]
 obtain⟨fd,ef,eg⟩:=hidx h1;rw[eg];have hi:=(gJ ef).1;have hne:c.fs≠[]:=fun e=>by rw[e]at hi;simp at hi
 have HB:=HB hne;rcases hk with rfl|rfl|rfl|rfl|rfl|rfl
 ·exact absurd rfl h1
 ·rw[if_neg (by decide),if_pos rfl,if_neg (by decide),if_pos rfl];have w1:IntKind.i64.wrap ((i:Int)+1)=((i+1:Nat):Int):=by rw[wrap64 (by omega) (by omega)];omega
  refine z54 hmix tf_4 rfl rfl ?_;unfold wkP;have HD:=HK2 [(flR c.fs).take i,(flR c.fs).drop (i+1)] (by show 2≤1000;decide) (by simp[flLen];omega);simp only[slR,List.map_cons,List.map_nil]at HD;have tl:List.take c.fs.length (flR c.fs)=flR c.fs:=List.take_of_length_le (by rw[flLen];omega);simp only[vW,seval,w1,clV,tl,List.drop_zero];refine⟨⟨by omega,by omega⟩,by omega,?_⟩;(with_reducible apply v_call);exact kv;rfl;exact HD;exact km;exact kv;simp only[vW,seval];rw[flR_putL];simp[flR]
 ·rw[if_neg (by decide),if_neg (by decide),if_pos rfl,if_neg (by decide),if_neg (by decide),if_pos rfl];refine z152 hmix tf_15 rfl ?_;unfold wkP;refine z43 hmix ?_;simp only[vW,seval];refine z43 hmix ?_;simp only[vW,seval];(with_reducible apply v_call);exact kv;rfl;exact HB;exact km;exact kv;simp only[vW,seval];refine z43 hmix ?_;simp only[vW,seval,clV];refine⟨by omega,by rw[flC_len];omega,?_⟩;rw[pvC_set (by rw[flC_len];omega),flC_set (by decide) ef (f':=⟨n,fd.t,fd.ix⟩) rfl];refine sem_lw (frT_lw (k:=3) (d:=2036) (es:=flR (c.fs.set i ⟨n,fd.t,fd.ix⟩)) (c:=c.fs.length) rfl (flW _) (by show some _=some _;rw[flLen,List.length_set])) (sem_swp hmix ?_);simp only[vW,seval];rw[putL_set hi]
 ·rw[if_neg (by decide),if_neg (by decide),if_neg (by decide),if_pos rfl,if_neg (by decide),if_neg (by decide),if_neg (by decide),if_pos rfl];refine z152 hmix tf_18 rfl ?_;unfold wkP;refine z43 hmix ?_;simp only[vW,seval];refine z43 hmix ?_;simp only[vW,seval];(with_reducible apply v_call);exact kv;rfl;exact HB;exact km;exact kv;simp only[vW,seval];refine z43 hmix ?_;have hs1:List.take (i*4+1) (pvC (flC c.fs))++[TV.pv (.v (.int .i64 t.k)),TV.pv (.v (.int .i64 t.o))]++List.drop (i*4+1+2) (pvC (flC c.fs))=pvC (flC (c.fs.set i ⟨fd.n,t,fd.ix⟩)):=by
   rw[pvC_set2 _ _ (by rw[flC_len];omega),flC_set (by decide) ef (f':=⟨fd.n,⟨t.k,fd.t.o⟩,fd.ix⟩) rfl,flC_set (j:=2) (by decide) (f:=⟨fd.n,⟨t.k,fd.t.o⟩,fd.ix⟩) (by simp[hi]) (f':=⟨fd.n,t,fd.ix⟩) rfl,List.set_set]
  simp only[vW,seval,clV,hs1];refine⟨by omega,by rw[flC_len];omega,by omega,by rw[flC_len,List.length_set];omega,?_⟩;rw[pvC_set (by rw[flC_len,List.length_set];omega),flC_set (by decide) (f:=⟨fd.n,t,fd.ix⟩) (by simp[hi]) (f':=⟨fd.n,t,false⟩) rfl,List.set_set];refine sem_lw (frT_lw (k:=3) (d:=2036) (es:=flR (c.fs.set i ⟨fd.n,t,false⟩)) (c:=c.fs.length) rfl (flW _) (by show some _=some _;rw[flLen,List.length_set])) (sem_swp hmix ?_);simp only[vW,seval];rw[putL_set hi]
 ·rw[if_neg (by decide),if_neg (by decide),if_neg (by decide),if_neg (by decide),if_pos rfl,if_neg (by decide),if_neg (by decide),if_neg (by decide),if_neg (by decide),if_pos rfl];have w1:IntKind.i64.wrap ((i:Int)+1)=((i+1:Nat):Int):=by rw[wrap64 (by omega) (by omega)];omega
  refine z54 hmix tf_16 rfl rfl ?_;unfold wkP;have HD:=HK2 [(flR c.fs).take i,flR [⟨n,t,false⟩,⟨m,t,false⟩],(flR c.fs).drop (i+1)] (by show 3≤1000;decide) (by simp[flR];omega);simp only[slR,List.map_cons,List.map_nil,flR,flR1]at HD;have tl:List.take c.fs.length (flR c.fs)=flR c.fs:=List.take_of_length_le (by rw[flLen];omega);simp only[vW,seval,w1,clV,tl,List.drop_zero];refine⟨⟨by omega,by omega⟩,by omega,?_⟩;(with_reducible apply v_call);exact kv;rfl;exact HD;exact km;exact kv;simp only[vW,seval];rw[flR_putL];simp[flR,flR1]
 ·rw[if_neg (by decide),if_neg (by decide),if_neg (by decide),if_neg (by decide),if_neg (by decide),if_neg (by decide),if_neg (by decide),if_neg (by decide),if_neg (by decide),if_neg (by decide)];refine z152 hmix tf_7 rfl ?_;unfold wkP;refine z43 hmix ?_;simp only[vW,seval];refine z43 hmix ?_;simp only[vW,seval];(with_reducible apply v_call);exact kv;rfl;exact HB;exact km;exact kv;simp only[vW,seval];refine z43 hmix ?_;have hg:(pvC (flC c.fs))[i*4+3]?=some (TV.pv (.v (.bool fd.ix))):=by rw[pvC_get,flC_at ef (j:=3) (p:=.v (.bool fd.ix)) rfl];rfl
  simp only[vW,seval,clV,hg];refine⟨by omega,by omega,by rw[flC_len];omega,?_⟩;rw[pvC_set (by rw[flC_len];omega),flC_set (by decide) ef (f':=⟨fd.n,fd.t, !fd.ix⟩) rfl];refine sem_lw (frT_lw (k:=3) (d:=2036) (es:=flR (c.fs.set i ⟨fd.n,fd.t, !fd.ix⟩)) (c:=c.fs.length) rfl (flW _) (by show some _=some _;rw[flLen,List.length_set])) (sem_swp hmix ?_);simp only[vW,seval];rw[putL_set hi]
def FreshB(g:Sh.Glob)(vals:List V):Prop:=SCalls Tryz.prog g 241 [.pv (.sl 4 (V.rows vals))] [] (.bs 1000 0 vals.length vals.length) [.box (pvC (V.rows vals).flatten)]
theorem rowsW(l:List V):∀cs∈V.rows l,cs.length=4:=by
 intro cs h;rw[z50]at h;obtain⟨f,_,rfl⟩:=List.mem_map.1 h;rw[row4];rfl
theorem freshB_flat(g:Sh.Glob)(l:List V)(hl:l.length≤1000)(hne:l≠[])(hf:∀v∈l,v.l=[]):FreshB g l:=by
 have h0:=fresh7_ok g l hl (fun v hv=>few0 (hf v hv));rw[←z58 l]at h0;have h:=h0.boxed (fun h=>hne (by rw[z50]at h;simpa using h)) (fun cs hcs=>⟨rowsW l cs hcs,fun c hc=>by
  rw[z50]at hcs;obtain⟨f,hfm,rfl⟩:=List.mem_map.1 hcs;rw[row4,hf f hfm]at hc;simp only[List.mem_cons,List.not_mem_nil,or_false]at hc;rcases hc with rfl|rfl|rfl|rfl<;>rfl⟩)
 rw[z58]at h;exact h
theorem row_set{W:Nat}{x:List PV}(hx:x.length=W):∀{X:List (List PV)} {k:Nat},(∀cs∈X,cs.length=W)→k<X.length→List.take (k*W) X.flatten++x++List.drop (k*W+W) X.flatten=(X.set k x).flatten
 |[],k,_,h=>by simp at h
 |y::X,0,hW,_=>by
  have hy:=hW y (List.mem_cons_self ..);rw[List.flatten_cons,List.set_cons_zero,List.flatten_cons,Nat.zero_mul,List.take_zero,List.nil_append,Nat.zero_add,List.drop_append,List.drop_eq_nil_of_le (by omega),hy,Nat.sub_self,List.drop_zero,List.nil_append]
 |y::X,k+1,hW,h=>by
  have hy:=hW y (List.mem_cons_self ..);have ih:=row_set hx (X:=X) (k:=k) (fun cs hc=>hW cs (List.mem_cons_of_mem _ hc)) (by simpa using h);rw[List.flatten_cons,List.set_cons_succ,List.flatten_cons,←ih];have e1:(k+1)*W=W+k*W:=by rw[Nat.add_mul];omega
  rw[e1,List.take_append,List.drop_append,List.take_of_length_le (by omega),List.drop_eq_nil_of_le (by omega),hy];simp[Nat.add_sub_cancel_left,Nat.add_assoc]
theorem vals_set(l:List V)(k:Nat)(v:V)(h:k<l.length):List.take (k*4) (pvC (V.rows l).flatten)++[TV.pv (.v (.int .i64 v.k)),TV.pv (.v (.int .i64 v.n)),TV.pv (.v (.string (str v.s))),TV.pv (.sl 4 (V.rows v.l))]++List.drop (k*4+4) (pvC (V.rows l).flatten)=pvC (V.rows (l.set k v)).flatten:=by
 have hs:V.rows (l.set k v)=(V.rows l).set k (V.row v):=by rw[z50,z50,List.map_set]
 rw[hs,←row_set (x:=V.row v) (by rw[row4];rfl) (rowsW l) (by rw[z58];exact h),row4];unfold pvC;simp[List.map_take,List.map_drop]
theorem tell_ok(m:Nat)(c:Cls)(t:Ty)(x:Tl)(vals:List V)(hx:x.is=true)(hs:∀e,x=.ev e→ESmall e)(hc:ClsOk c)(hf:∀v∈vals,VFew v∧VOk v)(hl:vals.length≤1000):
  (∃f p,tlT c t x=.fn (.func f) [] [p]∧SCalls Tryz.prog (glE m) f [.pv (.sl 4 (V.rows vals)),.pv p] [] (tv (x.val c t vals)) [])∨(∃f p q,tlT c t x=.fn (.func f) [] [p,q]∧SCalls Tryz.prog (glE m) f [.pv (.sl 4 (V.rows vals)),.pv p,.pv q] [] (tv (x.val c t vals)) []):=by
 cases x with
 |no=>cases hx
 |zero=>exact .inl ⟨_,_,rfl,teller1_ok (glE m) t vals⟩
 |ev e=>exact .inr ⟨_,_,_,rfl,teller2_ok m c e vals hc (hs e rfl) hf (by omega)⟩
theorem rows_putL(l:List V)(i:Nat)(xs:List V):V.rows (putL l i xs)=(V.rows l).take i++V.rows xs++(V.rows l).drop (i+1):=by simp only[z50];unfold putL;simp[List.map_take,List.map_drop]
theorem rows_take'(l:List V)(i:Nat):V.rows (l.take i)=(V.rows l).take i:=by simp only[z50,List.map_take]
theorem rows_drop'(l:List V)(i:Nat):V.rows (l.drop i)=(V.rows l).drop i:=by simp only[z50,List.map_drop]
theorem vals_add(m:Nat)(c:Cls)(h:Chg)(vals:List V)(hx:(tellV c h.x h.t).is=true)(hs:∀e,tellV c h.x h.t=.ev e→ESmall e)(hc:ClsOk c)(hf:∀v∈vals,VFew v∧VOk v)(hl:vals.length≤1000):
  SCalls Tryz.prog (glE m) 189 [.pv (.el (wkC c h)),.pv (.sl 4 (V.rows vals))] [] (.pv (.sl 4 (V.rows (vals++[(tellV c h.x h.t).val c h.t vals])))) []:=by
 have HF:=fresh7_ok (glE m) vals hl (fun v hv=>(hf v hv).1);have HT:=tell_ok m c h.t _ vals hx hs hc hf hl;unfold wkC;generalize(tellV c h.x h.t).val c h.t vals=r at*;generalize tlT c h.t (tellV c h.x h.t)=px at*;generalize tlT c h.t (tellV c h.o h.t)=po at*;refine z54 hmix tf_3 rfl rfl ?_;unfold wkP;rcases HT with⟨f,p,rfl,HT⟩|⟨f,p,q,rfl,HT⟩
 ·simp only[vW,seval];left;(with_reducible apply v_call);exact kv;rfl;exact HF;exact km;exact kv;simp only[vW,seval];(with_reducible apply z22);exact kv;exact HT;rfl;exact kv;simp only[vW,seval];refine⟨⟨by omega,by unfold maxLen;omega⟩,?_⟩;rw[z86]
 ·simp only[vW,seval];left;(with_reducible apply v_call);exact kv;rfl;exact HF;exact km;exact kv;simp only[vW,seval];(with_reducible apply z22);exact kv;exact HT;rfl;exact kv;simp only[vW,seval];refine⟨⟨by omega,by unfold maxLen;omega⟩,?_⟩;rw[z86]
theorem vals_keep(g:Sh.Glob)(c:Cls)(h:Chg)(vals:List V)(hf:∀v∈vals,VFew v∧VOk v)(hl:vals.length≤1000):
  SCalls Tryz.prog g 195 [.pv (.el (wkC c h)),.pv (.sl 4 (V.rows vals))] [] (.pv (.sl 4 (V.rows vals))) []:=by
 have HF:=fresh7_ok g vals hl (fun v hv=>(hf v hv).1);refine z54 hmix tf_8 rfl rfl ?_;simp only[vW,seval];(with_reducible apply v_call);exact kv;rfl;exact HF;exact km;exact kv;simp only[vW,seval]
theorem vals_drop(g:Sh.Glob)(c:Cls)(h:Chg)(vals:List V)(hf:∀v∈vals,VFew v∧VOk v)(hl:vals.length≤1000)(hi:atV c.fs h.f<vals.length):
  SCalls Tryz.prog g 192 [.pv (.el (wkC c h)),.pv (.sl 4 (V.rows vals))] [] (.pv (.sl 4 (V.rows (putL vals (atV c.fs h.f) [])))) []:=by
 unfold wkC;generalize tlT c h.t (tellV c h.x h.t)=px at*;generalize tlT c h.t (tellV c h.o h.t)=po at*;generalize atV c.fs h.f=i at*;have H1:=fresh7_ok g (vals.take i) (by rw[List.length_take];omega) (fun v hv=>(hf v (List.mem_of_mem_take hv)).1);have H2:=fresh7_ok g (vals.drop (i+1)) (by rw[List.length_drop];omega) (fun v hv=>(hf v (List.mem_of_mem_drop hv)).1);have HK:=concatV_ok g [(V.rows vals).take i,(V.rows vals).drop (i+1)] (by show 2≤1000;decide) (by simp[z58];omega);simp only[slR,List.map_cons,List.map_nil]at HK;rw[rows_take']at H1;rw[rows_drop']at H2;have tl:List.take vals.length (V.rows vals)=V.rows vals:=List.take_of_length_le (by rw[z58];omega);have w1:IntKind.i64.wrap ((i:Int)+1)=((i+1:Nat):Int):=by rw[wrap64 (by omega) (by omega)];omega
 refine z54 hmix tf_5 rfl rfl ?_;unfold wkP;simp only[vW,seval,w1,tl,List.drop_zero];refine⟨⟨by omega,by omega⟩,?_⟩;(with_reducible apply v_call);exact kv;rfl;exact H1;exact km;exact kv;simp only[vW,seval,w1,tl,List.drop_zero];refine⟨by omega,?_⟩;(with_reducible apply v_call);exact kv;rfl;exact H2;exact km;exact kv;simp only[vW,seval];(with_reducible apply v_call);exact kv;rfl;exact HK;exact km;exact kv;simp only[vW,seval];rw[rows_putL];simp[V.rows_nil]
theorem vals_turn(m:Nat)(c:Cls)(h:Chg)(vals:List V)(hb:FreshB (glE m) vals)(hx:(tellV c h.x h.t).is=true)(hs:∀e,tellV c h.x h.t=.ev e→ESmall e)(hc:ClsOk c)(hf:∀v∈vals,VFew v∧VOk v)(hl:vals.length≤1000)(hi:atV c.fs h.f<vals.length):
  SCalls Tryz.prog (glE m) 198 [.pv (.el (wkC c h)),.pv (.sl 4 (V.rows vals))] [] (.pv (.sl 4 (V.rows (putL vals (atV c.fs h.f) [(tellV c h.x h.t).val c h.t vals])))) []:=by
 have HT:=tell_ok m c h.t _ vals hx hs hc hf hl;unfold FreshB at hb;unfold wkC;generalize(tellV c h.x h.t).val c h.t vals=r at*;generalize tlT c h.t (tellV c h.x h.t)=px at*;generalize tlT c h.t (tellV c h.o h.t)=po at*;generalize atV c.fs h.f=i at*;have hset:=vals_set vals i r hi;have hln:(V.rows vals).flatten.length=vals.length*4:=by rw[flat_len (rowsW vals),z58]
 have hput:=putL_set (x:=r) hi;refine z152 hmix tf_19 rfl ?_;unfold wkP;refine z43 hmix ?_;simp only[vW,seval];refine z43 hmix ?_;simp only[vW,seval];(with_reducible apply v_call);exact kv;rfl;exact hb;exact km;exact kv;simp only[vW,seval];refine z43 hmix ?_;rcases HT with⟨f,p,rfl,HT⟩|⟨f,p,q,rfl,HT⟩
 ·simp only[vW,seval];(with_reducible apply z22);exact kv;exact HT;rfl;exact kv;simp only[vW,seval,hset];refine⟨by omega,by rw[hln];omega,?_⟩;refine sem_lw (frT_lw (k:=5) (d:=2028) (es:=V.rows (vals.set i r)) (c:=vals.length) rfl (rowsW _) (by show some _=some _;rw[z58,List.length_set])) (sem_swp hmix ?_);simp only[vW,seval];rw[hput]
 ·simp only[vW,seval];(with_reducible apply z22);exact kv;exact HT;rfl;exact kv;simp only[vW,seval,hset];refine⟨by omega,by rw[hln];omega,?_⟩;refine sem_lw (frT_lw (k:=5) (d:=2028) (es:=V.rows (vals.set i r)) (c:=vals.length) rfl (rowsW _) (by show some _=some _;rw[z58,List.length_set])) (sem_swp hmix ?_);simp only[vW,seval];rw[hput]
theorem vals_split(m:Nat)(c:Cls)(h:Chg)(vals:List V)(hx:(tellV c h.x h.t).is=true)(ho:(tellV c h.o h.t).is=true)(hs:∀e,tellV c h.x h.t=.ev e→ESmall e)(hs':∀e,tellV c h.o h.t=.ev e→ESmall e)(hc:ClsOk c)(hf:∀v∈vals,VFew v∧VOk v)(hl:vals.length≤1000)(hi:atV c.fs h.f<vals.length):
  SCalls Tryz.prog (glE m) 201 [.pv (.el (wkC c h)),.pv (.sl 4 (V.rows vals))] [] (.pv (.sl 4 (V.rows (putL vals (atV c.fs h.f) [(tellV c h.x h.t).val c h.t vals,(tellV c h.o h.t).val c h.t vals])))) []:=by
 have HT:=tell_ok m c h.t _ vals hx hs hc hf hl;have HU:=tell_ok m c h.t _ vals ho hs' hc hf hl;unfold wkC;generalize(tellV c h.x h.t).val c h.t vals=r at*;generalize(tellV c h.o h.t).val c h.t vals=u at*;generalize tlT c h.t (tellV c h.x h.t)=px at*;generalize tlT c h.t (tellV c h.o h.t)=po at*;generalize atV c.fs h.f=i at*;have H1:=fresh7_ok (glE m) (vals.take i) (by rw[List.length_take];omega) (fun v hv=>(hf v (List.mem_of_mem_take hv)).1);have H2:=fresh7_ok (glE m) (vals.drop (i+1)) (by rw[List.length_drop];omega) (fun v hv=>(hf v (List.mem_of_mem_drop hv)).1);have HK:=concatV_ok (glE m) [(V.rows vals).take i,[[.v (.int .i64 r.k),.v (.int .i64 r.n),.v (.string (str r.s)),.sl 4 (V.rows r.l)],[.v (.int .i64 u.k),.v (.int .i64 u.n),.v (.string (str u.s)),.sl 4 (V.rows u.l)]],(V.rows vals).drop (i+1)] (by show 3≤1000;decide) (by simp[z58];omega);simp only[slR,List.map_cons,List.map_nil]at HK;rw[rows_take']at H1;rw[rows_drop']at H2;have tl:List.take vals.length (V.rows vals)=V.rows vals:=List.take_of_length_le (by rw[z58];omega);have w1:IntKind.i64.wrap ((i:Int)+1)=((i+1:Nat):Int):=by rw[wrap64 (by omega) (by omega)];omega
 have hend:V.rows (putL vals i [r,u])=(V.rows vals).take i++([[.v (.int .i64 r.k),.v (.int .i64 r.n),.v (.string (str r.s)),.sl 4 (V.rows r.l)],[.v (.int .i64 u.k),.v (.int .i64 u.n),.v (.string (str u.s)),.sl 4 (V.rows u.l)]]++(V.rows vals).drop (i+1)):=by
  rw[rows_putL];show _++[V.row r,V.row u]++_=_;rw[row4 r,row4 u,List.append_assoc]
 rw[hend];refine z54 hmix tf_17 rfl rfl ?_;unfold wkP;rcases HT with⟨f,p,rfl,HT⟩|⟨f,p,q,rfl,HT⟩<;>rcases HU with⟨f',p',rfl,HU⟩|⟨f',p',q',rfl,HU⟩
 all_goals(
  simp only[vW,seval];(with_reducible apply z22);exact kv;exact HT;rfl;exact kv;simp only[vW,seval];(with_reducible apply z22);exact kv;exact HU;rfl;exact kv;simp only[vW,seval,tl,List.drop_zero];refine⟨⟨by omega,by omega⟩,?_⟩;(with_reducible apply v_call);exact kv;rfl;exact H1;exact km;exact kv;simp only[vW,seval,w1,tl,List.drop_zero];refine⟨by omega,?_⟩;(with_reducible apply v_call);exact kv;rfl;exact H2;exact km;exact kv;simp only[vW,seval];(with_reducible apply v_call);exact kv;rfl;exact HK;exact km;exact kv;simp only[vW,seval];simp)
def kdNone:TV:=.agg [.pv (.v .nilFunc),.pv (.v .nilFunc),.pv (.v .nilFunc)]
theorem begin_no(m:Nat)(c:Cls)(h:Chg)(hc:ClsOk c)(hh:ChOk m h)(hno:(z18 c&&wellV h)=false):SCalls Tryz.prog (glE m) 68 [clT c,chT h] [] (.tuple [kdNone,B false]) []:=by
 have HR:=classRight_ok (glE m) c hc;have HW:=wellFormed_ok m h hh;generalize z18 c=r at*;generalize wellV h=w at*;refine z7 hmix tf_36 rfl ?_;unfold clT chT B kdNone at*;cases r
 ·simp only[vW,seval];(with_reducible apply v_call);exact kv;rfl;exact HR;exact km;exact kv;simp only[vW,seval]
 ·cases w
  ·simp only[vW,seval];(with_reducible apply v_call);exact kv;rfl;exact HR;exact km;exact kv;simp only[vW,seval];(with_reducible apply v_call);exact kv;rfl;exact HW;exact km;exact kv;simp only[vW,seval]
  ·cases hno
theorem begin_k(m:Nat)(c:Cls)(h:Chg)(hc:ClsOk c)(hh:ChOk m h)(hr:z18 c=true)(hw:wellV h=true)(hk:h.k=1∨h.k=2∨h.k=3∨h.k=4∨h.k=5∨h.k=6)(j:Nat)
  (hj:findKs (TypeDesc.int .i64) (.int .i64 h.k) kdK 0=some (some j)) (hx:(kdL (wkC c h))[j]?=some (kdT (wkC c h) (mayF h.k) (fldF h.k) (valF h.k))):
  SCalls Tryz.prog (glE m) 68 [clT c,chT h] [] (.tuple [kdT (wkC c h) (mayF h.k) (fldF h.k) (valF h.k),B (mayV c h)]) []:=by
 have HR:=classRight_ok (glE m) c hc;have HW:=wellFormed_ok m h hh;rw[hr]at HR;rw[hw]at HW;have HF:=field_ok (glE m) c h.f hc.len;rw[fieldT_eq]at HF;have H1:=teller_ok m c h.x h.t hh.x hc;have H2:=teller_ok m c h.o h.t hh.o hc;have HM:=may_ok (glE m) c h hk hc.len;have HK:=kinds_ok (glE m) (wkC c h);unfold kdL kdT fnW at hx;unfold kdL kdT fnW at HK;unfold kdT fnW;have hps:(wkC c h).map TV.pv=[S (str c.n),.pv (.sl 4 (flR c.fs)),I h.k,S (str h.f),S (str h.n),S (str h.m),I h.t.k,I h.t.o,S (str h.x),S (str h.o),I (atV c.fs h.f:Int),.pv (.v (.bool (hasV c.fs h.f))),.pv (tlT c h.t (tellV c h.x h.t)),.pv (tlT c h.t (tellV c h.o h.t))]:=rfl;have tc:∀x,(TV.pv (tlT c h.t x)).cells=some [.pv (tlT c h.t x)]:=fun x=>by cases x<;>rfl
 refine z152 hmix tf_36 rfl ?_;generalize wkC c h=ps at*;unfold clT chT tyT B at*;refine z43 hmix ?_;simp only[vW,seval];refine z43 hmix ?_;simp only[vW,seval];(with_reducible apply v_call);exact kv;rfl;exact HR;exact km;exact kv;simp only[vW,seval];(with_reducible apply v_call);exact kv;rfl;exact HW;exact km;exact kv;simp only[vW,seval];refine z43 hmix ?_;simp only[vW,seval];refine z43 hmix ?_;simp only[vW,seval];(with_reducible apply v_call);exact kv;rfl;exact HF;exact km;exact kv;simp only[vW,seval];refine z43 hmix ?_;simp only[vW,seval];(with_reducible apply v_call);exact kv;rfl;exact H1;exact km;exact kv;simp only[vW,seval,tc];refine z43 hmix ?_;simp only[vW,seval];(with_reducible apply v_call);exact kv;rfl;exact H2;exact km;exact kv;simp only[vW,seval,tc];refine sem_lw (frE_lw (k:=6) (d:=20) (ps:=ps) (show lk _ 20=_ from congrArg some hps.symm) rfl) (sem_swp hmix ?_);simp only[vW,seval];(with_reducible apply v_call);exact kv;rfl;exact HK;exact km;exact kv;simp only[vW,seval,hj,hx];(with_reducible apply z22);exact kv;exact HM;rfl;exact kv;simp only[vW,seval]
theorem wk_tuple{cs ds:List TV}(hl:cs.length=ds.length)(h:∀(j:Nat) c d,cs[j]?=some c→ds[j]?=some d→Wk c d):Wk (.tuple cs) (.tuple ds):=by
 intro w E r v hr;cases hr with
 |tuple cs vs hl' hv=>
  refine .tuple ds vs (hl▸hl') (fun j d v hd hv'=> ?_);have hj:j<cs.length:=by
   rcases Nat.lt_or_ge j ds.length with h|h
   ·omega
   ·rw[List.getElem?_eq_none h]at hd;cases hd
  exact h j _ d (gE hj) hd w E r v (hv j _ v (gE hj) hv')
theorem wk_two{a b x y:TV}(h:Wk a b)(h':Wk x y):Wk (.tuple [a,x]) (.tuple [b,y]):=wk_tuple rfl (fun j p q hp hq=>by
 match j with
 |0=>simp at hp hq;subst hp;subst hq;exact h
 |1=>simp at hp hq;subst hp;subst hq;exact h'
 |j+2=>simp at hp)
theorem wk_cl(s:List UInt8):Wk (.agg [S (str s),nilT]) (clT ⟨s,[]⟩):=wk_agg rfl (fun j p q hp hq=>by
 match j with
 |0=>simp at hp hq;subst hp;subst hq;exact .refl _
 |1=>simp at hp hq;subst hp;subst hq;exact wk_nil 4
 |j+2=>simp at hp)
def applyT(r:Cls×Int):TV:=.tuple [clT r.1,I r.2]
def valsT(r:List V×Int):TV:=.tuple [.pv (.sl 4 (V.rows r.1)),I r.2]
theorem well_k{h:Chg}(hw:wellV h=true):h.k=1∨h.k=2∨h.k=3∨h.k=4∨h.k=5∨h.k=6:=by
 unfold wellV at hw;simp only[Bool.and_eq_true]at hw;have:=hw.1.1.1.1.1.1;unfold needV at this;by_cases h1:h.k=1
 ·exact .inl h1
 by_cases h2:h.k=2∨h.k=6
 ·omega
 by_cases h3:h.k=3
 ·omega
 by_cases h4:h.k=4
 ·omega
 by_cases h5:h.k=5
 ·omega
 rw[if_neg h1,if_neg h2,if_neg h3,if_neg h4,if_neg h5]at this;cases this
theorem tell_small{m:Nat}{c:Cls}{s:List UInt8}{t:Ty}(hs:TxOk m s):∀e,tellV c s t=.ev e→ESmall e:=by
 intro e h;unfold tellV at h;split at h
 ·cases h
 ·rename_i hne;split at h
  ·cases h
  ·split at h
   ·cases h;exact hs.sm hne
   ·cases h
theorem begin_yes(m:Nat)(c:Cls)(h:Chg)(hc:ClsOk c)(hh:ChOk m h)(hr:z18 c=true)(hw:wellV h=true):
  SCalls Tryz.prog (glE m) 68 [clT c,chT h] [] (.tuple [kdT (wkC c h) (mayF h.k) (fldF h.k) (valF h.k),B (mayV c h)]) []:=by
 have hk:=well_k hw;have H:=begin_k m c h hc hh hr hw hk;rcases hk with hk|hk|hk|hk|hk|hk
 ·exact H 0 (by rw[hk];rfl) (by rw[hk];rfl)
 ·exact H 1 (by rw[hk];rfl) (by rw[hk];rfl)
 ·exact H 2 (by rw[hk];rfl) (by rw[hk];rfl)
 ·exact H 3 (by rw[hk];rfl) (by rw[hk];rfl)
 ·exact H 4 (by rw[hk];rfl) (by rw[hk];rfl)
 ·exact H 5 (by rw[hk];rfl) (by rw[hk];rfl)
theorem changeRight_ok(m:Nat)(c:Cls)(h:Chg)(hc:ClsOk c)(hh:ChOk m h):SCalls Tryz.prog (glE m) 32 [clT c,chT h] [] (B (okV c h)) []:=by
 have HN:=begin_no m c h hc hh;have HY:=begin_yes m c h hc hh;unfold okV;refine z7 hmix tf_33 rfl ?_;cases hn:(z18 c&&wellV h)
 ·have HN:=HN hn;unfold clT chT kdNone B at*;simp only[vW,seval];(with_reducible apply v_call);exact kv;rfl;exact HN;exact km;exact kv;simp only[vW,seval]
 ·obtain⟨hr,hw⟩:=Bool.and_eq_true_iff.1 hn;have HY:=HY hr hw;unfold clT chT kdT fnW B at*;simp only[vW,seval];(with_reducible apply v_call);exact kv;rfl;exact HY;exact km;exact kv;simp only[vW,seval]
theorem may_has{c:Cls}{h:Chg}(hm:mayV c h=true)(h1:h.k≠1):hasV c.fs h.f=true:=by
 unfold mayV at hm;rw[if_neg h1]at hm;split at hm
 ·exact hm
 split at hm
 ·simp only[Bool.and_eq_true]at hm;exact hm.1
 split at hm
 ·simp only[Bool.and_eq_true]at hm;exact hm.1
 split at hm
 ·simp only[Bool.and_eq_true]at hm;exact hm.1.1.1.1.1.1
 ·simp only[Bool.and_eq_true]at hm;exact hm.1
theorem has_lt{fs:List Fld}{s:List UInt8}(h:hasV fs s=true):atV fs s<fs.length:=by
 obtain⟨f,hf,_⟩:=has_at h;exact(gJ hf).1
theorem valsK_ok(m:Nat)(c:Cls)(h:Chg)(vals:List V)(hh:ChOk m h)(hw:wellV h=true)(hm:mayV c h=true)(hB:h.k=4→vals≠[]→FreshB (glE m) vals)(hc:ClsOk c)(hf:∀v∈vals,VFew v∧VOk v)(hl:vals.length≤1000)(he:vals.length=c.fs.length):
  SCalls Tryz.prog (glE m) (valF h.k) [.pv (.el (wkC c h)),.pv (.sl 4 (V.rows vals))] [] (.pv (.sl 4 (V.rows (valsV c h vals)))) []:=by
 have hs:=fun e=>tell_small (c:=c) (t:=h.t) hh.x e;have hs':=fun e=>tell_small (c:=c) (t:=h.t) hh.o e;have hi:h.k≠1→atV c.fs h.f<vals.length:=fun h1=>by rw[he];exact has_lt (may_has hm h1)
 unfold valF valsV;rcases well_k hw with hk|hk|hk|hk|hk|hk
 ·rw[hk,if_pos rfl,if_pos rfl];unfold mayV at hm;rw[if_pos hk]at hm;simp only[Bool.and_eq_true]at hm;exact vals_add m c h vals hm.2 hs hc hf hl
 ·rw[hk,if_neg (by decide),if_pos rfl,if_neg (by decide),if_pos rfl];exact vals_drop (glE m) c h vals hf hl (hi (by omega))
 ·rw[hk,if_neg (by decide),if_neg (by decide),if_pos rfl,if_neg (by decide),if_neg (by decide),if_neg (by decide),if_neg (by decide)];exact vals_keep (glE m) c h vals hf hl
 ·unfold mayV at hm;rw[hk,if_neg (by decide),if_neg (by decide),if_neg (by decide),if_pos rfl]at hm;simp only[Bool.and_eq_true]at hm;rw[hk,if_neg (by decide),if_neg (by decide),if_neg (by decide),if_pos rfl,if_neg (by decide),if_neg (by decide),if_pos rfl];exact vals_turn m c h vals (hB hk (by intro e;have:=hi (by omega);rw[e]at this;simp at this)) hm.2 hs hc hf hl (hi (by omega))
 ·unfold mayV at hm;rw[hk,if_neg (by decide),if_neg (by decide),if_neg (by decide),if_neg (by decide),if_pos rfl]at hm;simp only[Bool.and_eq_true]at hm;rw[hk,if_neg (by decide),if_neg (by decide),if_neg (by decide),if_neg (by decide),if_pos rfl,if_neg (by decide),if_neg (by decide),if_neg (by decide),if_pos rfl];exact vals_split m c h vals hm.1.2 hm.2 hs hs' hc hf hl (hi (by omega))
 ·rw[hk,if_neg (by decide),if_neg (by decide),if_neg (by decide),if_neg (by decide),if_neg (by decide),if_neg (by decide),if_neg (by decide),if_neg (by decide),if_neg (by decide)];exact vals_keep (glE m) c h vals hf hl
theorem apply_ok(m:Nat)(c:Cls)(h:Chg)(hc:ClsOk c)(hh:ChOk m h)(hl:c.fs.length≤1000):SCalls Tryz.prog (glE m) 30 [clT c,chT h] [] (applyT (applyV c h)) []:=by
 have HR:=classRight_ok (glE m) c hc;have HN:=begin_no m c h hc hh;have HY:=begin_yes m c h hc hh;unfold applyV okV;cases hr:z18 c
 ·rw[hr]at HR;refine SCalls.out ?_ (wk_two (wk_cl []) (.refl _));refine z7 hmix tf_30 rfl ?_;unfold clT chT nilT B at*;simp only[vW,seval];(with_reducible apply v_call);exact kv;rfl;exact HR;exact km;exact kv;simp only[vW,seval];rfl
 rw[hr]at HR;cases hw:wellV h
 ·have HN:=HN (by rw[hr,hw];rfl);refine SCalls.out ?_ (wk_two (wk_cl []) (.refl _));refine z7 hmix tf_30 rfl ?_;unfold clT chT kdNone nilT B at*;simp only[vW,seval];(with_reducible apply v_call);exact kv;rfl;exact HR;exact km;exact kv;simp only[vW,seval];(with_reducible apply v_call);exact kv;rfl;exact HN;exact km;exact kv;simp only[vW,seval];rfl
 have HY:=HY hr hw;cases hm:mayV c h
 ·rw[hm]at HY;refine SCalls.out ?_ (wk_two (wk_cl []) (.refl _));refine z7 hmix tf_30 rfl ?_;unfold clT chT kdT fnW nilT B at*;simp only[vW,seval];(with_reducible apply v_call);exact kv;rfl;exact HR;exact km;exact kv;simp only[vW,seval];(with_reducible apply v_call);exact kv;rfl;exact HY;exact km;exact kv;simp only[vW,seval];rfl
 ·rw[hm]at HY;have HF:=fields_ok (glE m) c h (well_k hw) hl (may_has hm);refine z7 hmix tf_30 rfl ?_;unfold applyT clT chT kdT fnW B at*;simp only[vW,seval];(with_reducible apply v_call);exact kv;rfl;exact HR;exact km;exact kv;simp only[vW,seval];(with_reducible apply v_call);exact kv;rfl;exact HY;exact km;exact kv;simp only[vW,seval];(with_reducible apply z22);exact kv;exact HF;rfl;exact kv;simp only[vW,seval]
theorem changeVals_ok(m:Nat)(c:Cls)(h:Chg)(vals:List V)(hc:ClsOk c)(hh:ChOk m h)(hB:h.k=4→vals≠[]→FreshB (glE m) vals)(hf:∀v∈vals,VFew v∧VOk v)(hl:vals.length≤1000):SCalls Tryz.prog (glE m) 31 [clT c,chT h,.pv (.sl 4 (V.rows vals))] [] (valsT (valsA c h vals)) []:=by
 have HC:=sc_0E (classCheck_ok m c vals hc (fun v hv=>⟨(hf v hv).2,by have:=(hf v hv).1.len;unfold maxLen;omega⟩) (by omega));have HN:=begin_no m c h hc hh;have HY:=begin_yes m c h hc hh;have hck:(check c vals).2=0→z18 c=true∧vals.length=c.fs.length:=by
  intro h0;unfold check at h0;split at h0
  ·cases h0
  ·rename_i hr;split at h0
   ·cases h0
   ·rename_i he;exact⟨by simpa using hr,by omega⟩
 unfold valsA;by_cases h0:(check c vals).2=0
 ·obtain⟨hr,he⟩:=hck h0;rw[if_neg (by simpa using h0)];generalize check c vals=k at*;obtain⟨k1,k2⟩:=k;simp only at h0;subst h0;unfold okV;cases hw:wellV h
  ·have HN:=HN (by rw[hr,hw];rfl);rw[show(!(z18 c&&false&&mayV c h))=true by simp,if_pos rfl];refine SCalls.out ?_ (wk_two (wk_nil 4) (.refl _));refine z7 hmix tf_35 rfl ?_;unfold checkT clT chT kdNone B at*;simp only[vW,seval];(with_reducible apply v_call);exact kv;rfl;exact HC;exact km;exact kv;simp only[vW,seval];(with_reducible apply v_call);exact kv;rfl;exact HN;exact km;exact kv;simp only[vW,seval]
  have HY:=HY hr hw;cases hm:mayV c h
  ·rw[hm]at HY;rw[show(!(z18 c&&true&&false))=true by simp,if_pos rfl];refine SCalls.out ?_ (wk_two (wk_nil 4) (.refl _));refine z7 hmix tf_35 rfl ?_;unfold checkT clT chT kdT fnW B at*;simp only[vW,seval];(with_reducible apply v_call);exact kv;rfl;exact HC;exact km;exact kv;simp only[vW,seval];(with_reducible apply v_call);exact kv;rfl;exact HY;exact km;exact kv;simp only[vW,seval]
  ·rw[hm]at HY;have HV:=valsK_ok m c h vals hh hw hm hB hc hf hl he;rw[hr];refine z7 hmix tf_35 rfl ?_;unfold valsT checkT clT chT kdT fnW B at*;simp only[vW,seval];(with_reducible apply v_call);exact kv;rfl;exact HC;exact km;exact kv;simp only[vW,seval];(with_reducible apply v_call);exact kv;rfl;exact HY;exact km;exact kv;simp only[vW,seval];(with_reducible apply z22);exact kv;exact HV;rfl;exact kv;simp only[vW,seval]
 ·rw[if_pos h0];refine SCalls.out ?_ (wk_two (wk_nil 4) (.refl _));generalize check c vals=k at*;refine z7 hmix tf_35 rfl ?_;unfold checkT clT chT B at*;simp only[vW,seval];(with_reducible apply v_call);exact kv;rfl;exact HC;exact km;exact kv;simp only[vW,seval,h0]
theorem strB(a b:List UInt8):(str a==str b)=(a==b):=by
 show((str a).data==(str b).data)=(a==b)
 rw[Bool.eq_iff_iff,beq_iff_eq,beq_iff_eq];constructor
 ·intro h;have:=congrArg Array.toList h;simpa [str]using this
 ·intro h;rw[h]
theorem fldB(x y:Fld):((str x.n==str y.n)&&(eqTy ⟨x.t.k,x.t.o⟩ ⟨y.t.k,y.t.o⟩&&((x.ix==y.ix)&&true)))=eqFld x y:=by
 rw[strB];unfold eqFld eqTy;simp[Bool.and_assoc]
theorem eqFlds_len:∀{a b:List Fld},eqFlds a b=true→a.length=b.length
 |[],[],_=>rfl
 |[],_::_,h=>by simp[eqFlds]at h
 |_::_,[],h=>by simp[eqFlds]at h
 |x::a,y::b,h=>by
  rw[eqFlds,Bool.and_eq_true]at h;rw[List.length_cons,List.length_cons,eqFlds_len h.2]
theorem eqF_ok(g:Sh.Glob)(a b:List Fld)(hl:a.length≤4611686018427387904)(hl':b.length≤4611686018427387904):SCalls Tryz.prog g 81 [.pv (.sl 4 (flR a)),.pv (.sl 4 (flR b))] [] (B (eqFlds a b)) []:=by
 obtain⟨R,hR⟩:∃R,eqFlds a b=R:=⟨_,rfl⟩
 rw[hR];refine z7 hmix Cd4.tf_114 rfl ?_;unfold B;by_cases he:a.length=b.length
 ·have d0:(a.length:Int)=(b.length:Int):=by omega
  simp only[vW,seval,d0,clV];refine v_loop (σ:={i:Nat // i≤a.length∧eqFlds (a.drop i) (b.drop i)=R}) (fun i=>⟨[(0,.pv (.sl 4 (flR a))),(1,.pv (.sl 4 (flR b))),(12,I (a.length:Int)),(13,I (i.1:Int))],[],[],[]⟩) (fun i=>a.length-i.1) ⟨0,Nat.zero_le _,by simpa using hR⟩ ?_ ?_
  ·apply lw_of<;>simp[leL,lk,sv,Nat.beq,I,S,ES.kill,has,drp,nilT,d0]
  rintro⟨i,hi,hT⟩;by_cases hlt:i<a.length
  ·have d1:(i:Int)<(a.length:Int):=by omega
   have hlt2:i<b.length:=by omega
   obtain⟨x,ex⟩:∃x,a[i]?=some x:=⟨_,gE hlt⟩
   obtain⟨y,ey⟩:∃y,b[i]?=some y:=⟨_,gE hlt2⟩
   have w1:IntKind.i64.wrap ((i:Int)+1)=((i+1:Nat):Int):=by rw[wrap64 (by omega) (by omega)];omega
   have ha:a.drop i=x::a.drop (i+1):=by rw[List.drop_eq_getElem_cons hlt];congr 1;rw[gE hlt]at ex;exact Option.some.inj ex
   have hb:b.drop i=y::b.drop (i+1):=by rw[List.drop_eq_getElem_cons hlt2];congr 1;rw[gE hlt2]at ey;exact Option.some.inj ey
   rw[ha,hb,eqFlds]at hT;have hf:=fldB x y;have hn:=neqFld (str x.n) (str y.n) x.t.k y.t.k x.t.o y.t.o x.ix y.ix;rw[hf]at hn;cases hx:eqFld x y
   ·rw[hx]at hT hn;simp only[Bool.false_and]at hT;subst hT;simp only[vW,seval,d1,ex,ey,hn,clV]
   ·rw[hx]at hT hn;rw[Bool.true_and]at hT;simp only[vW,seval,d1,ex,ey,hn,w1,clV];refine z10 ⟨i+1,hlt,hT⟩ (by show a.length-(i+1)<a.length-i;omega) ?_;apply lw_of<;>simp[leL,lk,sv,Nat.beq,I,S,ES.kill,has,drp,nilT]
  have d1:¬(i:Int)<(a.length:Int):=by omega
  have ha:a.drop i=[]:=List.drop_eq_nil_of_le (by omega);have hb:b.drop i=[]:=List.drop_eq_nil_of_le (by omega);rw[ha,hb,eqFlds]at hT;subst hT;simp only[vW,seval,d1]
 ·have d0:¬(a.length:Int)=(b.length:Int):=by omega
  have:R=false:=by
   cases R
   ·rfl
   ·exact absurd (eqFlds_len hR) he
  subst this;simp only[vW,seval,d0,clV]
theorem classSame_ok(g:Sh.Glob)(a b:Cls)(hl:a.fs.length≤4611686018427387904)(hl':b.fs.length≤4611686018427387904):SCalls Tryz.prog g 38 [clT a,clT b] [] (B (z112 a b)) []:=by
 have HE:=eqF_ok g a.fs b.fs hl hl';unfold z112;refine z7 hmix Cd4.tf_51 rfl ?_;unfold clT B at*;cases hn:(a.n==b.n)
 ·simp only[vW,seval,hn]
 ·simp only[vW,seval,hn];(with_reducible apply v_call);exact kv;rfl;exact HE;exact km;exact kv;simp only[vW,seval]
theorem refSame4_ok(g:Sh.Glob)(a:Cls)(hl:a.fs.length≤4611686018427387904):SCalls Tryz.prog g 43 [clT a,clT a] [] (B true) []:=by
 refine z7 hmix Cd7.tf_109 rfl ?_;unfold clT B;simp only[vW,seval,clV];refine v_loop (σ:={i:Nat // i≤a.fs.length}) (fun i=>⟨[(2,.ptr 2 0),(3,.ptr 3 0),(5,I (i.1:Int))],[(2,[S (str a.n),.pv (.sl 4 (flR a.fs))]),(3,[S (str a.n),.pv (.sl 4 (flR a.fs))])],[],[]⟩) (fun i=>a.fs.length-i.1) ⟨0,Nat.zero_le _⟩ ?_ ?_
 ·apply lw_of<;>simp[leL,lk,sv,Nat.beq,I,S,ES.kill,has,drp,nilT]
 rintro⟨i,hi⟩;by_cases hlt:i<a.fs.length
 ·have d1:(i:Int)<(a.fs.length:Int):=by omega
  obtain⟨x,ex⟩:∃x,a.fs[i]?=some x:=⟨_,gE hlt⟩
  have w1:IntKind.i64.wrap ((i:Int)+1)=((i+1:Nat):Int):=by rw[wrap64 (by omega) (by omega)];omega
  have hn:=neqFld (str x.n) (str x.n) x.t.k x.t.k x.t.o x.t.o x.ix x.ix;have hxx:eqFld x x=true:=by unfold eqFld;simp
  rw[fldB x x,hxx]at hn;simp only[vW,seval,d1,ex,hn,w1,clV];refine z10 ⟨i+1,hlt⟩ (by show a.fs.length-(i+1)<a.fs.length-i;omega) ?_;apply lw_of<;>simp[leL,lk,sv,Nat.beq,I,S,ES.kill,has,drp,nilT]
 have d1:¬(i:Int)<(a.fs.length:Int):=by omega
 simp only[vW,seval,d1,clV]
theorem sameVals_ok(g:Sh.Glob)(l:List V)(hf:∀v∈l,VFew v)(hl:l.length≤4611686018427387904):SCalls Tryz.prog g 39 [.pv (.sl 4 (V.rows l)),.pv (.sl 4 (V.rows l))] [] (B true) []:=by
 refine z7 hmix Cd7.tf_110 rfl ?_;unfold B;simp only[vW,seval];refine v_loop (σ:={i:Nat // i≤l.length}) (fun i=>⟨[(0,.pv (.sl 4 (V.rows l))),(1,.pv (.sl 4 (V.rows l))),(5,I (i.1:Int))],[],[],[]⟩) (fun i=>l.length-i.1) ⟨0,Nat.zero_le _⟩ ?_ ?_
 ·apply lw_of<;>simp[leL,lk,sv,Nat.beq,I,S,ES.kill,has,drp,nilT]
 rintro⟨i,hi⟩;by_cases hlt:i<l.length
 ·have d1:(i:Int)<(l.length:Int):=by omega
  obtain⟨v,ev⟩:∃v,l[i]?=some v:=⟨_,gE hlt⟩
  have w1:IntKind.i64.wrap ((i:Int)+1)=((i+1:Nat):Int):=by rw[wrap64 (by omega) (by omega)];omega
  have HS:=refSame_ok g v v (hf v (gM ev)).small;rw[cmpV_self]at HS;simp only[vW,seval,d1,ev];(with_reducible apply v_call);exact kv;rfl;exact HS;exact km;exact kv;simp only[vW,seval,w1];refine z10 ⟨i+1,hlt⟩ (by show l.length-(i+1)<l.length-i;omega) ?_;apply lw_of<;>simp[leL,lk,sv,Nat.beq,I,S,ES.kill,has,drp,nilT]
 have d1:¬(i:Int)<(l.length:Int):=by omega
 simp only[vW,seval,d1]
end Go.Proofs.YtcpaleaajdilgaaGreatDoor
end

section
namespace Go.Proofs.YtcpaleaajdilgaaGreatDoor
open Go Go.RowKit Go.Mor Go.Sh Go.Sh.Cd1
set_option maxRecDepth 100000
set_option maxHeartbeats 2000000
theorem bl_str(l:List UInt8):bl (str l)=l:=by simp[bl,str]
theorem in64_T{x:Int}(h:I64 x):in64 x=true:=by unfold in64;obtain⟨h1,h2⟩:=h;simp[h1,h2]
theorem wNum_ok(a0 a1:Addr)(m:Nat)(x:Int)(h:I64 x):SCalls Tryz.prog (gl a0 a1 m) 64 [I x] [] (S (str (num x))) []:=
 z149 a0 a1 m _ _ _ _ _ (by simp[prim1,I,Nat.beq,in64_T h])
theorem wText_ok(a0 a1:Addr)(m:Nat)(l:List UInt8)(h:l.length≤10000):SCalls Tryz.prog (gl a0 a1 m) 93 [S (str l)] [] (.tuple [S (str (text l)),I 0]) []:=
 z149 a0 a1 m _ _ _ _ _ (by simp[prim1,S,Nat.beq,bl_str,textTV,h];omega)
theorem readNum_ok(a0 a1:Addr)(m:Nat)(l:List UInt8)(a:Int)(hl:l.length<1125899906842624)(h:I64 a):SCalls Tryz.prog (gl a0 a1 m) 124 [S (str l),I a] [] (numTV (z31 l a)) []:=
 z149 a0 a1 m _ _ _ _ _ (by simp[prim1,S,I,Nat.beq,bl_str,in64_T h,hl])
theorem readText_ok(a0 a1:Addr)(m:Nat)(l:List UInt8)(a:Int)(hl:l.length<1125899906842624)(h:I64 a):SCalls Tryz.prog (gl a0 a1 m) 125 [S (str l),I a] [] (readTV (z25 l a)) []:=
 z149 a0 a1 m _ _ _ _ _ (by simp[prim1,S,I,Nat.beq,bl_str,in64_T h,hl])
end Go.Proofs.YtcpaleaajdilgaaGreatDoor
end

section
namespace Go.Mor
open Go Go.RowKit
set_option maxHeartbeats 1000000
abbrev Rd(α:Type):Type:=List UInt8→Int→Option (α×Int)
def Rd.bind{α β:Type}(r:Rd α)(f:α→Rd β):Rd β:=fun s a=>match r s a with|none=>none|some (v,b)=>f v s b
def Rd.ret{α:Type}(v:α):Rd α:=fun _ a=>some (v,a)
def Enc{α:Type}(r:Rd α)(e:List UInt8)(v:α):Prop:=∀pre post:List UInt8,r (pre++e++post) pre.length=some (v,((pre.length+e.length:Nat):Int))
def Cuts{α:Type}(r:Rd α):Prop:=∀(s:List UInt8) (a:Int) (v:α) (b:Int) (k:Nat),r s a=some (v,b)→a≤k→a≤b∧(b≤k→r (s.take k) a=some (v,b))∧(k<b→r (s.take k) a=none)
theorem Enc.bind{α β:Type}{r:Rd α}{f:α→Rd β}{e1 e2:List UInt8}{v1:α}{v2:β}(h1:Enc r e1 v1)(h2:Enc (f v1) e2 v2):Enc (r.bind f) (e1++e2) v2:=by
 intro pre post;have a:=h1 pre (e2++post);have b:=h2 (pre++e1) post;rw[show pre++(e1++e2)++post=pre++e1++(e2++post) by simp,Rd.bind,a];simp only[List.append_assoc,List.length_append]at b ⊢;rw[b];congr 3;omega
theorem Enc.ret{α:Type}(v:α):Enc (Rd.ret v) [] v:=fun pre post=>by simp[Rd.ret]
theorem Cuts.bind{α β:Type}{r:Rd α}{f:α→Rd β}(h1:Cuts r)(h2:∀v,Cuts (f v)):Cuts (r.bind f):=by
 intro s a v b k h hk;unfold Rd.bind at h ⊢;cases hr:r s a with
 |none=>rw[hr]at h;cases h
 |some p=>
  obtain⟨v1,b1⟩:=p;rw[hr]at h
  dsimp only at h
  obtain⟨g1,g2,g3⟩:=h1 s a v1 b1 k hr hk;by_cases hb:b1≤k
  ·obtain⟨j1,j2,j3⟩:=h2 v1 s b1 v b k h hb;rw[g2 hb];exact⟨by omega,j2,j3⟩
  ·obtain⟨j1,_,_⟩:=h2 v1 s b1 v b b1.toNat h (by omega);rw[g3 (by omega)];exact⟨by omega,fun h=>by omega,fun _=>rfl⟩
theorem Cuts.ret{α:Type}(v:α):Cuts (Rd.ret v):=by
 intro s a v' b k h hk;simp only[Rd.ret,Option.some.injEq,Prod.mk.injEq]at h ⊢;obtain⟨rfl,rfl⟩:=h;exact⟨by omega,fun _=>⟨rfl,rfl⟩,fun h=>by omega⟩
theorem Enc.cut{α:Type}{r:Rd α}{e:List UInt8}{v:α}(h:Enc r e v)(hc:Cuts r)(k:Nat)(hk:k<e.length):r (e.take k) 0=none:=by
 have a:=h [] [];simp at a;exact(hc e 0 v _ k a (by omega)).2.2 (by omega)
/-! Numbers. -/
def cont:List UInt8→List UInt8
 |[]=>[]
 |[g]=>[g]
 |g::r=>(g+128)::cont r
theorem cont_snoc(l:List UInt8)(g:UInt8):cont (l++[g])=l.map (·+128)++[g]:=by
 induction l with
 |nil=>rfl
 |cons a r ih=>
  cases r with
  |nil=>rfl
  |cons b q=>simp only[List.cons_append,cont,List.map_cons]at ih ⊢;rw[ih]
theorem pack_cont(l:List UInt8):pack l=cont l:=by
 rcases List.eq_nil_or_concat l with rfl|⟨q,g,rfl⟩
 ·rfl
 ·rw[List.concat_eq_append,cont_snoc];have:∀(n:Nat) (q:List UInt8) (g:UInt8),q.length=n→pack (q++[g])=q.map (·+128)++[g]:=by
   intro n
   induction n with
   |zero=>intro q g hq;obtain rfl:=List.eq_nil_of_length_eq_zero hq;rfl
   |succ n ih=>
    intro q g hq;rcases List.eq_nil_or_concat q with rfl|⟨p,a,rfl⟩
    ·simp at hq
    ·rw[List.concat_eq_append]at hq ⊢;rw[pack_snoc,ih p a (by simp at hq;omega),bump_snoc];simp
  exact this q.length q g rfl
theorem rdGo_last{k:Nat}{b:UInt8}(st:Nat×Nat)(r:List UInt8)(hk:k≠0)(h0:b.toNat≠0)(h9:k=9→b.toNat≤1)(hb:b.toNat<128):rdGo k st (b::r)=.ok (st.1+b.toNat*2 ^ (7*k-1),st.2,k+1):=by
 rw[rdGo,if_neg (by rintro⟨_,h|⟨h,h'⟩⟩<;>omega)];simp only[hk,if_false,hb,if_true,Nat.mod_eq_of_lt hb]
theorem rdGo_more{k:Nat}{b:UInt8}(st:Nat×Nat)(r:List UInt8)(hk:k≠0)(h9:k≠9)(hb:128≤b.toNat):rdGo k st (b::r)=rdGo (k+1) (st.1+b.toNat%128*2 ^ (7*k-1),st.2) r:=by
 rw[rdGo,if_neg (by rintro⟨_,h|⟨h,h'⟩⟩<;>omega)];have:¬b.toNat<128:=by omega
 simp only[hk,if_false,this]
theorem rdGo_last0{b:UInt8}(st:Nat×Nat)(r:List UInt8)(hb:b.toNat<128):rdGo 0 st (b::r)=.ok (b.toNat / 2,b.toNat%2,1):=by
 rw[rdGo,if_neg (by simp)];simp only[if_true,hb,Nat.mod_eq_of_lt hb]
theorem rdGo_more0{b:UInt8}(st:Nat×Nat)(r:List UInt8)(hb:128≤b.toNat):rdGo 0 st (b::r)=rdGo 1 (b.toNat%128 / 2,b.toNat%128%2) r:=by
 rw[rdGo,if_neg (by simp)];have:¬b.toNat<128:=by omega
 simp only[if_true,this,if_false]
theorem rdGo_tail:∀(f k:Nat) (st:Nat×Nat) (m:Nat) (rest:List UInt8),m≠0→1≤k→k+f=10→m<2 ^ (64-7*k)→
    rdGo k st (cont (tailN f m)++rest)=.ok (st.1+m*2 ^ (7*k-1),st.2,k+(tailN f m).length):=by
  intro f
  induction f with
  | zero => intro k st m rest hm h1 h2 h3; obtain rfl : k = 10 := by omega
            simp at h3;omega
  |succ f ih=>
    intro k st m rest hm h1 h2 h3
    have hb:(UInt8.ofNat (m%128)).toNat=m%128:=by rw[UInt8.toNat_ofNat'];omega
    rw[tailN,if_neg hm]
    by_cases hd:m / 128=0
    · rw[hd,tailN_zero]
      simp only[cont,List.cons_append,List.nil_append]
      have hm':m%128=m:=by omega
      rw[rdGo_last st rest (by omega) (by rw[hb];omega) (by rintro rfl;rw[hb];simp at h3;omega) (by rw[hb];omega),hb,hm']
      simp
    · have hk9:k≠9:=by rintro rfl;simp at h3;omega
      obtain⟨x,r,hx⟩:∃x r,tailN f (m / 128)=x::r:=by
        obtain⟨f',rfl⟩:∃f',f=f'+1:=⟨f-1,by omega⟩
        rw[tailN,if_neg hd];exact⟨_,_,rfl⟩
      have hcn:cont (UInt8.ofNat (m%128)::tailN f (m / 128))=(UInt8.ofNat (m%128)+128)::cont (tailN f (m / 128)):=by rw[hx];rfl
      rw[hcn,List.cons_append]
      have hbb:(UInt8.ofNat (m%128)+128).toNat=m%128+128:=by
        rw[UInt8.toNat_add,hb];show(m%128+128)%256=_;omega
      rw[rdGo_more st _ (by omega) hk9 (by rw[hbb];omega),hbb]
      have hp:(2:Nat) ^ (64-7*k)=2 ^ (64-7*(k+1))*128:=by
        rw[show 64-7*k=(64-7*(k+1))+7 by omega,Nat.pow_add]
      rw[ih (k+1) _ (m / 128) rest hd (by omega) (by omega) (by rw[hp]at h3;omega)]
      have hq:(2:Nat) ^ (7*(k+1) - 1)=128*2 ^ (7*k-1):=by
        rw[show 7*(k+1) - 1=7+(7*k-1) by omega,Nat.pow_add]
      simp only[List.length_cons]
      congr 2
      · rw[hq,show(m%128+128)%128=m%128 by omega]
        generalize 2 ^ (7*k-1)=Q
        have:m*Q=(m%128)*Q+(m / 128)*(128*Q):=by
          conv=>lhs;rw[show m=m%128+128*(m / 128) by omega]
          rw[Nat.add_mul,Nat.mul_comm 128 (m / 128),Nat.mul_assoc]
        omega
      · congr 1;omega
theorem rd_num(x:Int)(h0: -9223372036854775808≤x)(h1:x≤9223372036854775807)(pre post:List UInt8):rd (pre++num x++post) pre.length=.ok (x,(num x).length):=by
 have hm:=mag_lt x h0 h1;have hpos:=num_pos x;unfold rd;rw[if_pos (by simp;omega)];have hd:List.drop (pre.length:Int).toNat (pre++num x++post)=num x++post:=by
  rw[show(pre.length:Int).toNat=pre.length by omega,List.append_assoc,List.drop_left]
 have hnl:(num x).length=1+(tailN 9 (mag x / 64)).length:=by rw[num,z148];simp[groups];omega
 rw[hd,hnl,num,pack_cont,groups];have hs:sgn x≤1:=by unfold sgn;split<;>omega
 have hb:(UInt8.ofNat (mag x%64*2+sgn x)).toNat=mag x%64*2+sgn x:=by rw[UInt8.toNat_ofNat'];omega
 have key:rdGo 0 (0,0) (cont (UInt8.ofNat (mag x%64*2+sgn x)::tailN 9 (mag x / 64))++post)=.ok (mag x,sgn x,1+(tailN 9 (mag x / 64)).length):=by
  by_cases hz:mag x / 64=0
  ·rw[hz,tailN_zero];simp only[cont,List.cons_append,List.nil_append];rw[rdGo_last0 _ _ (by rw[hb];omega),hb];congr 2
   ·omega
   ·congr 1;omega
  ·obtain⟨y,r,hx⟩:∃y r,tailN 9 (mag x / 64)=y::r:=by
    rw[show(9:Nat)=8+1 from rfl,tailN,if_neg hz];exact⟨_,_,rfl⟩
   have hcn:cont (UInt8.ofNat (mag x%64*2+sgn x)::tailN 9 (mag x / 64))=(UInt8.ofNat (mag x%64*2+sgn x)+128)::cont (tailN 9 (mag x / 64)):=by rw[hx];rfl
   have hbb:(UInt8.ofNat (mag x%64*2+sgn x)+128).toNat=mag x%64*2+sgn x+128:=by
    rw[UInt8.toNat_add,hb];show(_+128)%256=_;omega
   rw[hcn,List.cons_append,rdGo_more0 _ _ (by rw[hbb];omega),hbb];rw[rdGo_tail 9 1 _ _ post hz (by omega) (by omega) (by show mag x / 64<144115188075855872;omega)];congr 2
   ·show(mag x%64*2+sgn x+128)%128 / 2+mag x / 64*64=mag x;omega
   ·congr 1;show(mag x%64*2+sgn x+128)%128%2=sgn x;omega
 rw[key]
 dsimp only
 congr 2
 ·unfold sgn mag;split<;>simp<;>omega
theorem enc_num(x:Int)(h0: -9223372036854775808≤x)(h1:x≤9223372036854775807):Enc z31 (num x) x:=by
 intro pre post;rw[z31,rd_num x h0 h1];simp
theorem enc_text(t:List UInt8)(ht:t.length≤10000):Enc z25 (text t) t:=by
 intro pre post;have h:=rd_num t.length (by omega) (by omega) pre (t++post);rw[show pre++text t++post=pre++num t.length++(t++post) by simp[text],z25,rdW,h]
 dsimp only
 rw[if_neg (by omega),if_neg (by simp;omega)]
 dsimp only
 rw[show((pre.length:Int)+((num t.length).length:Nat)).toNat=(pre++num t.length).length by simp;omega,List.drop_left,show((t.length:Int)).toNat=t.length by omega,List.take_left];simp[text];omega
theorem rdGo_take:∀(l:List UInt8) (k:Nat) (st:Nat×Nat) (m sg z j:Nat),rdGo k st l=.ok (m,sg,z)→k<z∧(z≤k+j→rdGo k st (l.take j)=.ok (m,sg,z))∧(k+j<z→rdGo k st (l.take j)=.error false):=by
 intro l
 induction l with
 |nil=>intro k st m sg z j h;cases h
 |cons b r ih=>
  intro k st m sg z j h;rw[rdGo]at h;split at h
  ·cases h
  ·rename_i hc
   dsimp only at h
   split at h
   ·rename_i hb;injection h with h
    simp only[Prod.mk.injEq]at h;obtain⟨h1,h2,h3⟩:=h;refine⟨by omega,fun hz=> ?_,fun hz=> ?_⟩
    ·obtain⟨j',rfl⟩:∃j',j=j'+1:=⟨j-1,by omega⟩
     rw[List.take_succ_cons,rdGo,if_neg hc]
     dsimp only
     rw[if_pos hb,h1,h2,h3]
    ·obtain rfl:j=0:=by omega
     rfl
   ·rename_i hb;cases j with
    |zero=>
     obtain⟨h1,_,_⟩:=ih _ _ _ _ _ 0 h;exact⟨by omega,fun hz=>by omega,fun _=>rfl⟩
    |succ j'=>
     obtain⟨h1,h2,h3⟩:=ih _ _ _ _ _ j' h;refine⟨by omega,fun hz=> ?_,fun hz=> ?_⟩;all_goals
      rw[List.take_succ_cons,rdGo,if_neg hc]
      dsimp only
      rw[if_neg hb]
     ·exact h2 (by omega)
     ·exact h3 (by omega)
theorem rd_take{s:List UInt8}{a n:Int}{z:Nat}(h:rd s a=.ok (n,z))(k:Nat)(hk:a≤k):0≤a∧(a+z≤k→rd (s.take k) a=.ok (n,z))∧(k<a+z→rd (s.take k) a=.error false):=by
 have hbd:=rd_bound h;unfold rd at h;split at h
 ·rename_i hin;cases hr:rdGo 0 (0,0) (s.drop a.toNat)with
  |error e=>rw[hr]at h;cases h
  |ok p=>
   obtain⟨m,sg,z'⟩:=p;rw[hr]at h
   dsimp only at h
   injection h with h
   simp only[Prod.mk.injEq]at h;obtain⟨h1,rfl⟩:=h;obtain⟨g1,g2,g3⟩:=rdGo_take _ _ _ _ _ _ (k-a.toNat) hr;have hd:(s.take k).drop a.toNat=(s.drop a.toNat).take (k-a.toNat):=List.drop_take;refine⟨hin.1,fun hz=> ?_,fun hz=> ?_⟩
   ·unfold rd;rw[if_pos (by simp;omega),hd,g2 (by omega)]
    dsimp only
    rw[h1]
   ·unfold rd;split
    ·rw[hd,g3 (by omega)]
    ·rfl
 ·cases h
theorem cuts_num:Cuts z31:=by
 intro s a v b k h hk;unfold z31 at h ⊢;cases hr:rd s a with
 |error e=>rw[hr]at h;cases h
 |ok p=>
  obtain⟨n,z⟩:=p;rw[hr]at h;simp only[Option.some.injEq,Prod.mk.injEq]at h;obtain⟨rfl,rfl⟩:=h;obtain⟨_,g1,g2⟩:=rd_take hr k hk;exact⟨by omega,fun h=>by rw[g1 h],fun h=>by rw[g2 h]⟩
theorem z155:Cuts z25:=by
 intro s a v b k h hk;unfold z25 rdW at h ⊢;cases hr:rd s a with
 |error e=>rw[hr]at h;cases h
 |ok p=>
  obtain⟨n,z⟩:=p;rw[hr]at h
  dsimp only at h
  obtain⟨g0,g1,g2⟩:=rd_take hr k hk;by_cases hn:n<0∨10000<n
  ·rw[if_pos hn]at h;cases h
  rw[if_neg hn]at h;by_cases hl:(s.length:Int) - (a+z)<n
  ·rw[if_pos hl]at h;cases h
  rw[if_neg hl]at h;simp only[Option.some.injEq,Prod.mk.injEq]at h;obtain⟨rfl,rfl⟩:=h;have hbd:=rd_bound hr;refine⟨by omega,fun hb=> ?_,fun hb=> ?_⟩
  ·rw[g1 (by omega)]
   dsimp only
   rw[if_neg hn,if_neg (by simp;omega)]
   dsimp only
   rw[List.drop_take,List.take_take,show min n.toNat (k-(a+ ↑z).toNat)=n.toNat by omega]
  ·by_cases hz:a+z≤k
   ·rw[g1 hz]
    dsimp only
    rw[if_neg hn,if_pos (by simp;omega)]
   ·rw[g2 (by omega)]
end Go.Mor
end
