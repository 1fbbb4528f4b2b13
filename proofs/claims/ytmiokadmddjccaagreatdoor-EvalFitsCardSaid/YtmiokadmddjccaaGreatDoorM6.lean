/- Merged texts: WrapB Open0 OpenN RawD OpenR WrapE Px6 Pe5 Pe7 PFits Zg11 Ze25 Ze29 Zh1 Zh5 Pv1 Pe10 Zi1 Ze30 Zh2 Zh3 Sn1 Sy5 Pt0 Cd2 Zt1 Ze27 Ze28 Zh4 Zh7 Zh6 Zg12 Ze31 Zi2. No statement of the program is proved here. -/
import Derived.Test.YtmiokadmddjccaaGreatDoorM1
import Derived.Test.YtmiokadmddjccaaGreatDoorM2
import Derived.Test.YtmiokadmddjccaaGreatDoorM3
import Derived.Test.YtmiokadmddjccaaGreatDoorM4
import Derived.Test.YtmiokadmddjccaaGreatDoorM5
import Derived.Test.YtmiokadmddjccaaGreatDoorCards
import Derived.Test.YtmiokadmddjccaaGreatDoorTie
import Derived.Lib.LaidIn
import Derived.Lib.LaidU8T
import Derived.Deep.DeepHandedRow
import Derived.Deep.DeepWitnessRowRef
import Derived.ProofKit
import Derived.SizedLaws
import Derived.OpenShut
import Derived.Stop.LaidTwo
import Derived.Deep.Slices
import Derived.Deep.Fields
import Derived.ChangeSame
import Derived.SevenTiedAt
import Derived.PinnedBridge
import Derived.Shelf.Vars
set_option linter.unusedSimpArgs false
set_option linter.unusedVariables false
section
namespace Go.Proofs.YtmiokadmddjccaaGreatDoor
open Go.ChangeShapes Go.WideShapes Go.ChangeAt Go.RowKit Go.Lib Go.Mor Go.Deep
open Go.ChangeMaps (open_string shut_string)
theorem own:ownKnob Tryz.prog.godebug=none:=by kernel_rfl
theorem acc_eq:Rows.laid_unicode_utf8_acceptRanges=Lib.acceptData:=by kernel_rfl
theorem hv_of{W:World}(h:W.ShapedOpen Tryz.prog):10≤W.heap.size:=by
 obtain⟨o,o0,h1,_⟩:=h.2 10 (of_decide_eq_true (by kernel_rfl)) (of_decide_eq_true (by kernel_rfl));exact Nat.le_of_lt (gA h1).1
theorem globU_of{W:World}{L:List (String×DataW Unit)}(hL:laidMet Tryz.prog L W)(h1:("unicode/utf8.first",Rows.laid_unicode_utf8_first)∈L)(h2:("unicode/utf8.acceptRanges",Rows.laid_unicode_utf8_acceptRanges)∈L):GlobU W:=
 ⟨utf8Tabs_of_readsT (U8Types.of196 Tryz.laysValid) ⟨by kernel_rfl,by kernel_rfl,by kernel_rfl,by kernel_rfl,by kernel_rfl,by kernel_rfl,by kernel_rfl⟩ (by rw[←Pinned.utf8First_eq];exact Lib.laidMet.reads hL h1) (by rw[←acc_eq];exact Lib.laidMet.reads hL h2)⟩
def litsOf:DataW Unit→List Value
 | .agg l=>l.map fun x=>match x with| .lit y=>y.value|_=>undef
 |_=>[]
def textOf:DataW Unit→List UInt8
 | .iface _ (.ptr (.agg [.lit (.string l)]))=>l
 |_=>[]
noncomputable def z66(os:Os):World:=
 let N:=(World.settled Tryz.prog os).heap.size
 let w0:=World.holding Tryz.prog os ⟨#[.cells #[.string ⟨(textOf Rows.laid_moraine_wire_errEnd).toArray⟩] 311,.cells #[.string ⟨(textOf Rows.laid_moraine_wire_errForm).toArray⟩] 311,.cells #[.string ⟨(textOf Rows.laid_strconv_ErrRange).toArray⟩] 311,.cells #[.string ⟨(textOf Rows.laid_strconv_ErrSyntax).toArray⟩] 311],#[],[]⟩
 let put (h:Array Obj) (g:Nat) (cs:Array Value):Array Obj:=h.modify g fun
  | .cells _ t frozen=> .cells cs t frozen
  |o=>o
 let h:=w0.heap
 let h:=put h 8 (litsOf Rows.laid_math_bits_deBruijn32tab).toArray
 let h:=put h 9 (litsOf Rows.laid_math_bits_deBruijn64tab).toArray
 let h:=put h 5 (litsOf Rows.laid_internal_strconv_uint64pow10).toArray
 let h:=put h 1 ((List.range 16).flatMap fun i=>[Value.int .u8 (Lib.accLo i),Value.int .u8 (Lib.accHi i)]).toArray
 let h:=put h 0 (Lib.firstTab.map fun z=>Value.int .u8 z).toArray
 let h:=put h 3 #[.iface 309 (.pointer (some ⟨N,0,none⟩))]
 let h:=put h 2 #[.iface 309 (.pointer (some ⟨N+1,0,none⟩))]
 let h:=put h 7 #[.iface 309 (.pointer (some ⟨N+2,0,none⟩))]
 let h:=put h 6 #[.iface 309 (.pointer (some ⟨N+3,0,none⟩))]
 { w0 with heap:=h }
noncomputable abbrev N0:Nat:=(World.settled Tryz.prog default).heap.size
theorem laidOut:laidOutB Tryz.prog=true:=by kernel_rfl
section
variable{H:Type}{enc:TypeId×Value→H}
theorem trodAll_stays{W W':World}(hb:Below W.heap.size W W'){sp:Nat→Bool}:∀{ts:List TypeId} {vs:List Value} {ds:List (DataW H)} {ps:List MemPlace},
  (ts.all fun t=>Tryz.prog.readableRec t&&decide (t<Tryz.prog.types.size))=true→DataW.TrodAll enc Tryz.prog W 0 (fun _=>true) true ts vs ds ps→(∀x∈ps,x.block<W.heap.size)→(∀x∈ps,sp x.block=true)→
  DataW.TrodAll enc Tryz.prog W' 0 sp true ts vs ds ps:=by
 intro ts
 induction ts with
 |nil=>
  intro vs ds ps _ h _ _;obtain⟨rfl,rfl,rfl⟩:=trodAll_nil h;exact trodAll_mk0
 |cons t ts ih=>
  intro vs ds ps hr h hlt hsp;obtain⟨v,vs',d,ds',p,q,rfl,rfl,rfl,h1,h2⟩:=trodAll_cons h;simp only[List.all_cons,Bool.and_eq_true,decide_eq_true_iff]at hr;refine trodAll_cons_mk (WideElems.Trod_stays laidOut hr.1.1 hr.1.2 h1 (fun x hx=>hb.same (hlt x (by simp[hx]))) (fun x hx=>hsp x (by simp[hx]))) (ih hr.2 h2 (fun x hx=>hlt x (by simp[hx])) (fun x hx=>hsp x (by simp[hx])))
theorem post_of_below{P:Program}{f:Func}{s:ChangeSpec}{apart fresh handsOn again:Bool}{W W':World}{args:Array Value}{v:Value}{ds gs:List (DataW H)}{before pa pv:List MemPlace}
  (hW:DataW.Whole enc P f.params.toList s.vars apart W args.toList ds gs before)
  (hres:∀(b:Nat) (sp:Nat→Bool) (hd:Bool),DataW.TrodAll enc P W' b sp hd f.resultTypes.toList (v.resultList f.resultTypes.size) (s.fn H (ds++gs)).results [])
  (hargs:∀sp:Nat→Bool,(∀p∈before,sp p.block=true)→DataW.TrodAll enc P W' 0 sp true f.params.toList args.toList (s.fn H (ds++gs)).args pa)
  (hvars:∀sp:Nat→Bool,(∀p∈before,sp p.block=true)→DataW.TrodVars enc P W' sp s.vars (s.fn H (ds++gs)).vars pv)
  (hps:before=pa++pv) (hb:Below W.heap.size W W')
  (hok:∀(j:Nat) (t:TypeId) (r:Value),f.resultTypes[j]?=some t→(v.resultList f.resultTypes.size)[j]?=some r→Value.okWide P W' .any 0 t r):
  s.post enc P f apart fresh handsOn again W args v W':=by
 have hlt:∀p∈before,p.block<W.heap.size:=fun p hp=>hW.lt p hp;have hold:∀p∈before,(fun b=>decide (b<W.heap.size)) p.block=true:=fun p hp=>by simpa using hlt p hp
 refine⟨ds,gs,before,[],pa,pv,hW,hres _ _ _,hargs _ hold,hvars _ hold,World.keptBut_mono (fun p hp=>⟨hp,?_⟩) (hb.frame (·∈before)),fun _=> ?_⟩
 ·rw[hps,List.mem_append]at hp;exact Or.inr hp
 ·obtain⟨_,_,_,_,_,hz,hn⟩:=hW;refine⟨hok,_,_,([]++pa)++pv,⟨[]++pa,pv,trodAll_append (hargs _ (fun _ _=>rfl)) (hres _ _ _),hvars _ (fun _ _=>rfl),rfl,?_,?_⟩,?_⟩
  ·intro b off hp;have hin:MemPlace.cell b off∈before:=by rw[hps];simpa using hp
   rw[hb.frozen (hlt _ hin)];exact hz b off hin
  ·intro ha;have:=hn ha;rw[hps]at this;simpa using this
  ·intro p hp _;rw[hps];simpa using hp

set_option maxRecDepth 100000 in
theorem lifts(f:FuncId)(fn:Func)(sp:ChangeSpec){W W':World}{args:Array Value}{ds gs:List (DataW H)}{before:List MemPlace}{fresh handsOn again:Bool}
  (hv:sp.vars=[]) (hr:(fn.params.toList.all fun t=>Tryz.prog.readableRec t&&decide (t<Tryz.prog.types.size))=true) (hres:fn.resultTypes= #[4])
  (hfn:sp.fn H (ds++[])={ results:=[.lit (.bool true)],args:=ds })
  (hW:DataW.Whole enc Tryz.prog fn.params.toList sp.vars false W args.toList ds gs before) (hb:Below W.heap.size W W'):
  sp.post enc Tryz.prog fn false fresh handsOn again W args (.bool true) W':=by
 have hW':=hW;obtain⟨p,q,hA,hV,rfl,_,_⟩:=hW;rw[hv]at hV;obtain⟨rfl,rfl⟩:=trodVars_none hV;have hlt:∀x∈p,x.block<W.heap.size:=fun x hx=>hW'.lt x (by simp[hx]);refine post_of_below (pa:=p) (pv:=[]) hW' (fun b sp' hd=> ?_) (fun sp' hsp=> ?_) (fun sp' hsp=> ?_) rfl hb ?_
 ·rw[hfn,hres];exact trodAll_mk1 (shut_bool Tryz.underlying4 _)
 ·rw[hfn];exact trodAll_stays hb hr hA hlt (fun x hx=>hsp x (by simp[hx]))
 ·rw[hfn,hv];rfl
 ·exact ok_one hres rfl (okWide_bool_mk Tryz.underlying4 _)
end
end Go.Proofs.YtmiokadmddjccaaGreatDoor
end

section
namespace Go.Proofs.YtmiokadmddjccaaGreatDoor
open Go.ChangeShapes Go.WideShapes Go.ChangeAt Go.RowKit Go.Lib Go.Mor Go.Deep Go.Joins
open Go.Sh (RelT RelV TV PV SCalls Env MSim objB objR objX Low)
open Go.ChangeMaps (open_string shut_string)
def envAll(w:World):Env:=⟨fun k _=>k<w.heap.size,fun _=>0,fun _=>none,fun _=>0⟩
theorem objB_nil(d:Nat):objB [] d=none:=by simp[objB]
theorem objR_nil(d:Nat):objR [] d=none:=by simp[objR]
theorem calls_of_sc{P:Program}{f:Nat}{xs:List TV}{vs:List Value}{w:World}{g:Go.Sh.Glob}{b:Value}(h:SCalls P g f xs [] (.pv (.v b)) [])(hG:g.G w)(hl:xs.length=vs.length)
  (hr:∀(j:Nat) x v,xs[j]?=some x→vs[j]?=some v→RelT w (envAll w) (objR []) x v):Calls P f vs.toArray w fun e w'=>e=.returned b∧Below w.heap.size w w':=by
 have hX:∀d k,¬objX (envAll w) [] d k:=by
  rintro d k (⟨cs,h1,_⟩|⟨q,cap,h1,_⟩)
  ·rw[objB_nil]at h1;cases h1
  ·rw[objR_nil]at h1;cases h1
 refine(h.2 w (envAll w) vs hG ?_ (fun d k hd=>absurd hd (hX d k)) hl hr).mono ?_
 ·refine⟨fun d cs hd=> ?_,fun d e W n hd=> ?_,fun d d' cs cs' hd=> ?_,fun d d' cs q k cap hd=> ?_,fun d d' q q' k cap cap' hd=> ?_,fun k o hk=>hk,⟨rfl,rfl,rfl,Nat.le_refl _,fun _ _ _=>rfl⟩,fun k o u hk hu=>⟨hk,hu⟩,fun k o hk=> .inl hk,?_⟩
  ·rw[objB_nil]at hd;cases hd
  ·rw[objR_nil]at hd;cases hd
  ·rw[objB_nil]at hd;cases hd
  ·rw[objB_nil]at hd;cases hd
  ·rw[objR_nil]at hd;cases hd
  ·have hold:∀d,¬(Go.Sh.start w (envAll w) [] 0).old d:=fun d h=>by have h1:1000≤d∧d<1000+0:=h;omega
   constructor<;>(intros;first|(exfalso;apply hold;assumption)|rfl)
 ·rintro e w' ⟨v,E',rfl,hm,hv,_⟩;obtain rfl:=Go.Sh.val_rel (y:=b) hv rfl;exact⟨rfl,hm.low.os,hm.low.tape,hm.low.output,hm.low.size,fun k hk=>hm.low.block k hk (fun d=>hX d k)⟩
end Go.Proofs.YtmiokadmddjccaaGreatDoor
end

section
namespace Go.Proofs.YtmiokadmddjccaaGreatDoor
open Go.ChangeShapes Go.WideShapes Go.ChangeAt Go.RowKit Go.Lib Go.Mor Go.Deep Go.Joins
open Go.Sh (RelT RelV TV PV SCalls Env MSim objB objR objX Low)
open Go.ChangeMaps (open_string shut_string)
set_option maxRecDepth 100000
section
variable{H:Type}{enc:TypeId×Value→H}
theorem z152{t e:TypeId}{k:IntKind}(ht:Tryz.prog.underlying t=some (.slice e))(he:Tryz.prog.underlying e=some (.int k))(hc:Tryz.prog.cellsOf e=1)
  {W:World} {b0 base:Nat} {spare:Nat→Bool} {held:Bool} {v:Value} {d:DataW H} {p:List MemPlace} (hok:Value.okWide Tryz.prog W .any b0 t v) (h:DataW.Trod enc Tryz.prog W base spare held t v d p):
  ∃l:List Int,(∀x∈l,(Lit.int k x).wf=true)∧l.length≤9223372036854775807∧∀r,RelT W (envAll W) r (.pv (.sl 1 (l.map fun z=>[PV.v (.int k z)]))) v:=by
 obtain⟨a0,len,cap,rfl⟩:=okWide_slice ht hok;obtain⟨fuel,hf⟩:=h;rcases open_ints ht he hc hf with⟨hcs,hx⟩|⟨a,len',cap',zs,hcs,_,hl,hm,hz,hx,hcell,hwz⟩
 ·obtain⟨rfl,rfl,rfl⟩:a0=none∧len=0∧cap=0:=by simpa [Value.cells]using hcs
  exact⟨[],by simp,by simp,fun r=> .pv (.sl 1 [] 0 0 0 none (fun _ _=>undef) (by simp) (by simp) (by simp) (by simp) (by simp) (by simp))⟩
 ·obtain⟨rfl,rfl,rfl⟩:a0=some a∧len=len'∧cap=cap':=by simpa [Value.cells]using hcs
  have hlz:len≤zs.length:=by rw[hz];split<;>omega
  have hlen:(zs.take len).length=len:=by rw[List.length_take];omega
  refine⟨zs.take len,fun x hx=>hwz x (List.mem_of_mem_take hx),by unfold maxLen at hm;omega,fun r=> ?_⟩;have hL:((zs.take len).map fun z=>[PV.v (.int k z)]).length=len:=by rw[List.length_map,hlen]
  rcases Nat.eq_zero_or_pos zs.length with h0|h0
  ·obtain rfl:len=0:=by omega
   have e0:(zs.take 0).map (fun z=>[PV.v (.int k z)])=[]:=by simp
   rw[e0];exact .pv (.sl 1 [] 0 0 cap (some a) (fun _ _=>undef) (by simp) (by simp) hm (by simp) (by simp) (by simp))
  ·obtain⟨b,off,rfl,hcl⟩:=ints_at hcell h0;have cell:∀(i j:Nat) cs q,((zs.take len).map fun z=>[PV.v (.int k z)])[i]?=some cs→cs[j]?=some q→∃u,q=.v u∧W.cell? ⟨b,off+i*1+j,none⟩=some u∧Go.Sh.one u:=by
    intro i j cs q h1 h2;rw[List.getElem?_map,Option.map_eq_some_iff]at h1;obtain⟨z,hz1,rfl⟩:=h1;obtain⟨hi,he⟩:=gJ hz1;have hi':i<zs.length:=by rw[hlen]at hi;omega
    match j with
    |0=>
     simp at h2;subst h2;refine⟨_,rfl,?_,rfl⟩;have:=hcl i hi';rw[List.getElem_take]at he;rw[List.getD_eq_getElem?_getD,gE hi',Option.getD_some,he]at this;simpa using this
    |j+1=>simp at h2
   have key:RelV W (envAll W).K (.sl 1 ((zs.take len).map fun z=>[PV.v (.int k z)])) (.slice (some ⟨b,off,none⟩) ((zs.take len).map fun z=>[PV.v (.int k z)]).length cap):=by
    refine .sl 1 _ b off cap (some ⟨b,off,none⟩) (fun i j=>(W.cell? ⟨b,off+i*1+j,none⟩).getD undef) (fun _=>rfl) (by omega) hm (fun cs hcs=> ?_) (fun i j cs q h1 h2=> ?_) (fun i j cs q h1 h2=> ?_)
    ·obtain⟨r,_,rfl⟩:=List.mem_map.1 hcs;rfl
    ·obtain⟨u,_,hu,ho⟩:=cell i j cs q h1 h2;rw[hu];exact⟨cell_lt (a:=⟨b,off+i*1+j,none⟩) hu,rfl,ho⟩
    ·obtain⟨u,rfl,hu,ho⟩:=cell i j cs q h1 h2;rw[hu];exact .v u
   rw[hL]at key;exact .pv key
theorem open_bytes{W:World}{b0 base:Nat}{spare:Nat→Bool}{held:Bool}{v:Value}{d:DataW H}{p:List MemPlace}(hok:Value.okWide Tryz.prog W .any b0 22 v)(h:DataW.Trod enc Tryz.prog W base spare held 22 v d p):
  ∃l:List UInt8,l.length≤9223372036854775807∧∀r,RelT W (envAll W) r (.pv (.sl 1 (byR l))) v:=by
 obtain⟨l,h1,h2,h3⟩:=z152 Tryz.underlying22 Tryz.underlying5 (by kernel_rfl) hok h;refine⟨l.map fun z=>UInt8.ofNat z.toNat,by simpa using h2,?_⟩;have:byR (l.map fun z=>UInt8.ofNat z.toNat)=l.map fun z=>[PV.v (.int .u8 z)]:=by
  unfold byR;rw[List.map_map];refine List.map_congr_left fun z hz=> ?_;have hb:=bounds_u8 (h1 z hz);have:((UInt8.ofNat z.toNat).toNat:Int)=z:=by rw[UInt8.toNat_ofNat'];omega
  simp only[Function.comp_def,this]
 rw[this];exact h3
end
end Go.Proofs.YtmiokadmddjccaaGreatDoor
end

section
namespace Go.Proofs.YtmiokadmddjccaaGreatDoor
open Go Go.RowKit Go.Mor Go.Sh
def rfR1(r:RawF):List PV:=[.v (.int .i64 r.n),.v (.int .i64 r.k),.v (.int .i64 r.o),.v (.bool r.ix)]
def rfR(l:List RawF):List (List PV):=l.map rfR1
def rawT(x:Raw):TV:=.agg [.pv (.v (.int .i64 x.n)),.pv (.sl 4 (rfR x.fs))]
structure RawOk(x:Raw):Prop where
 n:I64 x.n
 fs:∀r∈x.fs,I64 r.n∧I64 r.k∧I64 r.o
 len:x.fs.length≤9223372036854775807
theorem rfGet(l:List RawF)(k:Nat):(rfR l)[k]?=(l[k]?).map rfR1:=by unfold rfR;rw[List.getElem?_map]
theorem rfLen(l:List RawF):(rfR l).length=l.length:=by unfold rfR;rw[List.length_map]
theorem class_step(l:List RawF)(i:Nat)(r:RawF)(h:l[i]?=some r):(l.take (i+1)).foldl addF []=addF ((l.take i).foldl addF []) r:=by
 rw[List.take_add_one,h];simp only[Option.toList_some,List.foldl_append,List.foldl_cons,List.foldl_nil]
theorem class_len(l:List RawF)(i:Nat):((l.take i).foldl addF []).length≤i:=by
 induction i with
 |zero=>simp
 |succ i ih=>
  cases h:l[i]? with
  |none=>
   have h1:l.take (i+1)=l.take i:=by rw[List.take_add_one,h];simp
   rw[h1];omega
  |some r=>
   rw[class_step l i r h];generalize(l.take i).foldl addF []=acc at ih ⊢;unfold addF;split
   ·rw[List.length_append,List.length_singleton];omega
   ·omega
theorem nmF_at{i:Nat}(h:i<6):([[PV.v (.string ⟨#[97]⟩)],[.v (.string ⟨#[98,50]⟩)],[.v (.string ⟨#[110,97,109,101]⟩)],[.v (.string ⟨#[110,101,120,116,95,111,110,101]⟩)],[.v (.string ⟨#[107,105,100,115]⟩)],[.v (.string ⟨#[120]⟩)]]:List (List PV))[i]?=some [.v (.string (str (nmF (i:Int))))]:=by
 have:i=0∨i=1∨i=2∨i=3∨i=4∨i=5:=by omega
 rcases this with rfl|rfl|rfl|rfl|rfl|rfl<;>rfl
theorem nmC_at{i:Nat}(h:i<6):([[PV.v (.string ⟨#[110,111,100,101]⟩)],[.v (.string ⟨#[105,116,101,109]⟩)],[.v (.string ⟨#[117,115,101,114]⟩)],[.v (.string ⟨#[112,97,103,101,95,49]⟩)],[.v (.string ⟨#[108,101,97,102]⟩)],[.v (.string ⟨#[113]⟩)]]:List (List PV))[i]?=some [.v (.string (str (nmC (i:Int))))]:=by
 have:i=0∨i=1∨i=2∨i=3∨i=4∨i=5:=by omega
 rcases this with rfl|rfl|rfl|rfl|rfl|rfl<;>rfl
end Go.Proofs.YtmiokadmddjccaaGreatDoor
end

section
namespace Go.Proofs.YtmiokadmddjccaaGreatDoor.OpR
open Go.ChangeShapes Go.WideShapes Go.ChangeAt Go.RowKit Go.Lib Go.Mor Go.Deep Go.Joins
open Go.ChangeMaps (open_string shut_string)
theorem list_of{α:Type}{n:Nat}{Q:Nat→α→Prop}(h:∀i,i<n→∃r,Q i r):∃l:List α,l.length=n∧∀(i:Nat) r,l[i]?=some r→Q i r:=by
 induction n with
 |zero=>exact⟨[],rfl,by simp⟩
 |succ n ih=>
  obtain⟨l,hl,hq⟩:=ih fun i hi=>h i (by omega);obtain⟨r,hr⟩:=h n (by omega);refine⟨l++[r],by simp[hl],fun i x hx=> ?_⟩;rw[List.getElem?_append]at hx;split at hx
  ·exact hq i x hx
  ·rw[List.getElem?_singleton]at hx;split at hx
   ·injection hx with hx;subst hx
    obtain rfl:i=n:=by omega
    exact hr
   ·cases hx
section
variable{H:Type}{enc:TypeId×Value→H}{P:Program}{w:World}{base:Nat}{spare:Nat→Bool}{held:Bool}
theorem open_fields{t e:TypeId}{fs:Array Field}{fuel:Nat}{cs:List Value}{x:DataW H×List MemPlace}(ht:P.underlying t=some (.slice e))(he:P.underlying e=some (.struct fs))
  (hone:oneCellFields P fs=true) (hC:P.cellsOf e=fs.size) (h:DataW.trod enc P w base spare held fuel t cs=some x):
  (cs=[.slice none 0 0])∨
  ∃(a:Addr) (len cap:Nat),cs=[.slice (some a) len cap]∧len≤cap∧cap≤maxLen∧
   ∀i,i<len→∃n,∀(j:Nat) (f:Field),fs[j]?=some f→∃(v:Value) (y:DataW H×List MemPlace),w.cell? (a.add (i*fs.size+j))=some v∧DataW.trod enc P w base spare held n f.type [v]=some y:=by
 rcases open_slice ht h with h0|⟨a,len,cap,m,n,D,Pl,hcs,hb,hl,hm,hmm,hx,hi⟩
 ·exact .inl h0.1
 ·refine .inr ⟨a,len,cap,hcs,hl,hm,fun i him=> ?_⟩;obtain⟨cs',hc,ht'⟩:=hi i (by rw[hmm];split<;>omega);rw[hC]at hc;obtain⟨ys,n',hn',hy,hlen,hyl,hf⟩:=DataW.trod_struct he ht';obtain⟨_,hcl,hat⟩:=World.cells?_some hc;refine⟨n',fun j f hj=> ?_⟩;obtain⟨ho,hk⟩:=hone_of hone j f hj;have hjl:j<fs.size:=(gA hj).1;have hcell:=hat j hjl;have hv:cs'[j]?=some (cs'[j]'(by omega)):=gE (by omega);have h1:=hf j f hj;rw[ho,hk]at h1;have hone':(cs'.drop j).take 1=[cs'[j]'(by omega)]:=by
   rw[List.drop_eq_getElem_cons (by omega)];rfl
  rw[hone']at h1;have hys:ys[j]?=some (ys[j]'(by omega)):=gE (by omega);refine⟨_,_,?_,h1.trans hys⟩;rw[←Go.Deep.add_add,hcell,hv]
end
theorem add_form{a:Addr}{w:World}{k:Nat}{v:Value}(h0:w.cell? a=some v):a=⟨a.block,a.off,none⟩∧a.add k=⟨a.block,a.off+k,none⟩:=by
 have:=World.cell?_spot h0;obtain⟨b,off,spot⟩:=a;simp at this;subst this;exact⟨rfl,Go.WideShapes.add_plain ..⟩
end Go.Proofs.YtmiokadmddjccaaGreatDoor.OpR
namespace Go.Proofs.YtmiokadmddjccaaGreatDoor
open Go.ChangeShapes Go.WideShapes Go.ChangeAt Go.RowKit Go.Lib Go.Mor Go.Deep Go.Joins
open Go.Sh (RelT RelV TV PV SCalls Env MSim objB objR objX Low)
open Go.ChangeMaps (open_string shut_string)
open Go.Proofs.YtmiokadmddjccaaGreatDoor.OpR
section
variable{H:Type}{enc:TypeId×Value→H}
theorem open_rfs{W:World}{base:Nat}{spare:Nat→Bool}{held:Bool}{fuel:Nat}{c:Value}{y:DataW H×List MemPlace}(h:DataW.trod enc Tryz.prog W base spare held fuel 37 [c]=some y):
  ∃l:List RawF,(∀r∈l,I64 r.n∧I64 r.k∧I64 r.o)∧l.length≤9223372036854775807∧RelV W (envAll W).K (.sl 4 (rfR l)) c:=by
 rcases open_fields Tryz.underlying37 Tryz.underlying127 (by kernel_rfl) (by kernel_rfl) h with h0|⟨a,len,cap,hcs,hl,hm,hi⟩
 ·obtain rfl:c=.slice none 0 0:=by simpa using h0
  exact⟨[],by simp,by simp,.sl 4 [] 0 0 0 none (fun _ _=>undef) (by simp) (by simp) (by simp) (by simp) (by simp) (by simp)⟩
 ·obtain rfl:c=.slice (some a) len cap:=by simpa using hcs
  have key:∀i,i<len→∃r:RawF,(I64 r.n∧I64 r.k∧I64 r.o)∧a=⟨a.block,a.off,none⟩∧W.cell? ⟨a.block,a.off+i*4,none⟩=some (.int .i64 r.n)∧W.cell? ⟨a.block,a.off+i*4+1,none⟩=some (.int .i64 r.k)
    ∧W.cell? ⟨a.block,a.off+i*4+2,none⟩=some (.int .i64 r.o)∧W.cell? ⟨a.block,a.off+i*4+3,none⟩=some (.bool r.ix):=by
   intro i hlt;obtain⟨n0,hf0⟩:=hi 0 (by omega);obtain⟨v,y,hc0,_⟩:=hf0 0 _ rfl;have ha:a=⟨a.block,a.off,none⟩:=(add_form (k:=0) (by simpa [Addr.add]using hc0)).1;have hadd:∀k,a.add k=⟨a.block,a.off+k,none⟩:=fun k=>(add_form (k:=k) (by simpa [Addr.add]using hc0)).2;obtain⟨n,hf⟩:=hi i hlt;obtain⟨v0,y0,c0,t0⟩:=hf 0 _ rfl;obtain⟨v1,y1,c1,t1⟩:=hf 1 _ rfl;obtain⟨v2,y2,c2,t2⟩:=hf 2 _ rfl;obtain⟨v3,y3,c3,t3⟩:=hf 3 _ rfl;obtain⟨z0,e0,_,w0⟩:=DataW.trod_int Tryz.underlying3 t0;obtain⟨z1,e1,_,w1⟩:=DataW.trod_int Tryz.underlying3 t1;obtain⟨z2,e2,_,w2⟩:=DataW.trod_int Tryz.underlying3 t2;obtain⟨z3,e3,_⟩:=DataW.trod_bool Tryz.underlying4 t3;simp at e0 e1 e2 e3;subst e0 e1 e2 e3;rw[hadd]at c0 c1 c2 c3;exact⟨⟨z0,z1,z2,z3⟩,⟨bounds_i64 w0,bounds_i64 w1,bounds_i64 w2⟩,ha,c0,c1,c2,c3⟩
  obtain⟨l,hlen,hq⟩:=list_of key;refine⟨l,fun r hr=> ?_,by unfold maxLen at hm;omega,?_⟩
  ·obtain⟨i,hi⟩:=List.getElem?_of_mem hr;exact(hq i r hi).1
  ·have hL:(rfR l).length=len:=by rw[rfLen,hlen]
   rw[←hL];have cell:∀(i j:Nat) cs q,(rfR l)[i]?=some cs→cs[j]?=some q→∃u,q=.v u∧W.cell? ⟨a.block,a.off+i*4+j,none⟩=some u∧Go.Sh.one u:=by
    intro i j cs q h1 h2;rw[rfGet,Option.map_eq_some_iff]at h1;obtain⟨r,hr,rfl⟩:=h1;obtain⟨_,_,c0,c1,c2,c3⟩:=hq i r hr
    match j with
    |0=>simp[rfR1]at h2;subst h2;exact⟨_,rfl,c0,rfl⟩
    |1=>simp[rfR1]at h2;subst h2;exact⟨_,rfl,c1,rfl⟩
    |2=>simp[rfR1]at h2;subst h2;exact⟨_,rfl,c2,rfl⟩
    |3=>simp[rfR1]at h2;subst h2;exact⟨_,rfl,c3,rfl⟩
    |j+4=>simp[rfR1]at h2
   refine .sl 4 (rfR l) a.block a.off cap (some a) (fun i j=>(W.cell? ⟨a.block,a.off+i*4+j,none⟩).getD undef) (fun hne=> ?_) (by omega) hm (fun cs hcs=> ?_) (fun i j cs q h1 h2=> ?_) (fun i j cs q h1 h2=> ?_)
   ·obtain⟨r,hr⟩:∃r,l[0]?=some r:=by
     cases l with
     |nil=>exact absurd rfl hne
     |cons r q=>exact⟨r,rfl⟩
    rw[(hq 0 r hr).2.1]
   ·obtain⟨r,_,rfl⟩:=List.mem_map.1 hcs;rfl
   ·obtain⟨u,_,hu,ho⟩:=cell i j cs q h1 h2;rw[hu];exact⟨cell_lt (a:=⟨a.block,a.off+i*4+j,none⟩) hu,rfl,ho⟩
   ·obtain⟨u,rfl,hu,ho⟩:=cell i j cs q h1 h2;rw[hu];exact .v u
set_option maxRecDepth 100000 in
theorem open_raw4{W:World}{b0 base:Nat}{spare:Nat→Bool}{held:Bool}{v:Value}{d:DataW H}{p:List MemPlace}(hok:Value.okWide Tryz.prog W .any b0 39 v)(h:DataW.Trod enc Tryz.prog W base spare held 39 v d p):
  ∃x:Raw,RawOk x∧∀r,RelT W (envAll W) r (rawT x) v:=by
 obtain⟨c0,c1,y0,y1,m,rfl,_,_,hy0,hy1⟩:=open_agg2 Tryz.underlying39 (by kernel_rfl) (by kernel_rfl) hok h;obtain⟨z0,e0,_,w0⟩:=DataW.trod_int Tryz.underlying3 hy0;obtain rfl:c0=_:=by simpa using e0
 obtain⟨l,hl,hlen,hr⟩:=open_rfs hy1;refine⟨⟨z0,l⟩,⟨bounds_i64 w0,hl,hlen⟩,fun r=> ?_⟩;unfold rawT;refine .agg _ [_,c1] rfl (fun j q u hq hu=> ?_) (fun u hu=> ?_)
 ·match j with
  |0=>simp at hq hu;subst hq;subst hu;exact .pv (.v _)
  |1=>simp at hq hu;subst hq;subst hu;exact .pv hr
  |j+2=>simp at hq
 ·simp at hu;rcases hu with rfl|rfl
  ·rfl
  ·cases hr;rfl
end
end Go.Proofs.YtmiokadmddjccaaGreatDoor
end

section
namespace Go.Proofs.YtmiokadmddjccaaGreatDoor
open Go.ChangeShapes Go.WideShapes Go.ChangeAt Go.RowKit Go.Lib Go.Mor Go.Deep
open Go.ChangeMaps (open_string shut_string)
abbrev laidLUTE:List (String×DataW Unit):=[("math/bits.deBruijn32tab",Rows.laid_math_bits_deBruijn32tab),("math/bits.deBruijn64tab",Rows.laid_math_bits_deBruijn64tab),("internal/strconv.uint64pow10",Rows.laid_internal_strconv_uint64pow10),("unicode/utf8.acceptRanges",Rows.laid_unicode_utf8_acceptRanges),("strconv.ErrRange",Rows.laid_strconv_ErrRange),("strconv.ErrSyntax",Rows.laid_strconv_ErrSyntax),("unicode/utf8.first",Rows.laid_unicode_utf8_first)]
theorem pow_eq:(Rows.laid_internal_strconv_uint64pow10:DataW Unit)=Lib.tabData .u64 Lib.pow10Tab:=by kernel_rfl
theorem mx_of{W:World}(h:W.ShapedOpen Tryz.prog):∃k,W.cell? ⟨4,0,none⟩=some (.int .i64 k):=
 cell_of_shapedOpen_int (zero:= #[.int .i64 0]) (t:=3) h (of_decide_eq_true (by kernel_rfl)) (by kernel_rfl) rfl (by kernel_rfl) (by kernel_rfl) Tryz.underlying3
theorem star: "*" ++ "errors.errorString" = "*errors.errorString" :=by decide
theorem rowErr(u:TypeId)(h:Tryz.prog.typeName? 3 u=some "*errors.errorString"):u=309:=
 typeName_ptr_named (nm:= "errors.errorString") (by rw[star];kernel_rfl) (by kernel_rfl) (by decide) u (by rw[star];exact h)
theorem z137{W:World}(hL:laidMetH Tryz.prog laidLUTE W)(hsh:W.ShapedOpen Tryz.prog):(glE W.heap.size).G W:=by
 have hL':laidMet Tryz.prog laidLUTE W:=hL;have hU:=globU_of hL' (.tail _ (.tail _ (.tail _ (.tail _ (.tail _ (.tail _ (.head _))))))) (.tail _ (.tail _ (.tail _ (.head _))));have hv:=hv_of hsh;have hT:GlobT W:=⟨Lib.tabIs_of_head pow10_named (t:=281) (by kernel_rfl) Tryz.underlying281 Tryz.underlying250 (by kernel_rfl) (by kernel_rfl) (by have h:=hL'.tail.tail;rw[pow_eq]at h;exact h),mx_of hsh⟩
 obtain⟨a0,a1,s0,s1,c0,c1,t0,t1,hv0,hv1,_⟩:=laid_sentinels2 (g0:=7) (g1:=6) (ti:=218) (tp:=309) (te:=311) (ts:=9) hL'.tail.tail.tail.tail (by kernel_rfl) (by kernel_rfl) (by kernel_rfl) (by kernel_rfl)
  Tryz.underlying218 rowErr Tryz.underlying309 Tryz.underlying311 rfl rfl Tryz.underlying9 (by kernel_rfl) (by kernel_rfl)
 have hE:GlobE W:=by
  refine⟨⟨309,.pointer (some a1),?_⟩,⟨309,.pointer (some a0),?_⟩⟩
  ·have:=World.var?_cell (g:=6) (by kernel_rfl) hv1 0;simpa using this
  ·have:=World.var?_cell (g:=7) (by kernel_rfl) hv0 0;simpa using this
 have hN:GlobN0 W.heap.size W:=⟨hU,Nat.le_refl _,hv⟩
 exact(⟨⟨hN,hT⟩,hE⟩:GlobNE W.heap.size W)
theorem laid_metUTE(os:Os)(args:Array Value):laidMet Tryz.prog laidLUTE ((z66 os).forCall (fun _ _=>0) ⟨#[],args,[]⟩).memory:=
 (LaidIn.of_run [8,9,5,1,7,N0+2,6,N0+3,0] 8 (by kernel_rfl) (by kernel_rfl) (by kernel_rfl) (by kernel_rfl)).met
end Go.Proofs.YtmiokadmddjccaaGreatDoor
end

section
namespace Go.Mor
open Go
def nxB(l:List UInt8)(a:Nat):Nat×Nat:=match l[a]? with
 |some b=>(b.toNat,a+1)
 |none=>(0,a)
def muM:List Int:=[1,1,1000,1000000000000]
end Go.Mor
end

section
namespace Go.Mor
open Go
set_option maxHeartbeats 2000000
def fld0:Fld:=⟨[],ty0,false⟩
def txF:List (List UInt8):=[[],[97],[98,32,99],[195,169,116,195,169]]
def txT:List (List UInt8):=[[],[97],[98,32,99],[195,169,116,195,169],[45,55],[122,122]]
def cl3:List (List UInt8):=[[108,101,102,116],[114,105,103,104,116],[102,114,111,109]]
def cl2:List (List UInt8):=[[108,101,110],[110,117,109]]
def clMM:List (List UInt8):=[[109,105,110],[109,97,120]]
def cmpM:List (List UInt8):=[[61],[60,62],[60],[60,61],[62],[62,61]]
def sumM:List (List UInt8):=[[43],[45],[42],[47],[37]]
def fieldW(fs:List Fld)(kind:Int)(n:Nat):V:=
 match(List.range fs.length).find? (fun i=>(fs.getD ((i+n)%fs.length) fld0).t.k==kind)with
 |some i=> .mk 3 0 (fs.getD ((i+n)%fs.length) fld0).n []
 |none=>if kind=1 then .mk 1 n [] [] else .mk 2 0 (txF.getD (n%4) []) []
def fieldM(l:List UInt8)(fs:List Fld)(kind:Int)(a:Nat):V×Nat:=(fieldW fs kind (nxB l a).1,(nxB l a).2)
def partsM(t:Int→Nat→V×Nat):List Int→Nat→List V×Nat
 |[],a=>([],a)
 |k::r,a=>((t k a).1::(partsM t r (t k a).2).1,(partsM t r (t k a).2).2)
def callM(t:Int→Nat→V×Nat)(s:List UInt8)(ks:List Int)(a:Nat):V×Nat:=(.mk 6 0 s (partsM t ks a).1,(partsM t ks a).2)
def twoM(t:Int→Nat→V×Nat)(s:List UInt8)(k:Int)(a:Nat):V×Nat:=(.mk 4 0 s [(t k a).1,(t k (t k a).2).1],(t k (t k a).2).2)
def treeM(l:List UInt8)(fs:List Fld):Nat→Int→Nat→V×Nat
 |0,kind,a=>fieldM l fs kind a
 |d+1,kind,a0=>
  let a:=(nxB l a0).2
  let k:=if d=0 then(nxB l a0).1%2 else(nxB l a0).1
  let b:=(nxB l a).2
  let x:=(nxB l a).1
  let t:=treeM l fs d
  if kind=2 then
   if k%8=0 then fieldM l fs kind a
   else if k%8=1 then(.mk 2 0 (txT.getD (x%6) []) [],b)
   else if k%8=2 then callM t nText [1] a
   else if k%8=3 then callM t (cl3.getD (x%3) []) [2,1] b
   else if k%8=4 then callM t nIf [1,2,2] a
   else twoM t [38] 2 a
  else
   if k%10=0 then fieldM l fs kind a
   else if k%10=1 then(.mk 1 (x*muM.getD ((nxB l b).1%4) 0) [] [],(nxB l b).2)
   else if k%10=2 then(.mk 5 0 [45] [(t 1 a).1],(t 1 a).2)
   else if k%10=3 then callM t (cl2.getD (x%2) []) [2] b
   else if k%10=4 then callM t nFind [2,2] a
   else if k%10=5 then callM t (clMM.getD (x%2) []) [1,1] b
   else if k%10=6 then callM t nIf [1,1,1] a
   else if k%10=7 then twoM t (cmpM.getD (x%6) []) (1+((nxB l b).1%2:Nat)) (nxB l b).2
   else twoM t (sumM.getD (x%5) []) 1 b
def exprOf(l:List UInt8)(fs:List Fld)(kind:Int):V:=
 if rightE (treeM l fs 4 kind 0).1 then(treeM l fs 4 kind 0).1 else(fieldM l fs kind (treeM l fs 4 kind 0).2).1
def ntE(fs:List Fld):Nat→V→Prop
 |0,_=>True
 |d+1,e=>(e.k=3→∃(i:Nat) (f:Fld),fieldAt fs e.s=i∧fs[i]?=some f∧f.n=e.s∧f.t.o=0∧(f.t.k=1∨f.t.k=2))∧∀x∈e.l,ntE fs d x
def Made(fs:List Fld)(d:Nat)(kind:Int)(e:V):Prop:=okE d e=true∧typeV fs d e=(⟨kind,0⟩,true)∧ntE fs d e
theorem nt_leaf{fs:List Fld}{d:Nat}{e:V}(h3:e.k≠3)(hl:e.l=[]):ntE fs (d+1) e:=⟨fun h=>absurd h h3,by rw[hl];intro x hx;cases hx⟩
theorem getD_mem{α:Type}(l:List α)(i:Nat)(d:α)(h:i<l.length):l.getD i d∈l:=by
 rw[List.getD_eq_getElem?_getD,gE h];exact List.getElem_mem h
theorem nx_lt(l:List UInt8)(a:Nat):(nxB l a).1<256:=by
 unfold nxB;split
 ·exact UInt8.toNat_lt _
 ·omega
section
variable{l:List UInt8}{c:Cls}(hc:GoodC c)
theorem type_leaf{fs:List Fld}{d:Nat}{e:V}(hl:e.l=[]):typeV fs (d+1) e=nodeT fs e []:=by unfold typeV;rw[hl];rfl
theorem made_num{fs:List Fld}{d:Nat}{n:Int}(h0:0≤n)(h1:n≤1000000000000000):Made fs (d+1) 1 (.mk 1 n [] []):=by
 refine⟨?_,by rw[type_leaf rfl];rfl,nt_leaf (by simp[V.k]) rfl⟩;simp[okE,nodeE,V.k,V.n,V.s,V.l,h0,h1]
theorem made_text{fs:List Fld}{d:Nat}{s:List UInt8}(h:z10 s=true):Made fs (d+1) 2 (.mk 2 0 s []):=by
 refine⟨?_,by rw[type_leaf rfl];rfl,nt_leaf (by simp[V.k]) rfl⟩;simp[okE,nodeE,V.k,V.n,V.s,V.l,h]
include hc in
theorem made_name{d:Nat}{f:Fld}(hf:f∈c.fs){kind:Int}(hk:f.t.k=kind)(h12:kind=1∨kind=2):Made c.fs (d+1) kind (.mk 3 0 f.n []):=by
 obtain⟨hr,_⟩:=hc.fs f hf;unfold z28 at hr;simp only[Bool.and_eq_true]at hr;obtain⟨i,hi⟩:=List.getElem?_of_mem hf;have ha:=dist_at hc.di hi;have ho:f.t.o=0:=by
  have:=hr.1.2;unfold z27 at this;rw[if_neg (by omega)]at this;simp at this;omega
 refine⟨by simp[okE,nodeE,V.k,V.n,V.s,V.l,hr.1.1],?_,⟨fun _=>⟨i,f,ha,hi,rfl,ho,by omega⟩,fun x hx=>by cases hx⟩⟩;rw[type_leaf rfl];unfold nodeT;rw[if_neg (by simp[V.k]),if_pos (show(V.mk 3 0 f.n []).k=3 from rfl),show fieldAt c.fs (V.mk 3 0 f.n []).s=i from ha,if_neg (by omega),Int.toNat_natCast,z38 hi];obtain⟨n,⟨k,o⟩,ix⟩:=f;simp only at hk ho;rw[hk,ho]
include hc in
theorem made_field{d:Nat}{kind:Int}(h12:kind=1∨kind=2)(a:Nat):Made c.fs (d+1) kind (fieldM l c.fs kind a).1:=by
 unfold fieldM fieldW;have hn:=nx_lt l a;generalize(nxB l a).1=n at hn;cases hf:(List.range c.fs.length).find? (fun i=>(c.fs.getD ((i+n)%c.fs.length) fld0).t.k==kind)with
 |some i=>
  have h1:=List.find?_some hf;have h2:=List.mem_of_find?_eq_some hf;rw[List.mem_range]at h2;exact made_name hc (getD_mem _ _ _ (Nat.mod_lt _ (by omega))) (by simpa using h1) h12
 |none=>
  rcases h12 with rfl|rfl
  ·exact made_num (by omega) (by omega)
  ·refine made_text ?_;have h4:=Nat.mod_lt n (show 0<4 by omega);have:∀i:Nat,i<4→z10 (txF.getD i [])=true:=by
    intro i hi;have:i=0∨i=1∨i=2∨i=3:=by omega
    rcases this with rfl|rfl|rfl|rfl<;>rfl
   exact this _ h4
theorem kidsT_made{fs:List Fld}{d:Nat}{t:Int→Nat→V×Nat}(ht:∀k a,(k=1∨k=2)→Made fs d k (t k a).1):∀(ks:List Int) (a:Nat),(∀k∈ks,k=1∨k=2)→
  (partsM t ks a).1.length=ks.length∧(∀x∈(partsM t ks a).1,okE d x=true∧ntE fs d x)∧kidsT (typeV fs d) (partsM t ks a).1=some (ks.map fun k=>⟨k,0⟩)
 |[],a,_=>⟨rfl,(by simp[partsM]),rfl⟩
 |k::r,a,h=>by
  obtain⟨h1,h2,h3⟩:=kidsT_made ht r (t k a).2 (fun x hx=>h x (List.mem_cons_of_mem _ hx));have hm:=ht k a (h k (List.mem_cons_self ..));refine⟨by simp only[partsM,List.length_cons,h1],fun x hx=> ?_,?_⟩
  ·simp only[partsM]at hx;rcases List.mem_cons.1 hx with rfl|hx
   ·exact⟨hm.1,hm.2.2⟩
   ·exact h2 x hx
  ·simp only[partsM,kidsT,hm.2.1,if_true,h3,Option.map_some,List.map_cons]
theorem z102{fs:List Fld}{d:Nat}{t:Int→Nat→V×Nat}(ht:∀k a,(k=1∨k=2)→Made fs d k (t k a).1){s:List UInt8}{ks:List Int}{kind:Int}(a:Nat)(hk:∀k∈ks,k=1∨k=2)
  (h1:0<takesV s) (h2:(ks.length:Int)=takesV s) (h3:callT s (ks.map fun k=>⟨k,0⟩)=(⟨kind,0⟩,true)):Made fs (d+1) kind (callM t s ks a).1:=by
 obtain⟨q1,q2,q3⟩:=kidsT_made ht ks a hk;refine⟨?_,?_,fun h=>by simp[callM,V.k]at h,fun x hx=>(q2 x hx).2⟩
 ·rw[okE,Bool.and_eq_true,List.all_eq_true];refine⟨?_,fun x hx=>(q2 x hx).1⟩;simp[nodeE,callM,V.k,V.n,V.s,V.l,h1,q1,h2]
 ·unfold typeV;simp only[callM,V.l,q3];unfold nodeT;simp only[V.k,V.s,Int.reduceEq,if_false,if_true];exact h3
theorem made_two{fs:List Fld}{d:Nat}{t:Int→Nat→V×Nat}(ht:∀k a,(k=1∨k=2)→Made fs d k (t k a).1){s:List UInt8}{k kind:Int}(a:Nat)(hk:k=1∨k=2)(h1:0<bindsV s)
  (h3:operT s [⟨k,0⟩,⟨k,0⟩]=(⟨kind,0⟩,true)):Made fs (d+1) kind (twoM t s k a).1:=by
 have m1:=ht k a hk;have m2:=ht k (t k a).2 hk;have hx2:∀x∈(twoM t s k a).1.l,okE d x=true∧ntE fs d x:=fun x hx=>by
  simp only[twoM,V.l,List.mem_cons,List.not_mem_nil,or_false]at hx;rcases hx with rfl|rfl
  ·exact⟨m1.1,m1.2.2⟩
  ·exact⟨m2.1,m2.2.2⟩
 refine⟨?_,?_,fun h=>by simp[twoM,V.k]at h,fun x hx=>(hx2 x hx).2⟩
 ·rw[okE,Bool.and_eq_true,List.all_eq_true];exact⟨by simp[nodeE,twoM,V.k,V.n,V.s,V.l,h1],fun x hx=>(hx2 x hx).1⟩
 ·unfold typeV;simp only[twoM,V.l,kidsT,m1.2.1,m2.2.1,if_true,Option.map_some];unfold nodeT;simp only[V.k,V.s,Int.reduceEq,if_false,if_true];exact h3
include hc in
theorem made_tree:∀(d:Nat) (kind:Int) (a:Nat),(kind=1∨kind=2)→Made c.fs (d+1) kind (treeM l c.fs (d+1) kind a).1:=by
 have key:∀(d:Nat),(d=0∨∀k a,(k=1∨k=2)→Made c.fs d k (treeM l c.fs d k a).1)→∀(kind:Int) (a:Nat),(kind=1∨kind=2)→Made c.fs (d+1) kind (treeM l c.fs (d+1) kind a).1:=by
  intro d hd kind a0 h12;unfold treeM;simp only[];generalize(nxB l a0).2=a;have hx:=nx_lt l a;generalize hk:(if d=0 then(nxB l a0).1%2 else(nxB l a0).1)=k;have hk2:d=0→k<2:=fun h=>by rw[if_pos h]at hk;omega
  generalize(nxB l a).2=b;generalize(nxB l a).1=x at hx;have ht:¬k<2→∀k a,(k=1∨k=2)→Made c.fs d k (treeM l c.fs d k a).1:=fun h=>by
   rcases hd with hd|hd
   ·exact absurd (hk2 hd) h
   ·exact hd
  have in6:∀i:Nat,i<6→z10 (txT.getD i [])=true:=by
   intro i hi;have:i=0∨i=1∨i=2∨i=3∨i=4∨i=5:=by omega
   rcases this with rfl|rfl|rfl|rfl|rfl|rfl<;>rfl
  rcases h12 with rfl|rfl
  ·rw[if_neg (by omega)];by_cases q0:k%10=0
   ·rw[if_pos q0];exact made_field hc (.inl rfl) a
   rw[if_neg q0];by_cases q1:k%10=1
   ·rw[if_pos q1];have h4:=Nat.mod_lt (nxB l b).1 (show 0<4 by omega);have hm:0≤muM.getD ((nxB l b).1%4) 0∧muM.getD ((nxB l b).1%4) 0≤1000000000000:=by
     generalize(nxB l b).1%4=i at h4;have:i=0∨i=1∨i=2∨i=3:=by omega
     rcases this with rfl|rfl|rfl|rfl<;>decide
    generalize muM.getD ((nxB l b).1%4) 0=u at hm;refine made_num (Int.mul_nonneg (by omega) hm.1) ?_;have:(x:Int)*u≤255*1000000000000:=Int.mul_le_mul (by omega) hm.2 hm.1 (by omega);omega
   rw[if_neg q1];have T:=ht (by omega);by_cases q2:k%10=2
   ·rw[if_pos q2];have m:=T 1 a (.inl rfl);refine⟨?_,?_,fun h=>by simp[V.k]at h,fun y hy=> ?_⟩
    ·rw[okE,Bool.and_eq_true,List.all_eq_true];refine⟨by simp[nodeE,V.k,V.n,V.s,V.l],fun y hy=> ?_⟩;simp only[V.l,List.mem_cons,List.not_mem_nil,or_false]at hy;subst hy;exact m.1
    ·unfold typeV;simp only[V.l,kidsT,m.2.1,if_true,Option.map_some];rfl
    ·simp only[V.l,List.mem_cons,List.not_mem_nil,or_false]at hy;subst hy;exact m.2.2
   rw[if_neg q2];by_cases q3:k%10=3
   ·rw[if_pos q3];have h2:=Nat.mod_lt x (show 0<2 by omega);generalize x%2=i at h2;have:i=0∨i=1:=by omega
    rcases this with rfl|rfl<;>exact z102 T b (by simp) (by decide) (by decide) rfl
   rw[if_neg q3];by_cases q4:k%10=4
   ·rw[if_pos q4];exact z102 T a (by simp) (by decide) (by decide) rfl
   rw[if_neg q4];by_cases q5:k%10=5
   ·rw[if_pos q5];have h2:=Nat.mod_lt x (show 0<2 by omega);generalize x%2=i at h2;have:i=0∨i=1:=by omega
    rcases this with rfl|rfl<;>exact z102 T b (by simp) (by decide) (by decide) rfl
   rw[if_neg q5];by_cases q6:k%10=6
   ·rw[if_pos q6];exact z102 T a (by simp) (by decide) (by decide) rfl
   rw[if_neg q6];by_cases q7:k%10=7
   ·rw[if_pos q7];have h2:=Nat.mod_lt x (show 0<6 by omega);generalize x%6=i at h2;have h3:=Nat.mod_lt (nxB l b).1 (show 0<2 by omega);generalize(nxB l b).1%2=j at h3;have hj:j=0∨j=1:=by omega
    have:i=0∨i=1∨i=2∨i=3∨i=4∨i=5:=by omega
    rcases hj with rfl|rfl<;>rcases this with rfl|rfl|rfl|rfl|rfl|rfl<;>exact made_two T _ (by simp) (by decide) rfl
   rw[if_neg q7];have h2:=Nat.mod_lt x (show 0<5 by omega);generalize x%5=i at h2;have:i=0∨i=1∨i=2∨i=3∨i=4:=by omega
   rcases this with rfl|rfl|rfl|rfl|rfl<;>exact made_two T _ (by simp) (by decide) rfl
  ·rw[if_pos rfl];by_cases q0:k%8=0
   ·rw[if_pos q0];exact made_field hc (.inr rfl) a
   rw[if_neg q0];by_cases q1:k%8=1
   ·rw[if_pos q1];exact made_text (in6 _ (Nat.mod_lt _ (by omega)))
   rw[if_neg q1];have T:=ht (by omega);by_cases q2:k%8=2
   ·rw[if_pos q2];exact z102 T a (by simp) (by decide) (by decide) rfl
   rw[if_neg q2];by_cases q3:k%8=3
   ·rw[if_pos q3];have h2:=Nat.mod_lt x (show 0<3 by omega);generalize x%3=i at h2;have:i=0∨i=1∨i=2:=by omega
    rcases this with rfl|rfl|rfl<;>exact z102 T b (by simp) (by decide) (by decide) rfl
   rw[if_neg q3];by_cases q4:k%8=4
   ·rw[if_pos q4];exact z102 T a (by simp) (by decide) (by decide) rfl
   rw[if_neg q4];exact made_two T a (.inr rfl) (by decide) rfl
 intro d
 induction d with
 |zero=>exact key 0 (.inl rfl)
 |succ d ih=>exact key (d+1) (.inr ih)
end
theorem ok_more:∀{d:Nat} {e:V} (d':Nat),d≤d'→okE d e=true→okE d' e=true
 |0,e,_,_,h=>by simp[okE]at h
 |d+1,e,0,hd,_=>by omega
 |d+1,e,d'+1,hd,h=>by
  rw[okE,Bool.and_eq_true,List.all_eq_true]at h ⊢;exact⟨h.1,fun x hx=>ok_more d' (by omega) (h.2 x hx)⟩
theorem kidsT_congr{t t':V→Ty×Bool}:∀{l:List V},(∀x∈l,t x=t' x)→kidsT t l=kidsT t' l
 |[],_=>rfl
 |x::l,h=>by unfold kidsT;rw[h x (List.mem_cons_self ..),kidsT_congr fun y hy=>h y (List.mem_cons_of_mem _ hy)]
theorem z135{fs:List Fld}:∀{d:Nat} {e:V} (d':Nat),d≤d'→okE d e=true→typeV fs d' e=typeV fs d e
 |0,e,_,_,h=>by simp[okE]at h
 |d+1,e,0,hd,_=>by omega
 |d+1,e,d'+1,hd,h=>by
  rw[okE,Bool.and_eq_true,List.all_eq_true]at h;unfold typeV;rw[kidsT_congr fun x hx=>z135 d' (by omega) (h.2 x hx)]
theorem rightE_of1{e:V}(h:okE 1 e=true):rightE e=true:=by
 have hl:e.l=[]:=by
  rw[okE,Bool.and_eq_true,List.all_eq_true]at h;cases hh:e.l with
  |nil=>rfl
  |cons x r=>have:=h.2 x (by rw[hh];simp);simp[okE]at this
 unfold rightE;rw[ok_more 8 (by omega) h];have:szE 8 e=1:=by unfold szE;rw[hl];rfl
 rw[this];rfl
theorem nt_more{fs:List Fld}:∀{d:Nat} {e:V} (d':Nat),okE d e=true→ntE fs d e→ntE fs d' e
 |0,e,_,h,_=>by simp[okE]at h
 |d+1,e,0,_,_=>trivial
 |d+1,e,d'+1,h,hn=>by
  rw[okE,Bool.and_eq_true,List.all_eq_true]at h;exact⟨hn.1,fun x hx=>nt_more d' (h.2 x hx) (hn.2 x hx)⟩
theorem z57{c:Cls}(hc:GoodC c)(l:List UInt8){kind:Int}(h12:kind=1∨kind=2):rightE (exprOf l c.fs kind)=true∧typeV c.fs 8 (exprOf l c.fs kind)=(⟨kind,0⟩,true)∧okE 4 (exprOf l c.fs kind)=true∧ntE c.fs 4 (exprOf l c.fs kind):=by
 unfold exprOf;have hm:=made_tree hc (l:=l) 3 kind 0 h12;cases hr:rightE (treeM l c.fs 4 kind 0).1
 ·have hf:=made_field hc (l:=l) (d:=0) h12 (treeM l c.fs 4 kind 0).2;simp only[Bool.false_eq_true,if_false];exact⟨rightE_of1 hf.1,by rw[z135 8 (by omega) hf.1];exact hf.2.1,ok_more 4 (by omega) hf.1,nt_more 4 hf.1 hf.2.2⟩
 ·simp only[if_true];exact⟨hr,by rw[z135 8 (by omega) hm.1];exact hm.2.1,hm.1,hm.2.2⟩
end Go.Mor
end

section
namespace Go.Mor
open Go
open Go.Proofs.YtmiokadmddjccaaGreatDoor (cmpV z132 cmpV_zero cmpV_rng cmpV_eq cmpV_anti ordI thenI ordS cmpL)
set_option maxHeartbeats 2000000
set_option maxRecDepth 100000
def eF(s:List UInt8):V:=.mk 3 0 s []
def eN(n:Int):V:=.mk 1 n [] []
def eT(s:List UInt8):V:=.mk 2 0 s []
def eO(s:List UInt8)(a b:V):V:=.mk 4 0 s [a,b]
def eC(s:List UInt8)(l:List V):V:=.mk 6 0 s l
def eM(a:V):V:=.mk 5 0 [45] [a]
def fn':V:=eF [110]
def ft':V:=eF [116]
def sFs:List Fld:=[⟨[110],⟨1,0⟩,false⟩,⟨[116],⟨2,0⟩,false⟩,⟨[114],⟨3,0⟩,false⟩]
def sCls:Cls:=⟨[99],sFs⟩
def sVals(x:Int)(t:List UInt8):List V:=[.mk 1 x [] [],.mk 2 0 t [],V.nil]
section
variable{fs:List Fld}{vals:List V}{d:Nat}{x:Int}{t:List UInt8}{a b c:V}{s:List UInt8}{n:Int}
theorem numE_id(h0: -1000000000000000≤n)(h1:n≤1000000000000000):numE n=.mk 1 n [] []:=by unfold numE;rw[cutN_id h0 h1]
end
def Rg(n:Int):Prop:= -1000000000000000≤n∧n≤1000000000000000
section
variable{x y:Int}{t u:List UInt8}
end
section
variable{gs:List (List UInt8)}{x:Int}
end
def Ascii(s:List UInt8):Prop:=∀b∈s,32≤b.toNat∧b.toNat<127
theorem Ascii.take{s:List UInt8}(h:Ascii s)(n:Nat):Ascii (s.take n):=fun b hb=>h b (List.mem_of_mem_take hb)
end Go.Mor
end

section
namespace Go.Mor
open Go Go.RowKit
set_option maxHeartbeats 1000000
theorem checkGo_ok:∀(fs:List Fld) (vs:List V) (k:Nat),(∀(i:Nat) f v,fs[i]?=some f→vs[i]?=some v→fitsV v f.t=true)→z86 k fs vs=(0,0):=by
 intro fs
 induction fs with
 |nil=>intro vs k _;simp[z86]
 |cons f r ih=>
  intro vs k h;cases vs with
  |nil=>simp[z86]
  |cons v q=>
   rw[z86,if_pos (h 0 f v rfl rfl)];exact ih q (k+1) fun i f v hf hv=>h (i+1) f v (by simpa using hf) (by simpa using hv)
theorem check_ok{c:Cls}{vs:List V}(hc:z30 c=true)(hl:vs.length=c.fs.length)(h:∀(i:Nat) f v,c.fs[i]?=some f→vs[i]?=some v→fitsV v f.t=true):check c vs=(0,0):=by
 simp only[check,hc,Bool.not_true,Bool.false_eq_true,if_false,hl,ne_eq,not_true_eq_false];exact checkGo_ok _ _ _ h
theorem fits_mkVal(t:Ty)(n many:Int)(ht:z27 t=true)(hm:many≤100000):fitsV (mkVal t n many) t=true∧(mkVal t n many).s.length≤60∧∀y∈(mkVal t n many).l,y.s.length≤60:=by
 obtain⟨k,o⟩:=t;by_cases h5:k=5
 ·subst h5;have ho:1≤o∧o≤4:=by simpa [z27]using ht
  have hp:=z26 n 4 (by omega);have hall:∀y∈(List.range (pick n 4).toNat).map (fun i:Nat=>mkVal1 o (n.tdiv 4+(i:Int)) many),noItem y=false∧ofKind y o=true∧y.s.length≤60:=by
   intro y hy;obtain⟨i,_,rfl⟩:=List.mem_map.1 hy;obtain⟨h1,_,h3,h4,h6⟩:=right1_of o (n.tdiv 4+(i:Int)) many ho hm;exact⟨by simp[noItem,h1,h4],h3,h6⟩
  have e:mkVal ⟨5,o⟩ n many=.mk 5 0 [] ((List.range (pick n 4).toNat).map (fun i:Nat=>mkVal1 o (n.tdiv 4+(i:Int)) many)):=if_pos rfl;rw[e];refine⟨?_,by simp[V.s],fun y hy=>(hall y hy).2.2⟩;simp only[fitsV,Bool.and_eq_true];refine⟨⟨⟨?_,ht⟩,by simp[ofKind,V.k]⟩,?_⟩
  ·simp only[rightV,V.k,V.n,V.s,V.l,if_true,Bool.and_eq_true,Bool.not_eq_true',List.any_eq_false];refine⟨⟨⟨rfl,rfl⟩,by simp;omega⟩,fun y hy=>by simpa using(hall y hy).1⟩
  ·simp only[V.l,Bool.not_eq_true',List.any_eq_false];intro y hy;simp[(hall y hy).2.1]
 ·have hk:1≤k∧k≤4:=by simp[z27,h5]at ht;omega
  obtain⟨h1,h2,h3,h4,h6⟩:=right1_of k n many hk hm;have e:mkVal ⟨k,o⟩ n many=mkVal1 k n many:=if_neg h5;rw[e];refine⟨?_,h6,by rw[h2];intro y hy;cases hy⟩;simp only[fitsV,rightV,if_neg h4,h1,ht,h3,h2];simp
end Go.Mor
end

section
namespace Go.Proofs.YtmiokadmddjccaaGreatDoor
open Go Go.RowKit Go.Mor Go.Sh Go.Sh.Cd1 Go.Sh.Cd6
set_option maxRecDepth 100000
set_option maxHeartbeats 4000000
theorem okE_key{d:Nat}{e:V}(h:okE (d+1) e=true):e.l.length≤3∧e.s.length≤60:=by
 obtain⟨hn,_⟩:=z98 h;rcases z79 hn with k|k|k|k|k|k
 ·have:=node1 hn k;rw[this.2.2.1,this.2.2.2];simp
 ·have:=node2 hn k;rw[this.2.2];exact⟨by simp,right60 this.2.1⟩
 ·have:=node3 hn k;rw[this.2.2];have h2:=this.2.1;unfold z13 at h2;simp at h2;refine⟨by simp,by omega⟩
 ·obtain⟨_,hb,a,b,h⟩:=node4 hn k;have:=binds_len hb;rw[h];exact⟨by simp,by omega⟩
 ·obtain⟨_,hb,a,h⟩:=node5 hn k;rw[h,hb];simp
 ·obtain⟨_,hb,h⟩:=node6 hn k;have h2:=takes_3 e.s;refine⟨by omega,?_⟩;rcases z121 hb with h|h|h|h|h|h|h|h|h|h<;>rw[h]<;>decide
theorem okE_small:∀(d:Nat) (e:V),okE d e=true→ESmall e
 |0,e,h=>by simp[okE]at h
 |d+1,e,h=>by
  have key:=okE_key h;have hk:=(z98 h).2;obtain⟨k,n,s,l⟩:=e;exact .mk (by have:=key.1;simp only[Vl]at this;omega) (by have:=key.2;simp only[Vs]at this;omega) (fun y hy=>okE_small d y (hk y hy))
theorem z71{e:V}(h:rightE e=true):ESmall e:=okE_small 8 e (z162 h).1
theorem parse_rt{s:List UInt8}{f:Nat}{e:V}(h:parseV f s=some (e,0,0)):rightE e=true:=by
 unfold parseV at h;split at h
 ·cases h
 split at h
 ·cases h
 ·cases h
 ·split at h
  ·split at h
   ·simp at h
   ·split at h
    ·rename_i hr;cases h;exact hr
    ·cases h
  ·cases h
  ·cases h
theorem num6_ok(g:Sh.Glob)(n:Int):SCalls Tryz.prog g 41 [I n] [] (nv (.mk 1 n [] [])) []:=by
 refine z7 hmix tf_82 rfl ?_;simp only[vcA,seval,vV];rfl
theorem text6_ok(g:Sh.Glob)(s:List UInt8):SCalls Tryz.prog g 40 [S (str s)] [] (nv (.mk 2 0 s [])) []:=by
 refine z7 hmix tf_86 rfl ?_;simp only[vcA,seval,vV]
theorem sample_ok(g:Sh.Glob):SCalls Tryz.prog g 54 [] [] (clT sCls) []:=by
 refine z7 hmix tf_85 rfl ?_;simp only[vcA,seval,vV];rfl
def rawRow(x:V):List PV:=[.v (.int .i64 x.k),.v (.int .i64 x.n),.v (.string (str x.s)),.v (.slice none 0 0)]
theorem pwk_raw{x:V}(h:x.l=[])(j:Nat)(c d:PV)(hc:(rawRow x)[j]?=some c)(hd:(V.row x)[j]?=some d):PWk c d:=by
 rw[row4,h]at hd
 match j with
 |0=>cases hc;cases hd;exact .refl _
 |1=>cases hc;cases hd;exact .refl _
 |2=>cases hc;cases hd;exact .refl _
 |3=>cases hc;cases hd;exact pwk_nil 4
 |j+4=>simp[rawRow]at hc
theorem pwk_raws{l:List V}(h:∀x∈l,x.l=[]):PWk (.sl 4 (l.map rawRow)) (.sl 4 (V.rows l)):=by
 refine pwk_sl (by rw[rowsLen,List.length_map]) (fun i cs ds h1 h2=> ?_);rw[List.getElem?_map]at h1;rw[rowsGet]at h2;obtain⟨x,hx,rfl⟩:=gO h1;rw[hx]at h2;cases h2;exact⟨by rw[row4];rfl,fun j c d hc hd=>pwk_raw (h x (gM hx)) j c d hc hd⟩
theorem sVals_l(x:Int)(t:List UInt8):∀v∈sVals x t,v.l=[]:=by
 intro v hv;unfold sVals at hv;simp only[List.mem_cons,List.not_mem_nil,or_false]at hv;rcases hv with rfl|rfl|rfl<;>rfl
theorem sCls_ok:ClsOk sCls:=by
 refine⟨by unfold Short;decide,fun f hf=> ?_,by decide⟩;unfold sCls sFs at hf;simp only[List.mem_cons,List.not_mem_nil,or_false]at hf;rcases hf with rfl|rfl|rfl<;>(unfold Short;decide)
theorem sVals_few(x:Int){t:List UInt8}(ht:t.length≤60):∀v∈sVals x t,VFew v∧VOk v:=by
 intro v hv;refine⟨few0 (sVals_l x t v hv),?_⟩;unfold sVals at hv;simp only[List.mem_cons,List.not_mem_nil,or_false]at hv;rcases hv with rfl|rfl|rfl
 ·exact⟨by unfold z59;simp[Vs],by simp[Vl]⟩
 ·exact⟨by unfold z59;simp[Vs];omega,by simp[Vl]⟩
 ·exact⟨by unfold z59;simp[V.nil,Vs],by simp[V.nil,Vl]⟩
theorem sCls_right:z30 sCls=true:=by kernel_rfl
theorem sVals_check{x:Int}{t:List UInt8}(hx:Rg x)(ht:z10 t=true):check sCls (sVals x t)=(0,0):=by
 refine check_ok sCls_right rfl (fun i f v hf hv=> ?_)
 match i with
 |0=>cases hf;cases hv;have:=z50 x;rwa [numE_id hx.1 hx.2]at this
 |1=>cases hf;cases hv;exact z101 ht
 |2=>cases hf;cases hv;show fitsV V.nil ⟨3,0⟩=true;kernel_rfl
 |i+3=>simp[sCls,sFs]at hf
theorem worthL_ok(m:Nat){s:List UInt8}{e:V}(hp:parseV 60 s=some (e,0,0)){x:Int}{t:List UInt8}(hx:Rg x)(ht:z10 t=true)(hy:(typeV sFs 8 e).2=true):
  SCalls Tryz.prog (glE m) 42 [S (str s),I x,S (str t)] [] (.tuple [tv (worthV sFs (sVals x t) 8 e),B true]) []:=by
 have hr:=parse_rt hp;have HP:=sc_0E (parse_any m s hp);have HS:=sample_ok (glE m);have HN:=num6_ok (glE m) x;have HT:=text6_ok (glE m) t;have HE:=evEval_ok m sCls e (sVals x t) sCls_ok (z71 hr) (sVals_few x (right60 ht)) (by show 3≤_;decide);have hA:evalA sCls (sVals x t) e=(worthV sFs (sVals x t) 8 e,0):=by
  unfold evalA typeA;rw[if_pos hr,if_pos sCls_right,if_pos (show(typeV sCls.fs 8 e).2=true from hy),if_neg (by simp),sVals_check hx ht,if_neg (by simp)];rfl
 rw[hA]at HE;have HE':SCalls Tryz.prog (glE m) 34 [tv e,clT sCls,.pv (.sl 4 ((sVals x t).map rawRow))] [] (evalT (worthV sFs (sVals x t) 8 e,0)) []:=HE.inp rfl (fun j c d hc hd=>by
  match j with
  |0=>cases hc;cases hd;exact .refl _
  |1=>cases hc;cases hd;exact .refl _
  |2=>cases hc;cases hd;exact wk_pv (pwk_raws (sVals_l x t))
  |j+3=>simp at hc)
 unfold evalT at HE';rw[if_pos rfl]at HE';unfold parT at HP;simp only[if_true]at HP;generalize worthV sFs (sVals x t) 8 e=r at*;unfold sVals rawRow V.nil at HE';simp only[List.map_cons,List.map_nil]at HE';refine z7 hmix tf_87 rfl ?_;unfold B tv nv clT at*;simp only[vcA,seval,vV,cmV];(with_reducible apply v_call);simp only[vcA,seval,vV,cmV];rfl;rfl;exact HP;exact km;simp only[vcA,seval,vV,cmV];rfl;simp only[vcA,seval,vV,cmV];(with_reducible apply v_call);simp only[vcA,seval,vV,cmV];rfl;rfl;exact HS;exact km;simp only[vcA,seval,vV,cmV];rfl;simp only[vcA,seval,vV,cmV];(with_reducible apply v_call);simp only[vcA,seval,vV,cmV];rfl;rfl;exact HN;exact km;simp only[vcA,seval,vV,cmV];rfl;simp only[vcA,seval,vV,cmV];(with_reducible apply v_call);simp only[vcA,seval,vV,cmV];rfl;rfl;exact HT;exact km;simp only[vcA,seval,vV,cmV];rfl;simp only[vcA,seval,vV,cmV];(with_reducible apply v_call);simp only[vcA,seval,vV,cmV];rfl;rfl;exact HE';exact km;simp only[vcA,seval,vV,cmV];rfl;simp only[vcA,seval,vV,cmV]
theorem isL_ok(m:Nat){s:List UInt8}{e:V}(hp:parseV 60 s=some (e,0,0)){x:Int}{t:List UInt8}(hx:Rg x)(ht:z10 t=true)(hy:(typeV sFs 8 e).2=true)(w:V)(hw:worthV sFs (sVals x t) 8 e=w)(hl:w.l=[]):
  SCalls Tryz.prog (glE m) 39 [S (str s),I x,S (str t),nv w] [] (B true) []:=by
 have HW:=worthL_ok m hp hx ht hy;rw[hw]at HW;have HS:=refSame_ok (glE m) w w (few0 hl).small;rw[decide_eq_true (z132 w)]at HS;have HS':SCalls Tryz.prog (glE m) 36 [tv w,nv w] [] (.pv (.v (.bool true))) []:=HS.inp rfl (fun j c d hc hd=>by
  match j with
  |0=>cases hc;cases hd;exact .refl _
  |1=>cases hc;cases hd;exact nv_tv hl
  |j+2=>simp at hc)
 refine z7 hmix tf_79 rfl ?_;unfold B tv nv at*;simp only[vcA,seval,vV,cmV];(with_reducible apply v_call);simp only[vcA,seval,vV,cmV];rfl;rfl;exact HW;exact km;simp only[vcA,seval,vV,cmV];rfl;simp only[vcA,seval,vV,cmV];(with_reducible apply v_call);simp only[vcA,seval,vV,cmV];rfl;rfl;exact HS';exact km;simp only[vcA,seval,vV,cmV];rfl;simp only[vcA,seval,vV,cmV]
end Go.Proofs.YtmiokadmddjccaaGreatDoor
end

section
namespace Go.Proofs.YtmiokadmddjccaaGreatDoor
open Go Go.RowKit Go.Mor Go.Sh Go.Sh.Cd1 Go.Sh.Cd5
set_option maxRecDepth 100000
set_option maxHeartbeats 1000000
theorem refArity_ok(g:Sh.Glob)(s:List UInt8):SCalls Tryz.prog g 101 [S (str s)] [] (I (takesV s)) []:=by
 refine z7 hmix tf_96 rfl ?_;have q1:(⟨#[108,101,110]⟩:ByteArray)=str [108,101,110]:=rfl;have q2:(⟨#[116,101,120,116]⟩:ByteArray)=str [116,101,120,116]:=rfl;have q3:(⟨#[110,117,109]⟩:ByteArray)=str [110,117,109]:=rfl;have q4:(⟨#[108,101,102,116]⟩:ByteArray)=str [108,101,102,116]:=rfl;have q5:(⟨#[114,105,103,104,116]⟩:ByteArray)=str [114,105,103,104,116]:=rfl;have q6:(⟨#[102,114,111,109]⟩:ByteArray)=str [102,114,111,109]:=rfl;have q7:(⟨#[102,105,110,100]⟩:ByteArray)=str [102,105,110,100]:=rfl;have q8:(⟨#[109,105,110]⟩:ByteArray)=str [109,105,110]:=rfl;have q9:(⟨#[109,97,120]⟩:ByteArray)=str [109,97,120]:=rfl;have q10:(⟨#[105,102]⟩:ByteArray)=str [105,102]:=rfl;have hb:∀t:List UInt8,(s==t)=decide (s=t):=fun t=>by rw[Bool.eq_iff_iff];simp
 unfold takesV;simp only[vcA,seval,vV,q1,q2,q3,q4,q5,q6,q7,q8,q9,q10,hb]
 repeat' (first|(apply And.intro)|(intro _))
 all_goals simp_all
theorem refBinds_ok(g:Sh.Glob)(s:List UInt8):SCalls Tryz.prog g 198 [S (str s)] [] (I (bindsV s)) []:=by
 refine z7 hmix tf_97 rfl ?_;have q1:(⟨#[42]⟩:ByteArray)=str [42]:=rfl;have q2:(⟨#[47]⟩:ByteArray)=str [47]:=rfl;have q3:(⟨#[37]⟩:ByteArray)=str [37]:=rfl;have q4:(⟨#[43]⟩:ByteArray)=str [43]:=rfl;have q5:(⟨#[45]⟩:ByteArray)=str [45]:=rfl;have q6:(⟨#[38]⟩:ByteArray)=str [38]:=rfl;have q7:(⟨#[61]⟩:ByteArray)=str [61]:=rfl;have q8:(⟨#[60,62]⟩:ByteArray)=str [60,62]:=rfl;have q9:(⟨#[60]⟩:ByteArray)=str [60]:=rfl;have q10:(⟨#[60,61]⟩:ByteArray)=str [60,61]:=rfl;have q11:(⟨#[62]⟩:ByteArray)=str [62]:=rfl;have q12:(⟨#[62,61]⟩:ByteArray)=str [62,61]:=rfl;have hb:∀t:List UInt8,(s==t)=decide (s=t):=fun t=>by rw[Bool.eq_iff_iff];simp
 unfold bindsV;simp only[vcA,seval,vV,q1,q2,q3,q4,q5,q6,q7,q8,q9,q10,q11,q12,hb]
 repeat' (first|(apply And.intro)|(intro _))
 all_goals simp_all
end Go.Proofs.YtmiokadmddjccaaGreatDoor
end

section
namespace Go.Proofs.YtmiokadmddjccaaGreatDoor
open Go Go.RowKit Go.Mor Go.Sh Go.Sh.Cd1 Go.Sh.Cd5
set_option maxRecDepth 100000
set_option maxHeartbeats 4000000
theorem byGet(l:List UInt8)(k:Nat):(byR l)[k]?=(l[k]?).map fun u=>[PV.v (.int .u8 (u.toNat:Int))]:=by unfold byR;rw[List.getElem?_map]
theorem nx_le{l:List UInt8}{a:Nat}(h:a≤l.length):(nxB l a).2≤l.length:=by
 unfold nxB;split
 ·rename_i b hb;exact(gJ hb).1
 ·exact h
theorem nx_255(l:List UInt8)(a:Nat):(nxB l a).1<256:=by
 unfold nxB;split
 ·exact UInt8.toNat_lt _
 ·omega
theorem mod_i(x:Nat){k:Nat}{c:Int}(hc:c=(k:Int)):Int.tmod (x:Int) c=((x%k:Nat):Int):=by rw[hc,Int.ofNat_tmod]
end Go.Proofs.YtmiokadmddjccaaGreatDoor
end

section
namespace Go.Proofs.YtmiokadmddjccaaGreatDoor
open Go Go.RowKit Go.Mor Go.Sh Go.Sh.Cd1 Go.Sh.Cd6
set_option maxRecDepth 100000
set_option maxHeartbeats 8000000
def mkC(l:List UInt8)(c:Cls)(a:Nat):MO:=.box [.pv (.sl 1 (byR l)),I (a:Int),S (str c.n),.pv (.sl 4 (flR c.fs))]
theorem next6_ok(g:Sh.Glob)(l:List UInt8)(c:Cls)(a:Nat)(hl:l.length≤9223372036854775807)(ha:a≤l.length):
  SCalls Tryz.prog g 136 [.ptr 1000 0] [mkC l c a] (I ((nxB l a).1:Int)) [mkC l c (nxB l a).2]:=by
 refine z14 hmix tf_12 rfl rfl rfl ?_;unfold mkC;by_cases hlt:a<l.length
 ·obtain⟨b,eb⟩:∃b,l[a]?=some b:=⟨_,gE hlt⟩
  have hn:nxB l a=(b.toNat,a+1):=by unfold nxB;rw[eb]
  have hb:=b.toNat_lt;have d1:¬(l.length:Int)≤(a:Int):=by omega
  have w1:IntKind.i64.wrap ((a:Int)+1)=((a+1:Nat):Int):=by rw[wrap64 (by omega) (by omega)];omega
  have w2:IntKind.i64.wrap (((a+1:Nat):Int) - 1)=(a:Int):=by rw[wrap64 (by omega) (by omega)];omega
  have w3:IntKind.i64.wrap (b.toNat:Int)=(b.toNat:Int):=wrap64 (by omega) (by omega);rw[hn];simp only[vcA,seval,vV,byLen,d1,w1,w2,byGet,eb,w3]
 ·have d1:(l.length:Int)≤(a:Int):=by omega
  have hn:nxB l a=(0,a):=by unfold nxB;rw[List.getElem?_eq_none (by omega)]
  rw[hn];simp only[vcA,seval,vV,byLen,d1]
theorem find_at{n i:Nat}{p:Nat→Bool}(hi:i<n)(h:p i=true)(hb:∀j,j<i→p j=false):(List.range n).find? p=some i:=by
 rw[List.find?_range_eq_some];exact⟨h,List.mem_range.2 hi,fun j hj=>by rw[hb j hj];rfl⟩
theorem find_no{n:Nat}{p:Nat→Bool}(hb:∀j,j<n→p j=false):(List.range n).find? p=none:=by
 rw[List.find?_eq_none];intro x hx;rw[hb x (List.mem_range.1 hx)];simp
theorem txF_at{i:Nat}(h:i<4):([[PV.v (.string ⟨#[]⟩)],[.v (.string ⟨#[97]⟩)],[.v (.string ⟨#[98,32,99]⟩)],[.v (.string ⟨#[195,169,116,195,169]⟩)]]:List (List PV))[i]?=some [.v (.string (str (txF.getD i [])))]:=by
 have:i=0∨i=1∨i=2∨i=3:=by omega
 rcases this with rfl|rfl|rfl|rfl<;>rfl
theorem field6_ok(g:Sh.Glob)(l:List UInt8)(c:Cls)(a:Nat)(kind:Int)(hl:l.length≤9223372036854775807)(hc:c.fs.length≤1000)(ha:a≤l.length):
  SCalls Tryz.prog g 83 [.ptr 1000 0,I kind] [mkC l c a] (nv (fieldM l c.fs kind a).1) [mkC l c (fieldM l c.fs kind a).2]:=by
 have HB:=next6_ok g l c a hl ha;have n255:=nx_255 l a;unfold fieldM;simp only[];unfold mkC at*;generalize(nxB l a).2=b at*;generalize(nxB l a).1=n at*;obtain⟨R,hR⟩:∃R,fieldW c.fs kind n=R:=⟨_,rfl⟩
 rw[hR];unfold nv;refine z14 hmix tf_11 rfl rfl rfl ?_;simp only[vcA,seval,vV];(with_reducible apply v_call);exact kv;rfl;exact HB;exact km;exact kv;simp only[vcA,seval,vV];refine v_loop (σ:={i:Nat // i≤c.fs.length∧∀j,j<i→((c.fs.getD ((j+n)%c.fs.length) fld0).t.k==kind)=false}) (fun i=>⟨[(0,.ptr 1000 0),(1,I kind),(4,.ptr 4 0),(5,I (n:Int)),(6,I (i.1:Int))],
   [(1000,[.pv (.sl 1 (byR l)),I (b:Int),S (str c.n),.pv (.sl 4 (flR c.fs))]),(4,[I 0,I 0,S ⟨#[]⟩,.pv (.v (.slice none 0 0))])],[],[]⟩) (fun i=>c.fs.length-i.1) ⟨0,Nat.zero_le _,fun j h=>absurd h (by omega)⟩ ?_ ?_
 ·apply lw_of<;>simp[leL,lk,sv,Nat.beq,I,S,ES.kill,has,drp,nilT]
 rintro⟨i,hi,hno⟩;by_cases hlt:i<c.fs.length
 ·have d1:(i:Int)<(c.fs.length:Int):=by omega
  have w1:IntKind.i64.wrap ((i:Int)+(n:Int))=((i+n:Nat):Int):=by rw[wrap64 (by omega) (by omega)];omega
  have w2:IntKind.i64.wrap ((i:Int)+1)=((i+1:Nat):Int):=by rw[wrap64 (by omega) (by omega)];omega
  have hm:((i+n:Nat):Int).tmod (c.fs.length:Int)=(((i+n)%c.fs.length:Nat):Int):=(Int.ofNat_tmod _ _).symm;have hlm:=Nat.mod_lt (i+n) (show 0<c.fs.length by omega);have hne:¬(c.fs.length:Int)=0:=by omega
  obtain⟨f,ef⟩:∃f,c.fs[(i+n)%c.fs.length]?=some f:=⟨_,gE hlm⟩
  have hg:c.fs.getD ((i+n)%c.fs.length) fld0=f:=z38 ef;by_cases hk:f.t.k=kind
  ·have hf:(List.range c.fs.length).find? (fun i=>(c.fs.getD ((i+n)%c.fs.length) fld0).t.k==kind)=some i:=find_at hlt (by rw[hg,hk];exact beq_self_eq_true _) hno;unfold fieldW at hR;rw[hf]at hR;simp only[hg]at hR;subst hR;simp only[vcA,seval,vV,clV,d1,w1,hm,ef,hk,hne]
  ·simp only[vcA,seval,vV,clV,d1,w1,w2,hm,ef,hk,hne];refine z11 ⟨i+1,by omega,fun j hj=>by
    rcases Nat.lt_or_ge j i with h|h
    ·exact hno j h
    ·obtain rfl:j=i:=by omega
     rw[hg];exact beq_eq_false_iff_ne.2 hk⟩ (by show c.fs.length-(i+1)<c.fs.length-i;omega) ?_
   apply lw_of<;>simp[leL,lk,sv,Nat.beq,I,S,ES.kill,has,drp,nilT]
 ·have d1:¬(i:Int)<(c.fs.length:Int):=by omega
  obtain rfl:i=c.fs.length:=by omega
  unfold fieldW at hR;rw[find_no hno]at hR;simp only at hR;by_cases h1:kind=1
  ·rw[if_pos h1]at hR;subst hR;simp only[vcA,seval,vV,clV,d1,h1];rfl
  ·rw[if_neg h1]at hR;have h4:=Nat.mod_lt n (show 0<4 by omega);have hx4:(n:Int).tmod 4=((n%4:Nat):Int):=mod_i _ rfl;subst hR;generalize n%4=i at*;have e1:=txF_at h4;simp only[vcA,seval,vV,clV,d1,h1,hx4,e1]
theorem pick4_ok(g:Sh.Glob)(c n:Int)(hc:I64 c)(hn:0<n):SCalls Tryz.prog g 72 [I c,I n] [] (I (Go.Mor.pick c n)) []:=by
 obtain⟨h0,h1⟩:=hc;refine z7 hmix tf_73 rfl ?_;have hne:¬n=0:=by omega
 unfold Go.Mor.pick;by_cases hneg:c<0
 ·rw[if_pos hneg];have w1:IntKind.i64.wrap (c+1)=c+1:=wrap64 (by omega) (by omega);have w2:IntKind.i64.wrap (0-(c+1))= -(c+1):=by rw[wrap64 (by omega) (by omega)];omega
  have hm:(-(c+1)).tmod n=(-(c+1))%n:=Int.tmod_eq_emod_of_nonneg (by omega);simp only[vcA,seval,vV,hneg,hne,w1,w2,hm]
 ·rw[if_neg hneg];have hm:c.tmod n=c%n:=Int.tmod_eq_emod_of_nonneg (by omega);simp only[vcA,seval,vV,hneg,hne,hm]
theorem txts_at{i:Nat}(h:i<8):([[PV.v (.string ⟨#[]⟩)],[.v (.string ⟨#[97]⟩)],[.v (.string ⟨#[98,99]⟩)],[.v (.string ⟨#[195,169,116,195,169]⟩)],[.v (.string ⟨#[97,32,98]⟩)],[.v (.string ⟨#[122,122,32,116,111,112]⟩)],[.v (.string ⟨#[48]⟩)],[.v (.string ⟨#[45,55]⟩)]]:List (List PV))[i]?=some [.v (.string (str (txts (i:Int))))]:=by
 have:i=0∨i=1∨i=2∨i=3∨i=4∨i=5∨i=6∨i=7:=by omega
 rcases this with rfl|rfl|rfl|rfl|rfl|rfl|rfl|rfl<;>rfl
theorem z124(k n many:Int):(mkVal1 k n many).l=[]:=by
 unfold mkVal1
 repeat' split
 all_goals rfl
theorem valOf1_ok(g:Sh.Glob)(t:Ty)(n many:Int)(ht:1≤t.k∧t.k≤4)(hn:I64 n)(hm:1≤many∧many≤100000):SCalls Tryz.prog g 73 [tyT t,I n,I many] [] (nv (mkVal1 t.k n many)) []:=by
 obtain⟨k,o⟩:=t;simp only at ht;have hk:k=1∨k=2∨k=3∨k=4:=by omega
 unfold mkVal1;unfold tyT;simp only[];have h34:∀j:Int,(j=3∨j=4)→SCalls Tryz.prog g 73 [.agg [I j,I o],I n,I many] [] (nv (if many<1∨Go.Mor.pick n 5=4 then V.nil else .mk j (1+Go.Mor.pick n many) [] [])) []:=by
  intro j hj;have P5:=pick4_ok g n 5 hn (by decide);have PM:=pick4_ok g n many hn (by omega);have hb:=z26 n many (by omega);have d1:¬many<1:=by omega
  have w1:IntKind.i64.wrap (1+Go.Mor.pick n many)=1+Go.Mor.pick n many:=wrap64 (by omega) (by omega);refine z7 hmix tf_71 rfl ?_;unfold nv;generalize Go.Mor.pick n many=b at*;generalize Go.Mor.pick n 5=a at*;by_cases h4:a=4
  ·rw[if_pos (.inr h4)];rcases hj with rfl|rfl
   ·simp only[vcA,seval,vV,d1];(with_reducible apply v_call);exact kv;rfl;exact P5;exact km;exact kv;simp only[vcA,seval,vV,h4];rfl
   ·simp only[vcA,seval,vV,d1];(with_reducible apply v_call);exact kv;rfl;exact P5;exact km;exact kv;simp only[vcA,seval,vV,h4];rfl
  ·rw[if_neg (fun h=>h.elim (fun h=>by omega) h4)];rcases hj with rfl|rfl
   ·simp only[vcA,seval,vV,d1];(with_reducible apply v_call);exact kv;rfl;exact P5;exact km;exact kv;simp only[vcA,seval,vV,h4];(with_reducible apply v_call);exact kv;rfl;exact PM;exact km;exact kv;simp only[vcA,seval,vV,w1];rfl
   ·simp only[vcA,seval,vV,d1];(with_reducible apply v_call);exact kv;rfl;exact P5;exact km;exact kv;simp only[vcA,seval,vV,h4];(with_reducible apply v_call);exact kv;rfl;exact PM;exact km;exact kv;simp only[vcA,seval,vV,w1];rfl
 rcases hk with rfl|rfl|rfl|rfl
 ·have P:=pick4_ok g n 41 hn (by decide);have hb:=z26 n 41 (by decide);have w1:IntKind.i64.wrap (Go.Mor.pick n 41-20)=Go.Mor.pick n 41-20:=wrap64 (by omega) (by omega);rw[if_pos rfl];generalize Go.Mor.pick n 41=b at*;refine z7 hmix tf_71 rfl ?_;unfold nv;simp only[vcA,seval,vV];(with_reducible apply v_call);exact kv;rfl;exact P;exact km;exact kv;simp only[vcA,seval,vV,w1];rfl
 ·have P:=pick4_ok g n 8 hn (by decide);have hb:=z26 n 8 (by decide);rw[if_neg (show ¬(2:Int)=1 by decide),if_pos rfl];obtain⟨i,hi⟩:=Int.eq_ofNat_of_zero_le hb.1;rw[hi]at P hb ⊢;have e1:=txts_at (i:=i) (by omega);refine z7 hmix tf_71 rfl ?_;unfold nv;simp only[vcA,seval,vV];(with_reducible apply v_call);exact kv;rfl;exact P;exact km;exact kv;simp only[vcA,seval,vV,e1]
 ·rw[if_neg (show ¬(3:Int)=1 by decide),if_neg (show ¬(3:Int)=2 by decide)];exact h34 3 (.inl rfl)
 ·rw[if_neg (show ¬(4:Int)=1 by decide),if_neg (show ¬(4:Int)=2 by decide)];exact h34 4 (.inr rfl)
end Go.Proofs.YtmiokadmddjccaaGreatDoor
end

section
namespace Go.Mor
open Go Go.RowKit
set_option maxHeartbeats 1000000
theorem z151{fs:List Fld}{l:List Int}{many:Int}{i:Nat}{f:Fld}(h:fs[i]?=some f):(mkVals fs l many)[i]?=some (mkVal f.t (rawN l i) many):=by unfold mkVals;rw[List.getElem?_mapIdx,h];rfl
theorem z43(fs:List Fld)(l:List Int)(many:Int):(mkVals fs l many).length=fs.length:=by unfold mkVals;exact List.length_mapIdx
theorem GoodC.type{c:Cls}(h:GoodC c){f:Fld}(hf:f∈c.fs):z27 f.t=true:=by
 have:=(h.fs f hf).1;unfold z28 at this;simp only[Bool.and_eq_true]at this;exact this.1.2
theorem vals_fit{c:Cls}(h:GoodC c)(l:List Int){many:Int}(hm:many≤100000){i:Nat}{f:Fld}{v:V}(hf:c.fs[i]?=some f)(hv:(mkVals c.fs l many)[i]?=some v):fitsV v f.t=true:=by
 rw[z151 hf]at hv;cases hv;exact(fits_mkVal f.t _ many (h.type (gM hf)) hm).1
theorem vals_check{c:Cls}(h:GoodC c)(l:List Int){many:Int}(hm:many≤100000):check c (mkVals c.fs l many)=(0,0):=
 check_ok h.right (z43 ..) fun _ _ _ hf hv=>vals_fit h l hm hf hv
end Go.Mor
end

section
namespace Go.Mor
open Go Go.RowKit
set_option maxHeartbeats 2000000
theorem fit_all{c:Cls}(h:GoodC c){vals:List V}(hl:vals.length=c.fs.length)(hf:∀(i:Nat) f v,c.fs[i]?=some f→vals[i]?=some v→fitsV v f.t=true):FitAll c.fs vals:=⟨fun _ hf=>h.type hf,hl,hf⟩
theorem made_type{c:Cls}(h:GoodC c)(l:List UInt8){kind:Int}(hk:kind=1∨kind=2):typeA c (exprOf l c.fs kind)=(⟨kind,0⟩,0):=by
 obtain⟨h1,h2,_⟩:=z57 h l hk;unfold typeA;rw[if_pos h1,if_pos h.right,h2];rfl
theorem made_eval{c:Cls}(h:GoodC c)(l:List UInt8){kind:Int}(hk:kind=1∨kind=2){vals:List V}(hc:check c vals=(0,0)):evalA c vals (exprOf l c.fs kind)=(worthV c.fs vals 8 (exprOf l c.fs kind),0):=by
 unfold evalA;rw[made_type h l hk,hc];rfl
theorem made_fits{c:Cls}(h:GoodC c)(l:List UInt8){kind:Int}(hk:kind=1∨kind=2){vals:List V}(hf:FitAll c.fs vals):fitsV (worthV c.fs vals 8 (exprOf l c.fs kind)) ⟨kind,0⟩=true:=by
 obtain⟨h1,h2,h3,_⟩:=z57 h l hk;exact fits_worth hf 8 _ _ (ok_more 8 (by omega) h3) h2
end Go.Mor
end

section
namespace Go.Proofs.YtmiokadmddjccaaGreatDoor
open Go Go.RowKit Go.Mor Go.Sh
set_option maxHeartbeats 2000000
theorem good_ok{c:Cls}(h:GoodC c):ClsOk c:=
 ⟨by have:=h.nm.2;unfold Short;omega,fun f hf=>by have:=(h.fs f hf).2;unfold Short;omega,by have:=h.len;omega⟩
theorem vok_60{v:V}(h1:v.s.length≤60)(h2:∀y∈v.l,y.s.length≤60):VOk v:=⟨by unfold z59;omega,fun y hy=>by have:=h2 y hy;unfold z59;omega⟩
theorem mk_few{t:Ty}{n many:Int}(ht:z27 t=true)(hm:many≤100000):VFew (mkVal t n many)∧VOk (mkVal t n many):=by
 obtain⟨_,h1,h2⟩:=fits_mkVal t n many ht hm;refine⟨?_,vok_60 h1 h2⟩;unfold mkVal;split
 ·have hb:=z26 n 4 (by decide);refine .mk (by rw[List.length_map,List.length_range];omega) fun y hy=> ?_;obtain⟨i,_,rfl⟩:=List.mem_map.1 hy;exact few0 (z124 _ _ _)
 ·exact few0 (z124 _ _ _)
theorem vals_few{c:Cls}(h:GoodC c)(l:List Int){many:Int}(hm:many≤100000):∀v∈mkVals c.fs l many,VFew v∧VOk v:=by
 intro v hv;obtain⟨i,hi⟩:=List.getElem?_of_mem hv;have hl:=(gJ hi).1;rw[z43]at hl;have hf:c.fs[i]?=some (c.fs[i]):=gE hl;rw[z151 hf]at hi;cases hi;exact mk_few (h.type (gM hf)) hm
theorem fits_12{v:V}{kind:Int}(hk:kind=1∨kind=2)(h:fitsV v ⟨kind,0⟩=true):v.l=[]∧v.s.length≤60:=by
 unfold fitsV ofKind at h;simp only[Bool.and_eq_true,Bool.or_eq_true,beq_iff_eq]at h;obtain⟨⟨⟨hr,_⟩,ho⟩,_⟩:=h;have hkk:v.k=1∨v.k=2:=by rcases ho with h|⟨_,h|h⟩<;>omega
 unfold rightV at hr;rw[if_neg (by omega)]at hr;unfold right1 bare z10 at hr;rcases hkk with e|e
 ·rw[if_neg (by omega),if_pos e]at hr;simp only[Bool.and_eq_true,beq_iff_eq,List.length_eq_zero_iff]at hr;exact⟨hr.1.1.2,by rw[hr.1.1.1];simp⟩
 ·rw[if_neg (by omega),if_neg (by omega),if_pos e]at hr;simp only[Bool.and_eq_true,beq_iff_eq,List.length_eq_zero_iff,decide_eq_true_eq]at hr;exact⟨hr.1.2,hr.2.1⟩
end Go.Proofs.YtmiokadmddjccaaGreatDoor
end

section
namespace Go.Proofs.YtmiokadmddjccaaGreatDoor
open Go Go.RowKit Go.Mor Go.Sh Go.Sh.Cd1 Go.Sh.Cd5
set_option maxRecDepth 100000
set_option maxHeartbeats 8000000
theorem mu_rng{i:Nat}(h:i<4):0≤muM.getD i 0∧muM.getD i 0≤1000000000000:=by
 have:i=0∨i=1∨i=2∨i=3:=by omega
 rcases this with rfl|rfl|rfl|rfl<;>decide
theorem mu_mul{x:Nat}{u:Int}(hx:x<256)(h0:0≤u)(h1:u≤1000000000000):IntKind.i64.wrap ((x:Int)*u)=(x:Int)*u:=by
 have a0:0≤(x:Int)*u:=Int.mul_nonneg (by omega) h0;have a1:(x:Int)*u≤255*1000000000000:=Int.mul_le_mul (by omega) h1 h0 (by omega);exact wrap64 (by omega) (by omega)
theorem V_rows1(v:V):V.rows [v]=[[PV.v (.int .i64 v.k),.v (.int .i64 v.n),.v (.string (str v.s)),.sl 4 (V.rows v.l)]]:=by rw[show V.rows [v]=[V.row v] from rfl,row4]
theorem V_rows2(v w:V):V.rows [v,w]=[[PV.v (.int .i64 v.k),.v (.int .i64 v.n),.v (.string (str v.s)),.sl 4 (V.rows v.l)],[PV.v (.int .i64 w.k),.v (.int .i64 w.n),.v (.string (str w.s)),.sl 4 (V.rows w.l)]]:=by rw[show V.rows [v,w]=[V.row v,V.row w] from rfl,row4,row4]
section
variable{g:Sh.Glob}{l:List UInt8}
theorem mu_at{i:Nat}(h:i<4):([[PV.v (.int .i64 1)],[.v (.int .i64 1)],[.v (.int .i64 1000)],[.v (.int .i64 1000000000000)]]:List (List PV))[i]?=some [.v (.int .i64 (muM.getD i 0))]:=by
 have:i=0∨i=1∨i=2∨i=3:=by omega
 rcases this with rfl|rfl|rfl|rfl<;>rfl
end
end Go.Proofs.YtmiokadmddjccaaGreatDoor
end

section
namespace Go.Proofs.YtmiokadmddjccaaGreatDoor
open Go Go.RowKit Go.Mor Go.Sh Go.Sh.Cd1 Go.Sh.Cd6
set_option maxRecDepth 100000
set_option maxHeartbeats 8000000
def TreeOk6(g:Sh.Glob)(l:List UInt8)(c:Cls)(d:Nat):Prop:=∀kind a,(kind=1∨kind=2)→a≤l.length→SCalls Tryz.prog g 82 [.ptr 1000 0,I kind,I (d:Int)] [mkC l c a] (tv (treeM l c.fs d kind a).1) [mkC l c (treeM l c.fs d kind a).2]
def ksOf(p:List UInt8):List Int:=p.map fun b=>if(b.toNat:Int)=116 then 2 else 1
section
variable{g:Sh.Glob}{l:List UInt8}{c:Cls}
theorem mcall6_ok(d:Nat)(hd:d≤4)(T:TreeOk6 g l c d)(hle:∀kind a,a≤l.length→(treeM l c.fs d kind a).2≤l.length)(s p:List UInt8)(hp:p.length≤3)(a:Nat)(ha:a≤l.length):
  SCalls Tryz.prog g 137 [.ptr 1000 0,S (str s),S (str p),I ((d+1:Nat):Int)] [mkC l c a] (tv (Go.Mor.callM (treeM l c.fs d) s (ksOf p) a).1) [mkC l c (Go.Mor.callM (treeM l c.fs d) s (ksOf p) a).2]:=by
 have wd:IntKind.i64.wrap (((d+1:Nat):Int) - 1)=(d:Int):=by rw[wrap64 (by omega) (by omega)];omega
 unfold TreeOk6 mkC tv at*;unfold Go.Mor.callM;obtain⟨K,hK⟩:∃K,partsM (treeM l c.fs d) (ksOf p) a=K:=⟨_,rfl⟩
 rw[hK];refine z14 hmix tf_10 rfl rfl rfl ?_;simp only[vcA,seval,vV];refine v_loop (σ:={y:Nat×Nat×List V // y.1≤p.length∧y.2.1≤l.length∧y.2.2.length=y.1∧y.2.2++(partsM (treeM l c.fs d) (ksOf (p.drop y.1)) y.2.1).1=K.1∧(partsM (treeM l c.fs d) (ksOf (p.drop y.1)) y.2.1).2=K.2})
  (fun y=>⟨[(0,.ptr 1000 0),(2,S (str p)),(3,I ((d+1:Nat):Int)),(8,.ptr 8 0),(9,.ptr 9 0),(10,I (y.1.1:Int))],[(1000,[.pv (.sl 1 (byR l)),I (y.1.2.1:Int),S (str c.n),.pv (.sl 4 (flR c.fs))]),(8,[I 0,I 0,S ⟨#[]⟩,.pv (.v (.slice none 0 0))]),(9,[I 6,I 0,S (str s),.own 3000 4 (V.rows y.1.2.2)])],[(3000,(26,4,y.1.1))],[]⟩) (fun y=>p.length-y.1.1)
  ⟨(0,a,[]),Nat.zero_le _,ha,rfl,by simp only[List.drop_zero,hK];rfl,by simp only[List.drop_zero,hK]⟩ ?_ ?_
 ·refine ES.Lw.trans ?_ (adB_lw (x:=9) (j:=3) (d:=3000) (e:=26) (W:=4) (.inr (by decide)) (by decide) rfl (by simp only[vcA,seval]) rfl);exact lw_eq rfl
 rintro⟨⟨j,b,acc⟩,hj,hc,hacc,hk1,hk2⟩;simp only at hj hc hacc hk1 hk2;by_cases hlt:j<p.length
 ·have d1:(j:Int)<(p.length:Int):=by omega
  obtain⟨x,ex⟩:∃x,p[j]?=some x:=⟨_,gE hlt⟩
  have hdr:p.drop j=x::p.drop (j+1):=by rw[List.drop_eq_getElem_cons hlt];congr 1;exact(gJ ex).2
  rw[hdr]at hk1 hk2;have w1:IntKind.i64.wrap ((j:Int)+1)=((j+1:Nat):Int):=by rw[wrap64 (by omega) (by omega)];omega
  have hacc':(V.rows acc).length=j:=by rw[rowsLen,hacc]
  unfold ksOf at hk1 hk2;rw[List.map_cons]at hk1 hk2;unfold partsM at hk1 hk2;simp only at hk1 hk2;by_cases hx:(x.toNat:Int)=116
  ·rw[if_pos hx]at hk1 hk2;have HT:=T 2 b (.inr rfl) hc;have hcl:=hle 2 b hc;simp only[vcA,seval,vV,d1,wd,ex,hx];(with_reducible apply v_call);exact kv;rfl;exact HT;exact km;exact kv;simp only[vcA,seval,vV,hacc,w1];refine⟨⟨by omega,by unfold maxLen;omega⟩,z11 ⟨(j+1,(treeM l c.fs d 2 b).2,acc++[(treeM l c.fs d 2 b).1]),hlt,hcl,by simp[hacc],by simp only;rw[List.append_assoc];exact hk1,hk2⟩ (by show p.length-(j+1)<p.length-j;omega) ?_⟩;simp only[z39];apply lw_of<;>simp[leL,lk,sv,Nat.beq,I,S,ES.kill,has,drp,nilT]
  ·rw[if_neg hx]at hk1 hk2;have HT:=T 1 b (.inl rfl) hc;have hcl:=hle 1 b hc;simp only[vcA,seval,vV,d1,wd,ex,hx];(with_reducible apply v_call);exact kv;rfl;exact HT;exact km;exact kv;simp only[vcA,seval,vV,hacc,w1];refine⟨⟨by omega,by unfold maxLen;omega⟩,z11 ⟨(j+1,(treeM l c.fs d 1 b).2,acc++[(treeM l c.fs d 1 b).1]),hlt,hcl,by simp[hacc],by simp only;rw[List.append_assoc];exact hk1,hk2⟩ (by show p.length-(j+1)<p.length-j;omega) ?_⟩;simp only[z39];apply lw_of<;>simp[leL,lk,sv,Nat.beq,I,S,ES.kill,has,drp,nilT]
 ·have d1:¬(j:Int)<(p.length:Int):=by omega
  obtain rfl:j=p.length:=by omega
  rw[List.drop_length]at hk1 hk2;unfold ksOf at hk1 hk2;rw[List.map_nil]at hk1 hk2;unfold partsM at hk1 hk2;simp only[List.append_nil]at hk1 hk2;simp only[vcA,seval,vV,d1];rw[←hk1,←hk2]
theorem two6_ok(d:Nat)(hd:d≤4)(T:TreeOk6 g l c d)(hle:∀kind a,a≤l.length→(treeM l c.fs d kind a).2≤l.length)(s:List UInt8)(k:Int)(hk:k=1∨k=2)(a:Nat)(ha:a≤l.length):
  SCalls Tryz.prog g 138 [.ptr 1000 0,S (str s),I k,I ((d+1:Nat):Int)] [mkC l c a] (tv (twoM (treeM l c.fs d) s k a).1) [mkC l c (twoM (treeM l c.fs d) s k a).2]:=by
 have wd:IntKind.i64.wrap (((d+1:Nat):Int) - 1)=(d:Int):=by rw[wrap64 (by omega) (by omega)];omega
 have HT1:=T k a hk ha;have HT2:=T k _ hk (hle k a ha);unfold mkC tv at*;unfold twoM;refine z14 hmix tf_14 rfl rfl rfl ?_;simp only[vcA,seval,vV,wd];(with_reducible apply v_call);exact kv;rfl;exact HT1;exact km;exact kv;simp only[vcA,seval,vV,wd];(with_reducible apply v_call);exact kv;rfl;exact HT2;exact km;exact kv;simp only[vcA,seval,vV,V_rows2]
end
end Go.Proofs.YtmiokadmddjccaaGreatDoor
end

section
namespace Go.Proofs.YtmiokadmddjccaaGreatDoor
open Go Go.RowKit Go.Mor Go.Sh Go.Sh.Cd1 Go.Sh.Cd6
set_option maxRecDepth 100000
set_option maxHeartbeats 16000000
theorem txT_at{i:Nat}(h:i<6):([[PV.v (.string ⟨#[]⟩)],[.v (.string ⟨#[97]⟩)],[.v (.string ⟨#[98,32,99]⟩)],[.v (.string ⟨#[195,169,116,195,169]⟩)],[.v (.string ⟨#[45,55]⟩)],[.v (.string ⟨#[122,122]⟩)]]:List (List PV))[i]?=some [.v (.string (str (txT.getD i [])))]:=by
 have:i=0∨i=1∨i=2∨i=3∨i=4∨i=5:=by omega
 rcases this with rfl|rfl|rfl|rfl|rfl|rfl<;>rfl
theorem cl3_at{i:Nat}(h:i<3):([[PV.v (.string ⟨#[108,101,102,116]⟩)],[.v (.string ⟨#[114,105,103,104,116]⟩)],[.v (.string ⟨#[102,114,111,109]⟩)]]:List (List PV))[i]?=some [.v (.string (str (cl3.getD i [])))]:=by
 have:i=0∨i=1∨i=2:=by omega
 rcases this with rfl|rfl|rfl<;>rfl
theorem cl2_at{i:Nat}(h:i<2):([[PV.v (.string ⟨#[108,101,110]⟩)],[.v (.string ⟨#[110,117,109]⟩)]]:List (List PV))[i]?=some [.v (.string (str (cl2.getD i [])))]:=by
 have:i=0∨i=1:=by omega
 rcases this with rfl|rfl<;>rfl
theorem clMM_at{i:Nat}(h:i<2):([[PV.v (.string ⟨#[109,105,110]⟩)],[.v (.string ⟨#[109,97,120]⟩)]]:List (List PV))[i]?=some [.v (.string (str (clMM.getD i [])))]:=by
 have:i=0∨i=1:=by omega
 rcases this with rfl|rfl<;>rfl
theorem cmpM_at{i:Nat}(h:i<6):([[PV.v (.string ⟨#[61]⟩)],[.v (.string ⟨#[60,62]⟩)],[.v (.string ⟨#[60]⟩)],[.v (.string ⟨#[60,61]⟩)],[.v (.string ⟨#[62]⟩)],[.v (.string ⟨#[62,61]⟩)]]:List (List PV))[i]?=some [.v (.string (str (cmpM.getD i [])))]:=by
 have:i=0∨i=1∨i=2∨i=3∨i=4∨i=5:=by omega
 rcases this with rfl|rfl|rfl|rfl|rfl|rfl<;>rfl
theorem sumM_at{i:Nat}(h:i<5):([[PV.v (.string ⟨#[43]⟩)],[.v (.string ⟨#[45]⟩)],[.v (.string ⟨#[42]⟩)],[.v (.string ⟨#[47]⟩)],[.v (.string ⟨#[37]⟩)]]:List (List PV))[i]?=some [.v (.string (str (sumM.getD i [])))]:=by
 have:i=0∨i=1∨i=2∨i=3∨i=4:=by omega
 rcases this with rfl|rfl|rfl|rfl|rfl<;>rfl
theorem fieldW_l(fs:List Fld)(k:Int)(n:Nat):(fieldW fs k n).l=[]:=by
 unfold fieldW;split
 ·rfl
 ·split<;>rfl
theorem mk_qt:(⟨#[116,101,120,116]⟩:ByteArray)=str nText:=rfl
theorem mk_qi:(⟨#[105,102]⟩:ByteArray)=str nIf:=rfl
theorem mk_qf:(⟨#[102,105,110,100]⟩:ByteArray)=str nFind:=rfl
theorem mk_q38:(⟨#[38]⟩:ByteArray)=str [38]:=rfl
theorem mk_q45:(⟨#[45]⟩:ByteArray)=str [45]:=rfl
theorem mk_p1:(⟨#[110]⟩:ByteArray)=str [110]:=rfl
theorem mk_p2:(⟨#[116,110]⟩:ByteArray)=str [116,110]:=rfl
theorem mk_p3:(⟨#[110,116,116]⟩:ByteArray)=str [110,116,116]:=rfl
theorem mk_p4:(⟨#[116]⟩:ByteArray)=str [116]:=rfl
theorem mk_p5:(⟨#[116,116]⟩:ByteArray)=str [116,116]:=rfl
theorem mk_p6:(⟨#[110,110]⟩:ByteArray)=str [110,110]:=rfl
theorem mk_p7:(⟨#[110,110,110]⟩:ByteArray)=str [110,110,110]:=rfl
section
variable{g:Sh.Glob}{l:List UInt8}{c:Cls}
theorem partsM_le{t:Int→Nat→V×Nat}{N:Nat}(h:∀k a,a≤N→(t k a).2≤N):∀(ks:List Int) (a:Nat),a≤N→(partsM t ks a).2≤N
 |[],a,ha=>ha
 |k::r,a,ha=>by unfold partsM;exact partsM_le h r _ (h k a ha)
theorem treeM_le(fs:List Fld):∀(d:Nat) (kind:Int) (a:Nat),a≤l.length→(treeM l fs d kind a).2≤l.length
 |0,kind,a,ha=>nx_le ha
 |d+1,kind,a0,ha=>by
  have ih:=fun k a h=>treeM_le fs d k a h;have h1:=nx_le (l:=l) ha;have h2:=nx_le h1;have h3:=nx_le h2;have hp:=fun ks a h=>partsM_le (N:=l.length) ih ks a h;have h4:=nx_le h3;unfold treeM;simp only[];generalize(if d=0 then(nxB l a0).1%2 else(nxB l a0).1)=k;split
  ·(repeat' split)
   ·exact h2
   ·exact h2
   ·exact hp _ _ h1
   ·exact hp _ _ h2
   ·exact hp _ _ h1
   ·exact ih _ _ (ih _ _ h1)
  ·(repeat' split)
   ·exact h2
   ·exact h3
   ·exact ih _ _ h1
   ·exact hp _ _ h2
   ·exact hp _ _ h1
   ·exact hp _ _ h2
   ·exact hp _ _ h1
   ·exact ih _ _ (ih _ _ h3)
   ·exact ih _ _ (ih _ _ h2)
theorem tree6_text(d:Nat)(hd:d≤4)(hl:l.length≤9223372036854775807)(hc:c.fs.length≤1000)(IH:d=0∨TreeOk6 g l c d)(a0:Nat)(ha:a0≤l.length):
  SCalls Tryz.prog g 82 [.ptr 1000 0,I 2,I ((d+1:Nat):Int)] [mkC l c a0] (tv (treeM l c.fs (d+1) 2 a0).1) [mkC l c (treeM l c.fs (d+1) 2 a0).2]:=by
 have HB0:=next6_ok g l c a0 hl ha;have h1:=nx_le (l:=l) ha;have k255:=nx_255 l a0;have wd:IntKind.i64.wrap (((d+1:Nat):Int) - 1)=(d:Int):=by rw[wrap64 (by omega) (by omega)];omega
 have hle:=fun k a h=>treeM_le (l:=l) c.fs d k a h;unfold treeM;simp only[];generalize(nxB l a0).2=a at*;generalize(nxB l a0).1=x at*;have HF:=field6_ok g l c a 2 hl hc h1;have HB:=next6_ok g l c a hl h1;have h2:=nx_le h1;have b255:=nx_255 l a;have HB2:=next6_ok g l c _ hl h2;have h3:=nx_le h2;have HB3:=next6_ok g l c _ hl h3;have h4:=nx_le h3;unfold mkC at HF HB HB0 HB2 HB3 ⊢;rw[if_pos (by decide)];by_cases h:d=0
 ·have dd:((d+1:Nat):Int)≤1:=by omega
  have hr2:(x:Int).tmod 2=((x%2:Nat):Int):=mod_i _ rfl;have x2:=Nat.mod_lt x (show 0<2 by omega);rw[if_pos h];generalize x%2=y at*;have hm:(y:Int).tmod 8=((y%8:Nat):Int):=mod_i _ rfl;by_cases e0:y%8=0
  ·have c0:((y%8:Nat):Int)=0:=by omega
   rw[if_pos e0];refine SCalls.out ?_ (nv_tv (fieldW_l _ _ _));unfold nv at HF ⊢;refine z14 hmix tf_13 rfl rfl rfl ?_;simp only[vcA,seval,vV];(with_reducible apply v_call);exact kv;rfl;exact HB0;exact km;exact kv;simp only[vcA,seval,vV,dd,hr2,hm,c0];(with_reducible apply v_call);exact kv;rfl;exact HF;exact km;exact kv;simp only[vcA,seval,vV]
  have c0:¬((y%8:Nat):Int)=0:=by omega
  rw[if_neg e0];by_cases e1:y%8=1
  ·have c1:((y%8:Nat):Int)=1:=by omega
   rw[if_pos e1];refine SCalls.out ?_ (nv_tv rfl);unfold nv;have hn:=Nat.mod_lt (nxB l a).1 (show 0<6 by omega);have hx:((nxB l a).1:Int).tmod 6=(((nxB l a).1%6:Nat):Int):=mod_i _ rfl;refine z14 hmix tf_13 rfl rfl rfl ?_;simp only[vcA,seval,vV];(with_reducible apply v_call);exact kv;rfl;exact HB0;exact km;exact kv;simp only[vcA,seval,vV,dd,hr2,hm,c0,c1];(with_reducible apply v_call);exact kv;rfl;exact HB;exact km;exact kv;generalize(nxB l a).1%6=i at*;have e1':=txT_at hn;simp only[vcA,seval,vV,hx,e1']
  have c1:¬((y%8:Nat):Int)=1:=by omega
  rw[if_neg e1];exact absurd x2 (by have:y%8=y:=Nat.mod_eq_of_lt (by omega);omega)
 ·have dd:¬((d+1:Nat):Int)≤1:=by omega
  have TT:=IH.resolve_left h;rw[if_neg h];have hm:(x:Int).tmod 8=((x%8:Nat):Int):=mod_i _ rfl;by_cases e0:x%8=0
  ·have c0:((x%8:Nat):Int)=0:=by omega
   rw[if_pos e0];refine SCalls.out ?_ (nv_tv (fieldW_l _ _ _));unfold nv at HF ⊢;refine z14 hmix tf_13 rfl rfl rfl ?_;simp only[vcA,seval,vV];(with_reducible apply v_call);exact kv;rfl;exact HB0;exact km;exact kv;simp only[vcA,seval,vV,dd,hm,c0];(with_reducible apply v_call);exact kv;rfl;exact HF;exact km;exact kv;simp only[vcA,seval,vV]
  have c0:¬((x%8:Nat):Int)=0:=by omega
  rw[if_neg e0];by_cases e1:x%8=1
  ·have c1:((x%8:Nat):Int)=1:=by omega
   rw[if_pos e1];refine SCalls.out ?_ (nv_tv rfl);unfold nv;have hn:=Nat.mod_lt (nxB l a).1 (show 0<6 by omega);have hx:((nxB l a).1:Int).tmod 6=(((nxB l a).1%6:Nat):Int):=mod_i _ rfl;refine z14 hmix tf_13 rfl rfl rfl ?_;simp only[vcA,seval,vV];(with_reducible apply v_call);exact kv;rfl;exact HB0;exact km;exact kv;simp only[vcA,seval,vV,dd,hm,c0,c1];(with_reducible apply v_call);exact kv;rfl;exact HB;exact km;exact kv;generalize(nxB l a).1%6=i at*;have e1':=txT_at hn;simp only[vcA,seval,vV,hx,e1']
  have c1:¬((x%8:Nat):Int)=1:=by omega
  rw[if_neg e1];by_cases e2:x%8=2
  ·have c2:((x%8:Nat):Int)=2:=by omega
   rw[if_pos e2];have HM:=mcall6_ok (g:=g) (c:=c) d hd TT hle nText [110] (by decide) a h1;rw[show ksOf [110]=[1] from rfl]at HM;unfold mkC tv at HM;unfold tv;refine z14 hmix tf_13 rfl rfl rfl ?_;simp only[vcA,seval,vV];(with_reducible apply v_call);exact kv;rfl;exact HB0;exact km;exact kv;simp only[vcA,seval,vV,dd,hm,c0,c1,c2,mk_qt,mk_p1];(with_reducible apply v_call);exact kv;rfl;exact HM;exact km;exact kv;simp only[vcA,seval,vV]
  have c2:¬((x%8:Nat):Int)=2:=by omega
  rw[if_neg e2];by_cases e3:x%8=3
  ·have c3:((x%8:Nat):Int)=3:=by omega
   rw[if_pos e3];have hn:=Nat.mod_lt (nxB l a).1 (show 0<3 by omega);have hx:((nxB l a).1:Int).tmod 3=(((nxB l a).1%3:Nat):Int):=mod_i _ rfl;generalize hb:(nxB l a).2=bb at*;unfold tv;refine z14 hmix tf_13 rfl rfl rfl ?_;simp only[vcA,seval,vV];(with_reducible apply v_call);exact kv;rfl;exact HB0;exact km;exact kv;simp only[vcA,seval,vV,dd,hm,c0,c1,c2,c3];(with_reducible apply v_call);exact kv;rfl;exact HB;exact km;exact kv;generalize(nxB l a).1%3=i at*;have e1':=cl3_at hn;have HM:=mcall6_ok (g:=g) (c:=c) d hd TT hle (cl3.getD i []) [116,110] (by decide) bb h2;rw[show ksOf [116,110]=[2,1] from rfl]at HM;unfold mkC tv at HM;simp only[vcA,seval,vV,hx,e1',mk_p2];(with_reducible apply v_call);exact kv;rfl;exact HM;exact km;exact kv;simp only[vcA,seval,vV]
  have c3:¬((x%8:Nat):Int)=3:=by omega
  rw[if_neg e3];by_cases e4:x%8=4
  ·have c4:((x%8:Nat):Int)=4:=by omega
   rw[if_pos e4];have HM:=mcall6_ok (g:=g) (c:=c) d hd TT hle nIf [110,116,116] (by decide) a h1;rw[show ksOf [110,116,116]=[1,2,2] from rfl]at HM;unfold mkC tv at HM;unfold tv;refine z14 hmix tf_13 rfl rfl rfl ?_;simp only[vcA,seval,vV];(with_reducible apply v_call);exact kv;rfl;exact HB0;exact km;exact kv;simp only[vcA,seval,vV,dd,hm,c0,c1,c2,c3,c4,mk_qi,mk_p3];(with_reducible apply v_call);exact kv;rfl;exact HM;exact km;exact kv;simp only[vcA,seval,vV]
  have c4:¬((x%8:Nat):Int)=4:=by omega
  rw[if_neg e4];have HM:=two6_ok (g:=g) (c:=c) d hd TT hle [38] 2 (.inr rfl) a h1;unfold mkC tv at HM;unfold tv;refine z14 hmix tf_13 rfl rfl rfl ?_;simp only[vcA,seval,vV];(with_reducible apply v_call);exact kv;rfl;exact HB0;exact km;exact kv;simp only[vcA,seval,vV,dd,hm,c0,c1,c2,c3,c4,mk_q38];(with_reducible apply v_call);exact kv;rfl;exact HM;exact km;exact kv;simp only[vcA,seval,vV]
theorem tree6_num(d:Nat)(hd:d≤4)(hl:l.length≤9223372036854775807)(hc:c.fs.length≤1000)(IH:d=0∨TreeOk6 g l c d)(a0:Nat)(ha:a0≤l.length):
  SCalls Tryz.prog g 82 [.ptr 1000 0,I 1,I ((d+1:Nat):Int)] [mkC l c a0] (tv (treeM l c.fs (d+1) 1 a0).1) [mkC l c (treeM l c.fs (d+1) 1 a0).2]:=by
 have HB0:=next6_ok g l c a0 hl ha;have h1:=nx_le (l:=l) ha;have k255:=nx_255 l a0;have wd:IntKind.i64.wrap (((d+1:Nat):Int) - 1)=(d:Int):=by rw[wrap64 (by omega) (by omega)];omega
 have hle:=fun k a h=>treeM_le (l:=l) c.fs d k a h;unfold treeM;simp only[];generalize(nxB l a0).2=a at*;generalize(nxB l a0).1=x at*;have HF:=field6_ok g l c a 1 hl hc h1;have HB:=next6_ok g l c a hl h1;have h2:=nx_le h1;have b255:=nx_255 l a;have HB2:=next6_ok g l c _ hl h2;have h3:=nx_le h2;have HB3:=next6_ok g l c _ hl h3;have h4:=nx_le h3;unfold mkC at HF HB HB0 HB2 HB3 ⊢;rw[if_neg (by decide)];by_cases h:d=0
 ·have dd:((d+1:Nat):Int)≤1:=by omega
  have hr2:(x:Int).tmod 2=((x%2:Nat):Int):=mod_i _ rfl;have x2:=Nat.mod_lt x (show 0<2 by omega);rw[if_pos h];generalize x%2=y at*;have hm:(y:Int).tmod 10=((y%10:Nat):Int):=mod_i _ rfl;by_cases e0:y%10=0
  ·have c0:((y%10:Nat):Int)=0:=by omega
   rw[if_pos e0];refine SCalls.out ?_ (nv_tv (fieldW_l _ _ _));unfold nv at HF ⊢;refine z14 hmix tf_13 rfl rfl rfl ?_;simp only[vcA,seval,vV];(with_reducible apply v_call);exact kv;rfl;exact HB0;exact km;exact kv;simp only[vcA,seval,vV,dd,hr2,hm,c0];(with_reducible apply v_call);exact kv;rfl;exact HF;exact km;exact kv;simp only[vcA,seval,vV]
  have c0:¬((y%10:Nat):Int)=0:=by omega
  rw[if_neg e0];by_cases e1:y%10=1
  ·have c1:((y%10:Nat):Int)=1:=by omega
   rw[if_pos e1];refine SCalls.out ?_ (nv_tv rfl);unfold nv;have hn:=Nat.mod_lt (nxB l (nxB l a).2).1 (show 0<4 by omega);have hx:((nxB l (nxB l a).2).1:Int).tmod 4=(((nxB l (nxB l a).2).1%4:Nat):Int):=mod_i _ rfl;have hmu:=mu_rng hn;have hw:=mu_mul b255 hmu.1 hmu.2;refine z14 hmix tf_13 rfl rfl rfl ?_;simp only[vcA,seval,vV];(with_reducible apply v_call);exact kv;rfl;exact HB0;exact km;exact kv;simp only[vcA,seval,vV,dd,hr2,hm,c0,c1];(with_reducible apply v_call);exact kv;rfl;exact HB;exact km;exact kv;simp only[vcA,seval,vV];(with_reducible apply v_call);exact kv;rfl;exact HB2;exact km;exact kv;generalize(nxB l (nxB l a).2).1%4=i at*;generalize(nxB l a).1=z at*;have e1':=mu_at hn;simp only[vcA,seval,vV,hx,e1',hw];rfl
  have c1:¬((y%10:Nat):Int)=1:=by omega
  rw[if_neg e1];exact absurd x2 (by have:y%10=y:=Nat.mod_eq_of_lt (by omega);omega)
 ·have dd:¬((d+1:Nat):Int)≤1:=by omega
  have TT:=IH.resolve_left h;rw[if_neg h];have hm:(x:Int).tmod 10=((x%10:Nat):Int):=mod_i _ rfl;by_cases e0:x%10=0
  ·have c0:((x%10:Nat):Int)=0:=by omega
   rw[if_pos e0];refine SCalls.out ?_ (nv_tv (fieldW_l _ _ _));unfold nv at HF ⊢;refine z14 hmix tf_13 rfl rfl rfl ?_;simp only[vcA,seval,vV];(with_reducible apply v_call);exact kv;rfl;exact HB0;exact km;exact kv;simp only[vcA,seval,vV,dd,hm,c0];(with_reducible apply v_call);exact kv;rfl;exact HF;exact km;exact kv;simp only[vcA,seval,vV]
  have c0:¬((x%10:Nat):Int)=0:=by omega
  rw[if_neg e0];by_cases e1:x%10=1
  ·have c1:((x%10:Nat):Int)=1:=by omega
   rw[if_pos e1];refine SCalls.out ?_ (nv_tv rfl);unfold nv;have hn:=Nat.mod_lt (nxB l (nxB l a).2).1 (show 0<4 by omega);have hx:((nxB l (nxB l a).2).1:Int).tmod 4=(((nxB l (nxB l a).2).1%4:Nat):Int):=mod_i _ rfl;have hmu:=mu_rng hn;have hw:=mu_mul b255 hmu.1 hmu.2;refine z14 hmix tf_13 rfl rfl rfl ?_;simp only[vcA,seval,vV];(with_reducible apply v_call);exact kv;rfl;exact HB0;exact km;exact kv;simp only[vcA,seval,vV,dd,hm,c0,c1];(with_reducible apply v_call);exact kv;rfl;exact HB;exact km;exact kv;simp only[vcA,seval,vV];(with_reducible apply v_call);exact kv;rfl;exact HB2;exact km;exact kv;generalize(nxB l (nxB l a).2).1%4=i at*;generalize(nxB l a).1=z at*;have e1':=mu_at hn;simp only[vcA,seval,vV,hx,e1',hw];rfl
  have c1:¬((x%10:Nat):Int)=1:=by omega
  rw[if_neg e1];by_cases e2:x%10=2
  ·have c2:((x%10:Nat):Int)=2:=by omega
   rw[if_pos e2];have HM:=TT 1 a (.inl rfl) h1;unfold mkC tv at HM;unfold tv;refine z14 hmix tf_13 rfl rfl rfl ?_;simp only[vcA,seval,vV];(with_reducible apply v_call);exact kv;rfl;exact HB0;exact km;exact kv;simp only[vcA,seval,vV,dd,hm,c0,c1,c2,wd];(with_reducible apply v_call);exact kv;rfl;exact HM;exact km;exact kv;simp only[vcA,seval,vV,V_rows1,mk_q45]
  have c2:¬((x%10:Nat):Int)=2:=by omega
  rw[if_neg e2];by_cases e3:x%10=3
  ·have c3:((x%10:Nat):Int)=3:=by omega
   rw[if_pos e3];have hn:=Nat.mod_lt (nxB l a).1 (show 0<2 by omega);have hx:((nxB l a).1:Int).tmod 2=(((nxB l a).1%2:Nat):Int):=mod_i _ rfl;generalize hb:(nxB l a).2=bb at*;unfold tv;refine z14 hmix tf_13 rfl rfl rfl ?_;simp only[vcA,seval,vV];(with_reducible apply v_call);exact kv;rfl;exact HB0;exact km;exact kv;simp only[vcA,seval,vV,dd,hm,c0,c1,c2,c3];(with_reducible apply v_call);exact kv;rfl;exact HB;exact km;exact kv;generalize(nxB l a).1%2=i at*;have e1':=cl2_at hn;have HM:=mcall6_ok (g:=g) (c:=c) d hd TT hle (cl2.getD i []) [116] (by decide) bb h2;rw[show ksOf [116]=[2] from rfl]at HM;unfold mkC tv at HM;simp only[vcA,seval,vV,hx,e1',mk_p4];(with_reducible apply v_call);exact kv;rfl;exact HM;exact km;exact kv;simp only[vcA,seval,vV]
  have c3:¬((x%10:Nat):Int)=3:=by omega
  rw[if_neg e3];by_cases e4:x%10=4
  ·have c4:((x%10:Nat):Int)=4:=by omega
   rw[if_pos e4];have HM:=mcall6_ok (g:=g) (c:=c) d hd TT hle nFind [116,116] (by decide) a h1;rw[show ksOf [116,116]=[2,2] from rfl]at HM;unfold mkC tv at HM;unfold tv;refine z14 hmix tf_13 rfl rfl rfl ?_;simp only[vcA,seval,vV];(with_reducible apply v_call);exact kv;rfl;exact HB0;exact km;exact kv;simp only[vcA,seval,vV,dd,hm,c0,c1,c2,c3,c4,mk_qf,mk_p5];(with_reducible apply v_call);exact kv;rfl;exact HM;exact km;exact kv;simp only[vcA,seval,vV]
  have c4:¬((x%10:Nat):Int)=4:=by omega
  rw[if_neg e4];by_cases e5:x%10=5
  ·have c5:((x%10:Nat):Int)=5:=by omega
   rw[if_pos e5];have hn:=Nat.mod_lt (nxB l a).1 (show 0<2 by omega);have hx:((nxB l a).1:Int).tmod 2=(((nxB l a).1%2:Nat):Int):=mod_i _ rfl;generalize hb:(nxB l a).2=bb at*;unfold tv;refine z14 hmix tf_13 rfl rfl rfl ?_;simp only[vcA,seval,vV];(with_reducible apply v_call);exact kv;rfl;exact HB0;exact km;exact kv;simp only[vcA,seval,vV,dd,hm,c0,c1,c2,c3,c4,c5];(with_reducible apply v_call);exact kv;rfl;exact HB;exact km;exact kv;generalize(nxB l a).1%2=i at*;have e1':=clMM_at hn;have HM:=mcall6_ok (g:=g) (c:=c) d hd TT hle (clMM.getD i []) [110,110] (by decide) bb h2;rw[show ksOf [110,110]=[1,1] from rfl]at HM;unfold mkC tv at HM;simp only[vcA,seval,vV,hx,e1',mk_p6];(with_reducible apply v_call);exact kv;rfl;exact HM;exact km;exact kv;simp only[vcA,seval,vV]
  have c5:¬((x%10:Nat):Int)=5:=by omega
  rw[if_neg e5];by_cases e6:x%10=6
  ·have c6:((x%10:Nat):Int)=6:=by omega
   rw[if_pos e6];have HM:=mcall6_ok (g:=g) (c:=c) d hd TT hle nIf [110,110,110] (by decide) a h1;rw[show ksOf [110,110,110]=[1,1,1] from rfl]at HM;unfold mkC tv at HM;unfold tv;refine z14 hmix tf_13 rfl rfl rfl ?_;simp only[vcA,seval,vV];(with_reducible apply v_call);exact kv;rfl;exact HB0;exact km;exact kv;simp only[vcA,seval,vV,dd,hm,c0,c1,c2,c3,c4,c5,c6,mk_qi,mk_p7];(with_reducible apply v_call);exact kv;rfl;exact HM;exact km;exact kv;simp only[vcA,seval,vV]
  have c6:¬((x%10:Nat):Int)=6:=by omega
  rw[if_neg e6];by_cases e7:x%10=7
  ·have c7:((x%10:Nat):Int)=7:=by omega
   rw[if_pos e7];have hn:=Nat.mod_lt (nxB l a).1 (show 0<6 by omega);have hx:((nxB l a).1:Int).tmod 6=(((nxB l a).1%6:Nat):Int):=mod_i _ rfl;have hn2:=Nat.mod_lt (nxB l (nxB l a).2).1 (show 0<2 by omega);have hx2:((nxB l (nxB l a).2).1:Int).tmod 2=(((nxB l (nxB l a).2).1%2:Nat):Int):=mod_i _ rfl;unfold tv;refine z14 hmix tf_13 rfl rfl rfl ?_;simp only[vcA,seval,vV];(with_reducible apply v_call);exact kv;rfl;exact HB0;exact km;exact kv;simp only[vcA,seval,vV,dd,hm,c0,c1,c2,c3,c4,c5,c6,c7];(with_reducible apply v_call);exact kv;rfl;exact HB;exact km;exact kv;generalize(nxB l a).1%6=i at*;have e1':=cmpM_at hn;simp only[vcA,seval,vV,hx,e1'];(with_reducible apply v_call);exact kv;rfl;exact HB2;exact km;exact kv;generalize(nxB l (nxB l a).2).1%2=u at*;have wu:IntKind.i64.wrap (1+(u:Int))=1+(u:Int):=wrap64 (by omega) (by omega);have HM:=two6_ok (g:=g) (c:=c) d hd TT hle (cmpM.getD i []) (1+(u:Int)) (by omega) _ h3;unfold mkC tv at HM;simp only[vcA,seval,vV,hx2,wu];(with_reducible apply v_call);exact kv;rfl;exact HM;exact km;exact kv;simp only[vcA,seval,vV]
  have c7:¬((x%10:Nat):Int)=7:=by omega
  rw[if_neg e7];have hn:=Nat.mod_lt (nxB l a).1 (show 0<5 by omega);have hx:((nxB l a).1:Int).tmod 5=(((nxB l a).1%5:Nat):Int):=mod_i _ rfl;unfold tv;refine z14 hmix tf_13 rfl rfl rfl ?_;simp only[vcA,seval,vV];(with_reducible apply v_call);exact kv;rfl;exact HB0;exact km;exact kv;simp only[vcA,seval,vV,dd,hm,c0,c1,c2,c3,c4,c5,c6,c7];(with_reducible apply v_call);exact kv;rfl;exact HB;exact km;exact kv;generalize(nxB l a).1%5=i at*;have e1':=sumM_at hn;have HM:=two6_ok (g:=g) (c:=c) d hd TT hle (sumM.getD i []) 1 (.inl rfl) _ h2;unfold mkC tv at HM;simp only[vcA,seval,vV,hx,e1'];(with_reducible apply v_call);exact kv;rfl;exact HM;exact km;exact kv;simp only[vcA,seval,vV]
theorem tree6_ok(hl:l.length≤9223372036854775807)(hc:c.fs.length≤1000):∀d,d≤4→TreeOk6 g l c (d+1)
 |0,_=>fun kind a hk ha=>by
  rcases hk with rfl|rfl
  ·exact tree6_num 0 (by omega) hl hc (.inl rfl) a ha
  ·exact tree6_text 0 (by omega) hl hc (.inl rfl) a ha
 |d+1,hd=>fun kind a hk ha=>by
  rcases hk with rfl|rfl
  ·exact tree6_num (d+1) (by omega) hl hc (.inr (tree6_ok hl hc d (by omega))) a ha
  ·exact tree6_text (d+1) (by omega) hl hc (.inr (tree6_ok hl hc d (by omega))) a ha
end
end Go.Proofs.YtmiokadmddjccaaGreatDoor
end

section
namespace Go.Proofs.YtmiokadmddjccaaGreatDoor
open Go Go.RowKit Go.Mor Go.Sh Go.Sh.Cd1
set_option maxRecDepth 100000
set_option maxHeartbeats 4000000
theorem u8_lt(b:UInt8):b.toNat<256:=b.toNat_lt
theorem wr3:IntKind.i64.wrap 3=3:=rfl
theorem wr4:IntKind.i64.wrap 4=4:=rfl
theorem wr5:IntKind.i64.wrap 5=5:=rfl
theorem getD_some{l:List UInt8}{i:Nat}{b:UInt8}(h:l[i]?=some b):l.getD i 0=b:=by rw[List.getD_eq_getElem?_getD,h];rfl
theorem signL_eq{l:List UInt8}(h:0<l.length):signL l=signN l.length (l.getD 0 0).toNat (l.getD 1 0).toNat (l.getD 2 0).toNat (l.getD 3 0).toNat:=by
 unfold signL;rw[if_neg (by rintro rfl;simp at h)]
theorem at_{l:List UInt8}{i:Nat}(h:i<l.length):∃b,l[i]?=some b:=⟨_,gE h⟩
theorem cvi8(n:Nat)(h:n<256):IntKind.i64.wrap (n:Int)=(n:Int):=wrap64 (by omega) (by omega)
theorem v_unr{P:Program}{g:Sh.Glob}{a:SCode}{Q:SExit→ES→Prop}{k:Nat}{s:ES}:unrollW P g a Q (k+1) s=swp P g a (thenW (unrollW P g a Q k) Q) s:=rfl
theorem sg{a b:Int}(h:a=b):some (TV.pv (PV.v (Value.int IntKind.i64 a)))=some (TV.pv (PV.v (Value.int IntKind.i64 b))):=by rw[h]
theorem sign_a(g:Sh.Glob)(l:List UInt8)(b0:UInt8)(hl:0<l.length)(e0:l[0]?=some b0)(hc:b0.toNat<128):SCalls Tryz.prog g 51 [S (str l)] [] (I (signN l.length b0.toNat (l.getD 1 0).toNat (l.getD 2 0).toNat (l.getD 3 0).toNat:Nat)) []:=by
 have hb:=u8_lt b0;have c0:=cvi8 b0.toNat hb;have hl0:¬(l.length:Int)=0:=by omega
 have t0:(b0.toNat:Int)<128:=by omega
 have t1:¬194≤(b0.toNat:Int):=by omega
 have t2:(b0.toNat:Int)≤223:=by omega
 have t3:¬224≤(b0.toNat:Int):=by omega
 have t4:(b0.toNat:Int)≤239:=by omega
 have t5:¬240≤(b0.toNat:Int):=by omega
 have t6:(b0.toNat:Int)≤244:=by omega
 have t7:¬(b0.toNat:Int)=224:=by omega
 have t8:¬(b0.toNat:Int)=237:=by omega
 have t9:¬(b0.toNat:Int)=240:=by omega
 have t10:¬(b0.toNat:Int)=244:=by omega
 refine z7 hmix tf_93 rfl ?_;simp only[vcA,seval,I,S,e0,c0,hl0,t0,t1,t2,t3,t4,t5,t6,t7,t8,t9,t10];exact sg (by unfold signN;(repeat' split)<;>omega)
theorem sign_b(g:Sh.Glob)(l:List UInt8)(b0:UInt8)(hl:0<l.length)(e0:l[0]?=some b0)(hc:128≤b0.toNat∧b0.toNat≤193):SCalls Tryz.prog g 51 [S (str l)] [] (I (signN l.length b0.toNat (l.getD 1 0).toNat (l.getD 2 0).toNat (l.getD 3 0).toNat:Nat)) []:=by
 have hb:=u8_lt b0;have c0:=cvi8 b0.toNat hb;have hl0:¬(l.length:Int)=0:=by omega
 have t0:¬(b0.toNat:Int)<128:=by omega
 have t1:¬194≤(b0.toNat:Int):=by omega
 have t2:(b0.toNat:Int)≤223:=by omega
 have t3:¬224≤(b0.toNat:Int):=by omega
 have t4:(b0.toNat:Int)≤239:=by omega
 have t5:¬240≤(b0.toNat:Int):=by omega
 have t6:(b0.toNat:Int)≤244:=by omega
 have t7:¬(b0.toNat:Int)=224:=by omega
 have t8:¬(b0.toNat:Int)=237:=by omega
 have t9:¬(b0.toNat:Int)=240:=by omega
 have t10:¬(b0.toNat:Int)=244:=by omega
 refine z7 hmix tf_93 rfl ?_;simp only[vcA,seval,I,S,e0,c0,hl0,t0,t1,t2,t3,t4,t5,t6,t7,t8,t9,t10];exact sg (by unfold signN;(repeat' split)<;>omega)
theorem sign_c(g:Sh.Glob)(l:List UInt8)(b0:UInt8)(hl:0<l.length)(e0:l[0]?=some b0)(hc:194≤b0.toNat∧b0.toNat≤223):SCalls Tryz.prog g 51 [S (str l)] [] (I (signN l.length b0.toNat (l.getD 1 0).toNat (l.getD 2 0).toNat (l.getD 3 0).toNat:Nat)) []:=by
 have hb:=u8_lt b0;have c0:=cvi8 b0.toNat hb;have hl0:¬(l.length:Int)=0:=by omega
 have t0:¬(b0.toNat:Int)<128:=by omega
 have t1:194≤(b0.toNat:Int):=by omega
 have t2:(b0.toNat:Int)≤223:=by omega
 have t3:¬224≤(b0.toNat:Int):=by omega
 have t4:(b0.toNat:Int)≤239:=by omega
 have t5:¬240≤(b0.toNat:Int):=by omega
 have t6:(b0.toNat:Int)≤244:=by omega
 have t7:¬(b0.toNat:Int)=224:=by omega
 have t8:¬(b0.toNat:Int)=237:=by omega
 have t9:¬(b0.toNat:Int)=240:=by omega
 have t10:¬(b0.toNat:Int)=244:=by omega
 refine z7 hmix tf_93 rfl ?_;by_cases hn:(l.length:Int)<2
 ·simp only[vcA,seval,I,S,e0,c0,hl0,hn,t0,t1,t2,t3,t4,t5,t6,t7,t8,t9,t10];exact sg (by unfold signN;(repeat' split)<;>omega)
 obtain⟨b1,e1⟩:=at_ (l:=l) (i:=1) (by omega);have hb1:=u8_lt b1;have g1:=getD_some e1;have c1:=cvi8 b1.toNat hb1;rw[g1];simp only[vcA,seval,I,S,e0,c0,e1,c1,hl0,hn,t0,t1,t2,t3,t4,t5,t6,t7,t8,t9,t10];refine⟨fun h1=>sg (by unfold signN;(repeat' split)<;>omega),fun h1=>⟨fun h2=>sg (by unfold signN;(repeat' split)<;>omega),fun h2=> ?_⟩⟩;refine z108 1 ?_;simp only[vcA,seval,I,S,v_unr,e1,wr3,wr4,wr5];exact sg (by unfold signN;(repeat' split)<;>omega)
theorem sign_d(g:Sh.Glob)(l:List UInt8)(b0:UInt8)(hl:0<l.length)(e0:l[0]?=some b0)(hc:b0.toNat=224):SCalls Tryz.prog g 51 [S (str l)] [] (I (signN l.length b0.toNat (l.getD 1 0).toNat (l.getD 2 0).toNat (l.getD 3 0).toNat:Nat)) []:=by
 have hb:=u8_lt b0;have c0:=cvi8 b0.toNat hb;have hl0:¬(l.length:Int)=0:=by omega

 refine z7 hmix tf_93 rfl ?_;have q0:(b0.toNat:Int)=224:=by omega
 have q1:IntKind.i64.wrap 224=224:=rfl;by_cases hn:(l.length:Int)<3
 ·simp only[vcA,seval,I,S,e0,c0,hl0,hn,q0,q1];exact sg (by unfold signN;(repeat' split)<;>omega)
 obtain⟨b1,e1⟩:=at_ (l:=l) (i:=1) (by omega);have hb1:=u8_lt b1;have g1:=getD_some e1;obtain⟨b2,e2⟩:=at_ (l:=l) (i:=2) (by omega);have hb2:=u8_lt b2;have g2:=getD_some e2;have c1:=cvi8 b1.toNat hb1;rw[g1,g2];simp only[vcA,seval,I,S,e0,c0,e1,c1,hl0,hn,q0,q1];refine⟨fun h1=>sg (by unfold signN;(repeat' split)<;>omega),fun h1=>⟨fun h2=>sg (by unfold signN;(repeat' split)<;>omega),fun h2=> ?_⟩⟩;refine z108 2 ?_;simp only[vcA,seval,I,S,v_unr,e1,e2,wr3,wr4,wr5]
 repeat' (first|(apply And.intro)|(intro _))
 all_goals exact sg (by unfold signN;(repeat' split)<;>omega)
theorem sign_e(g:Sh.Glob)(l:List UInt8)(b0:UInt8)(hl:0<l.length)(e0:l[0]?=some b0)(hc:225≤b0.toNat∧b0.toNat≤239∧b0.toNat≠237):SCalls Tryz.prog g 51 [S (str l)] [] (I (signN l.length b0.toNat (l.getD 1 0).toNat (l.getD 2 0).toNat (l.getD 3 0).toNat:Nat)) []:=by
 have hb:=u8_lt b0;have c0:=cvi8 b0.toNat hb;have hl0:¬(l.length:Int)=0:=by omega
 have t0:¬(b0.toNat:Int)<128:=by omega
 have t1:194≤(b0.toNat:Int):=by omega
 have t2:¬(b0.toNat:Int)≤223:=by omega
 have t3:224≤(b0.toNat:Int):=by omega
 have t4:(b0.toNat:Int)≤239:=by omega
 have t5:¬240≤(b0.toNat:Int):=by omega
 have t6:(b0.toNat:Int)≤244:=by omega
 have t7:¬(b0.toNat:Int)=224:=by omega
 have t8:¬(b0.toNat:Int)=237:=by omega
 have t9:¬(b0.toNat:Int)=240:=by omega
 have t10:¬(b0.toNat:Int)=244:=by omega
 refine z7 hmix tf_93 rfl ?_;by_cases hn:(l.length:Int)<3
 ·simp only[vcA,seval,I,S,e0,c0,hl0,hn,t0,t1,t2,t3,t4,t5,t6,t7,t8,t9,t10];exact sg (by unfold signN;(repeat' split)<;>omega)
 obtain⟨b1,e1⟩:=at_ (l:=l) (i:=1) (by omega);have hb1:=u8_lt b1;have g1:=getD_some e1;obtain⟨b2,e2⟩:=at_ (l:=l) (i:=2) (by omega);have hb2:=u8_lt b2;have g2:=getD_some e2;have c1:=cvi8 b1.toNat hb1;rw[g1,g2];simp only[vcA,seval,I,S,e0,c0,e1,c1,hl0,hn,t0,t1,t2,t3,t4,t5,t6,t7,t8,t9,t10];refine⟨fun h1=>sg (by unfold signN;(repeat' split)<;>omega),fun h1=>⟨fun h2=>sg (by unfold signN;(repeat' split)<;>omega),fun h2=> ?_⟩⟩;refine z108 2 ?_;simp only[vcA,seval,I,S,v_unr,e1,e2,wr3,wr4,wr5]
 repeat' (first|(apply And.intro)|(intro _))
 all_goals exact sg (by unfold signN;(repeat' split)<;>omega)
theorem sign_f(g:Sh.Glob)(l:List UInt8)(b0:UInt8)(hl:0<l.length)(e0:l[0]?=some b0)(hc:b0.toNat=237):SCalls Tryz.prog g 51 [S (str l)] [] (I (signN l.length b0.toNat (l.getD 1 0).toNat (l.getD 2 0).toNat (l.getD 3 0).toNat:Nat)) []:=by
 have hb:=u8_lt b0;have c0:=cvi8 b0.toNat hb;have hl0:¬(l.length:Int)=0:=by omega

 refine z7 hmix tf_93 rfl ?_;have q0:(b0.toNat:Int)=237:=by omega
 have q1:IntKind.i64.wrap 237=237:=rfl;by_cases hn:(l.length:Int)<3
 ·simp only[vcA,seval,I,S,e0,c0,hl0,hn,q0,q1];exact sg (by unfold signN;(repeat' split)<;>omega)
 obtain⟨b1,e1⟩:=at_ (l:=l) (i:=1) (by omega);have hb1:=u8_lt b1;have g1:=getD_some e1;obtain⟨b2,e2⟩:=at_ (l:=l) (i:=2) (by omega);have hb2:=u8_lt b2;have g2:=getD_some e2;have c1:=cvi8 b1.toNat hb1;rw[g1,g2];simp only[vcA,seval,I,S,e0,c0,e1,c1,hl0,hn,q0,q1];refine⟨fun h1=>sg (by unfold signN;(repeat' split)<;>omega),fun h1=>⟨fun h2=>sg (by unfold signN;(repeat' split)<;>omega),fun h2=> ?_⟩⟩;refine z108 2 ?_;simp only[vcA,seval,I,S,v_unr,e1,e2,wr3,wr4,wr5]
 repeat' (first|(apply And.intro)|(intro _))
 all_goals exact sg (by unfold signN;(repeat' split)<;>omega)
theorem sign_g(g:Sh.Glob)(l:List UInt8)(b0:UInt8)(hl:0<l.length)(e0:l[0]?=some b0)(hc:b0.toNat=240):SCalls Tryz.prog g 51 [S (str l)] [] (I (signN l.length b0.toNat (l.getD 1 0).toNat (l.getD 2 0).toNat (l.getD 3 0).toNat:Nat)) []:=by
 have hb:=u8_lt b0;have c0:=cvi8 b0.toNat hb;have hl0:¬(l.length:Int)=0:=by omega

 refine z7 hmix tf_93 rfl ?_;have q0:(b0.toNat:Int)=240:=by omega
 have q1:IntKind.i64.wrap 240=240:=rfl;by_cases hn:(l.length:Int)<4
 ·simp only[vcA,seval,I,S,e0,c0,hl0,hn,q0,q1];exact sg (by unfold signN;(repeat' split)<;>omega)
 obtain⟨b1,e1⟩:=at_ (l:=l) (i:=1) (by omega);have hb1:=u8_lt b1;have g1:=getD_some e1;obtain⟨b2,e2⟩:=at_ (l:=l) (i:=2) (by omega);have hb2:=u8_lt b2;have g2:=getD_some e2;obtain⟨b3,e3⟩:=at_ (l:=l) (i:=3) (by omega);have hb3:=u8_lt b3;have g3:=getD_some e3;have c1:=cvi8 b1.toNat hb1;rw[g1,g2,g3];simp only[vcA,seval,I,S,e0,c0,e1,c1,hl0,hn,q0,q1];refine⟨fun h1=>sg (by unfold signN;(repeat' split)<;>omega),fun h1=>⟨fun h2=>sg (by unfold signN;(repeat' split)<;>omega),fun h2=> ?_⟩⟩;refine z108 3 ?_;simp only[vcA,seval,I,S,v_unr,e1,e2,e3,wr3,wr4,wr5]
 repeat' (first|(apply And.intro)|(intro _))
 all_goals exact sg (by unfold signN;(repeat' split)<;>omega)
theorem sign_h(g:Sh.Glob)(l:List UInt8)(b0:UInt8)(hl:0<l.length)(e0:l[0]?=some b0)(hc:241≤b0.toNat∧b0.toNat≤243):SCalls Tryz.prog g 51 [S (str l)] [] (I (signN l.length b0.toNat (l.getD 1 0).toNat (l.getD 2 0).toNat (l.getD 3 0).toNat:Nat)) []:=by
 have hb:=u8_lt b0;have c0:=cvi8 b0.toNat hb;have hl0:¬(l.length:Int)=0:=by omega
 have t0:¬(b0.toNat:Int)<128:=by omega
 have t1:194≤(b0.toNat:Int):=by omega
 have t2:¬(b0.toNat:Int)≤223:=by omega
 have t3:224≤(b0.toNat:Int):=by omega
 have t4:¬(b0.toNat:Int)≤239:=by omega
 have t5:240≤(b0.toNat:Int):=by omega
 have t6:(b0.toNat:Int)≤244:=by omega
 have t7:¬(b0.toNat:Int)=224:=by omega
 have t8:¬(b0.toNat:Int)=237:=by omega
 have t9:¬(b0.toNat:Int)=240:=by omega
 have t10:¬(b0.toNat:Int)=244:=by omega
 refine z7 hmix tf_93 rfl ?_;by_cases hn:(l.length:Int)<4
 ·simp only[vcA,seval,I,S,e0,c0,hl0,hn,t0,t1,t2,t3,t4,t5,t6,t7,t8,t9,t10];exact sg (by unfold signN;(repeat' split)<;>omega)
 obtain⟨b1,e1⟩:=at_ (l:=l) (i:=1) (by omega);have hb1:=u8_lt b1;have g1:=getD_some e1;obtain⟨b2,e2⟩:=at_ (l:=l) (i:=2) (by omega);have hb2:=u8_lt b2;have g2:=getD_some e2;obtain⟨b3,e3⟩:=at_ (l:=l) (i:=3) (by omega);have hb3:=u8_lt b3;have g3:=getD_some e3;have c1:=cvi8 b1.toNat hb1;rw[g1,g2,g3];simp only[vcA,seval,I,S,e0,c0,e1,c1,hl0,hn,t0,t1,t2,t3,t4,t5,t6,t7,t8,t9,t10];refine⟨fun h1=>sg (by unfold signN;(repeat' split)<;>omega),fun h1=>⟨fun h2=>sg (by unfold signN;(repeat' split)<;>omega),fun h2=> ?_⟩⟩;refine z108 3 ?_;simp only[vcA,seval,I,S,v_unr,e1,e2,e3,wr3,wr4,wr5]
 repeat' (first|(apply And.intro)|(intro _))
 all_goals exact sg (by unfold signN;(repeat' split)<;>omega)
theorem sign_i(g:Sh.Glob)(l:List UInt8)(b0:UInt8)(hl:0<l.length)(e0:l[0]?=some b0)(hc:b0.toNat=244):SCalls Tryz.prog g 51 [S (str l)] [] (I (signN l.length b0.toNat (l.getD 1 0).toNat (l.getD 2 0).toNat (l.getD 3 0).toNat:Nat)) []:=by
 have hb:=u8_lt b0;have c0:=cvi8 b0.toNat hb;have hl0:¬(l.length:Int)=0:=by omega

 refine z7 hmix tf_93 rfl ?_;have q0:(b0.toNat:Int)=244:=by omega
 have q1:IntKind.i64.wrap 244=244:=rfl;by_cases hn:(l.length:Int)<4
 ·simp only[vcA,seval,I,S,e0,c0,hl0,hn,q0,q1];exact sg (by unfold signN;(repeat' split)<;>omega)
 obtain⟨b1,e1⟩:=at_ (l:=l) (i:=1) (by omega);have hb1:=u8_lt b1;have g1:=getD_some e1;obtain⟨b2,e2⟩:=at_ (l:=l) (i:=2) (by omega);have hb2:=u8_lt b2;have g2:=getD_some e2;obtain⟨b3,e3⟩:=at_ (l:=l) (i:=3) (by omega);have hb3:=u8_lt b3;have g3:=getD_some e3;have c1:=cvi8 b1.toNat hb1;rw[g1,g2,g3];simp only[vcA,seval,I,S,e0,c0,e1,c1,hl0,hn,q0,q1];refine⟨fun h1=>sg (by unfold signN;(repeat' split)<;>omega),fun h1=>⟨fun h2=>sg (by unfold signN;(repeat' split)<;>omega),fun h2=> ?_⟩⟩;refine z108 3 ?_;simp only[vcA,seval,I,S,v_unr,e1,e2,e3,wr3,wr4,wr5]
 repeat' (first|(apply And.intro)|(intro _))
 all_goals exact sg (by unfold signN;(repeat' split)<;>omega)
theorem sign_j(g:Sh.Glob)(l:List UInt8)(b0:UInt8)(hl:0<l.length)(e0:l[0]?=some b0)(hc:245≤b0.toNat):SCalls Tryz.prog g 51 [S (str l)] [] (I (signN l.length b0.toNat (l.getD 1 0).toNat (l.getD 2 0).toNat (l.getD 3 0).toNat:Nat)) []:=by
 have hb:=u8_lt b0;have c0:=cvi8 b0.toNat hb;have hl0:¬(l.length:Int)=0:=by omega
 have t0:¬(b0.toNat:Int)<128:=by omega
 have t1:194≤(b0.toNat:Int):=by omega
 have t2:¬(b0.toNat:Int)≤223:=by omega
 have t3:224≤(b0.toNat:Int):=by omega
 have t4:¬(b0.toNat:Int)≤239:=by omega
 have t5:240≤(b0.toNat:Int):=by omega
 have t6:¬(b0.toNat:Int)≤244:=by omega
 have t7:¬(b0.toNat:Int)=224:=by omega
 have t8:¬(b0.toNat:Int)=237:=by omega
 have t9:¬(b0.toNat:Int)=240:=by omega
 have t10:¬(b0.toNat:Int)=244:=by omega
 refine z7 hmix tf_93 rfl ?_;simp only[vcA,seval,I,S,e0,c0,hl0,t0,t1,t2,t3,t4,t5,t6,t7,t8,t9,t10];exact sg (by unfold signN;(repeat' split)<;>omega)
theorem sign_ok(g:Sh.Glob)(l:List UInt8):SCalls Tryz.prog g 51 [S (str l)] [] (I (signL l)) []:=by
 by_cases h0:l.length=0
 ·have:l=[]:=List.eq_nil_of_length_eq_zero h0;subst this;refine z7 hmix tf_93 rfl ?_;simp only[vcA,seval,I,S,Int.natCast_zero,List.length_nil];rfl
 have hl:0<l.length:=by omega
 obtain⟨b0,e0⟩:=at_ hl;rw[signL_eq hl,getD_some e0];have hb:=u8_lt b0;by_cases c0:b0.toNat<128
 ·exact sign_a g l b0 hl e0 c0
 by_cases c1:128≤b0.toNat∧b0.toNat≤193
 ·exact sign_b g l b0 hl e0 c1
 by_cases c2:194≤b0.toNat∧b0.toNat≤223
 ·exact sign_c g l b0 hl e0 c2
 by_cases c3:b0.toNat=224
 ·exact sign_d g l b0 hl e0 c3
 by_cases c4:225≤b0.toNat∧b0.toNat≤239∧b0.toNat≠237
 ·exact sign_e g l b0 hl e0 c4
 by_cases c5:b0.toNat=237
 ·exact sign_f g l b0 hl e0 c5
 by_cases c6:b0.toNat=240
 ·exact sign_g g l b0 hl e0 c6
 by_cases c7:241≤b0.toNat∧b0.toNat≤243
 ·exact sign_h g l b0 hl e0 c7
 by_cases c8:b0.toNat=244
 ·exact sign_i g l b0 hl e0 c8
 exact sign_j g l b0 hl e0 (by omega)
end Go.Proofs.YtmiokadmddjccaaGreatDoor
end

section
namespace Go.Proofs.YtmiokadmddjccaaGreatDoor
open Go Go.RowKit Go.Mor Go.Sh Go.Sh.Cd1
set_option maxRecDepth 100000
set_option maxHeartbeats 8000000
def isTextN:Nat→List UInt8→Bool
 |0,_=>true
 |n+1,l=>match l with
  |[]=>true
  |b::r=> !(signL (b::r)==0)&& !decide (b.toNat<32)&& !(b.toNat==127)&&isTextN n ((b::r).drop (signL (b::r)))
def isText(l:List UInt8):Bool:=isTextN l.length l
theorem isTextN_more:∀(n:Nat) (l:List UInt8),l.length≤n→isTextN n l=isText l:=by
 intro n
 induction n using Nat.strongRecOn with
 |_ n ih=>
  intro l hl;unfold isText;cases l with
  |nil=>cases n<;>rfl
  |cons b r=>
   obtain⟨m,rfl⟩:∃m,n=m+1:=⟨n-1,by simp at hl;omega⟩
   simp only[isTextN,List.length_cons];by_cases h0:signL (b::r)=0
   ·simp[h0]
   ·have h1:((b::r).drop (signL (b::r))).length≤r.length:=by simp;omega
    simp at hl;rw[ih m (by omega) _ (by omega)];by_cases he:r.length=m
    ·subst he;rw[ih r.length (by omega) _ h1]
    ·rw[ih r.length (by omega) _ h1]
theorem isText_cons(b:UInt8)(r:List UInt8):isText (b::r)=(!(signL (b::r)==0)&& !decide (b.toNat<32)&& !(b.toNat==127)&&isText ((b::r).drop (signL (b::r)))):=by
 conv=>lhs;unfold isText
 simp only[isTextN,List.length_cons];by_cases h0:signL (b::r)=0
 ·simp[h0]
 ·rw[isTextN_more r.length _ (by simp;omega)]
theorem signL_le(l:List UInt8):signL l≤l.length∧signL l≤4:=by
 unfold signL;cases l with
 |nil=>simp
 |cons b r=>
  rw[if_neg (by simp)];unfold signN;simp only[List.length_cons]
  repeat' split
  all_goals omega
theorem str_drop(l:List UInt8)(a:Nat):(str l).extract a l.length=str (l.drop a):=by
 rw[str_extract,List.take_of_length_le (by simp)]
theorem isText_ok(g:Sh.Glob)(l:List UInt8)(hl:l.length≤9223372036854775807):SCalls Tryz.prog g 87 [S (str l)] [] (.pv (.v (.bool (isText l)))) []:=by
 refine z7 hmix tf_89 rfl ?_;obtain⟨r,hr⟩:∃r,isText l=r:=⟨_,rfl⟩
 rw[hr];simp only[vcA,seval,vV];refine v_loop (σ:={ i:Nat // i≤l.length∧r=isText (l.drop i) }) (fun i=>⟨[(0,S (str l)),(3,I (i.1:Int))],[],[],[]⟩) (fun i=>l.length-i.1) ⟨0,Nat.zero_le _,hr.symm⟩ ?_ ?_
 ·apply lw_of<;>simp[leL,lk,sv,Nat.beq,I,S,ES.kill,has,drp,nilT]
 rintro⟨i,hi,hT⟩;by_cases hlt:i<l.length
 ·have d1:(i:Int)<(l.length:Int):=by omega
  have hd:=str_drop l i;obtain⟨b,eb⟩:=at_ hlt;have hcons:l.drop i=b::l.drop (i+1):=by
   rw[List.drop_eq_getElem_cons hlt];congr 1;rw[gE hlt]at eb;exact Option.some.inj eb
  have hs:=signL_le (l.drop i);have hb:=isText_cons b (l.drop (i+1));rw[←hcons,←hT]at hb;simp only[List.length_drop]at hs;have HS:=sign_ok g (l.drop i);simp only[vcA,seval,vV,d1,hd];refine⟨by omega,?_⟩;(with_reducible apply v_call);exact kv;rfl;exact HS;exact km;exact kv;generalize signL (l.drop i)=n at hs hb ⊢;by_cases h0:n=0
  ·have d2:(n:Int)=0:=by omega
   have hf:r=false:=by rw[hb];simp[h0]
   subst hf;simp only[vcA,seval,vV,d2]
  have d2:¬(n:Int)=0:=by omega
  by_cases h1:b.toNat<32
  ·have d3:(b.toNat:Int)<32:=by omega
   have hf:r=false:=by rw[hb];simp[h1]
   subst hf;simp only[vcA,seval,vV,d2,eb,d3]
  have d3:¬(b.toNat:Int)<32:=by omega
  by_cases h2:b.toNat=127
  ·have d4:(b.toNat:Int)=127:=by omega
   have hf:r=false:=by rw[hb];simp[h2]
   subst hf;simp only[vcA,seval,vV,d2,eb,d3,d4]
  have d4:¬(b.toNat:Int)=127:=by omega
  have w1:IntKind.i64.wrap ((i:Int)+(n:Int))=((i+n:Nat):Int):=by rw[wrap64 (by omega) (by omega)];omega
  have hT2:r=isText (l.drop (i+n)):=by rw[hb,List.drop_drop];simp[h0,h1,h2]
  simp only[vcA,seval,vV,d2,eb,d3,d4,w1];refine z11 ⟨i+n,by omega,hT2⟩ (by show l.length-(i+n)<l.length-i;omega) ?_;apply lw_of<;>simp[leL,lk,sv,Nat.beq,I,S,ES.kill,has,drp,nilT]
 ·have d1:¬(i:Int)<(l.length:Int):=by omega
  have hf:r=true:=by rw[hT,List.drop_eq_nil_of_le (by omega)];rfl
  subst hf;simp only[vcA,seval,vV,d1]
end Go.Proofs.YtmiokadmddjccaaGreatDoor
end

section
namespace Go.Proofs.YtmiokadmddjccaaGreatDoor
open Go Go.RowKit Go.Mor
theorem byte_lt(l:List UInt8)(i:Nat):(l.getD i 0).toNat<256:=(l.getD i 0).toNat_lt
theorem signL_decode(b:UInt8)(t:List UInt8):signL (b::t)=if(Lib.decodeL (b::t)).1=65533∧(Lib.decodeL (b::t)).2=1 then 0 else(Lib.decodeL (b::t)).2:=by
 rw[Lib.decodeL_N,signL,if_neg (by simp)];exact signN_decode _ _ _ _ _ (byte_lt _ _) (byte_lt _ _) (byte_lt _ _) (byte_lt _ _)
theorem rune_lo(n b0 b1 b2 b3:Nat):(b0<128→(Lib.decodeN n b0 b1 b2 b3).1=b0)∧(128≤b0→128≤(Lib.decodeN n b0 b1 b2 b3).1):=by
 unfold Lib.decodeN;refine⟨fun h=>by rw[if_pos h],fun h=> ?_⟩;rw[if_neg (by omega)]
 (repeat' split)<;>simp only<;>omega
theorem plainR_lead(b:UInt8)(t:List UInt8):plainR (Lib.decodeL (b::t)).1=(!decide (b.toNat<32)&& !(b.toNat==127)):=by
 rw[Lib.decodeL_N];have h:=rune_lo (b::t).length ((b::t).getD 0 0).toNat ((b::t).getD 1 0).toNat ((b::t).getD 2 0).toNat ((b::t).getD 3 0).toNat;have e:(b::t).getD 0 0=b:=rfl;rw[e]at h ⊢;generalize(Lib.decodeN _ _ _ _ _).1=r at h ⊢;unfold plainR;rw[Bool.eq_iff_iff];rcases Nat.lt_or_ge b.toNat 128 with hb|hb
 ·rw[h.1 hb];simp
 ·have:=h.2 hb;simp;omega
theorem isText_eq:∀(n:Nat) (l:List UInt8),l.length≤n→isText l=(Lib.validD l&&plainD l):=by
 intro n
 induction n with
 |zero=>intro l hl;obtain rfl:=List.eq_nil_of_length_eq_zero (by omega:l.length=0);rfl
 |succ n ih=>
  intro l hl;cases l with
  |nil=>rfl
  |cons b t=>
   rw[isText_cons,Lib.validD_step _ (by simp),z148 _ (by simp),plainR_lead,signL_decode];have hw:=Lib.decodeL_width (b::t);split
   ·simp
   ·rw[ih _ (by simp at hl ⊢;omega)];have h0:((Lib.decodeL (b::t)).2==0)=false:=by simp;omega
    rw[h0];generalize Lib.validD _=p;generalize plainD _=q;cases p<;>cases q<;>simp
end Go.Proofs.YtmiokadmddjccaaGreatDoor
end

section
namespace Go.Sh.Cd2
open Go Go.Sh
set_option maxRecDepth 100000
abbrev c_91_0:=kV [1] [kO 1 0,kT 2 false] [0,2]
abbrev c_91_1:=kR [kA 6 0 1,oL 7 false 1 6] [6]
abbrev c_91_2:=kR [kK 9 .eql 3 7 0,oM 8 9] [9]
abbrev c_91_3:=kR [kA 10 1 1,oL 11 false 1 10,kK 12 .eql 3 11 0,oM 13 12,kF 14 13 true 2 1,kL 15 13 true false 1 14,oG 16 13 true (.bin .eql 9 (.tmp 15) (.val (.string ⟨#[]⟩))),oP 17 13 16 false,oM 18 17,kF 19 18 true 3 1,kL 20 18 true false 1 19,oG 21 18 true (.len (.tmp 20)),kG 22 18 true .eql 3 21 0,oP 23 18 22 false,oM 2 23] [1,7,8,10,11,12,13,14,15,16,17,18,19,20,21,22,23]
abbrev c_91_4:=kR [kK 25 .eql 3 7 1,oM 24 25] [8,25]
abbrev c_91_5:=kR [kA 26 1 1,oL 27 false 1 26,oD 28 (.bin .geq 3 (.tmp 27) (.val (.int .i64 (-1000000000000000)))),oM 29 28,kF 30 29 true 1 1,kL 31 29 true false 1 30,kG 32 29 true .leq 3 31 1000000000000000,oP 33 29 32 false,oM 34 33,kF 35 34 true 2 1,kL 36 34 true false 1 35,oG 37 34 true (.bin .eql 9 (.tmp 36) (.val (.string ⟨#[]⟩))),oP 38 34 37 false,oM 39 38,kF 40 39 true 3 1,kL 41 39 true false 1 40,oG 42 39 true (.len (.tmp 41)),kG 43 39 true .eql 3 42 0,oP 44 39 43 false,oM 2 44] [1,7,24,26,27,28,29,30,31,32,33,34,35,36,37,38,39,40,41,42,43,44]
abbrev c_91_6:=kR [kK 46 .eql 3 7 2,oM 45 46] [24,46]
abbrev c_91_7:=kV [2196,2197,2198,2199] [kA 47 2 1,oL 48 false 1 47,kC 49 87 0 48,oM 3 49] [7,45,47,48,49]
abbrev c_91_8:=kR [kA 50 1 1,oL 51 false 1 50,kK 52 .eql 3 51 0,oM 53 52,oH 54 53 true 3,oP 55 53 54 false,oM 56 55,kF 57 56 true 2 1,kL 58 56 true false 1 57,oG 59 56 true (.slen (.tmp 58)),kG 60 56 true .leq 3 59 60,oP 61 56 60 false,oM 62 61,kF 63 62 true 3 1,kL 64 62 true false 1 63,oG 65 62 true (.len (.tmp 64)),kG 66 62 true .eql 3 65 0,oP 67 62 66 false,oM 2 67] [1,3,50,51,52,53,54,55,56,57,58,59,60,61,62,63,64,65,66,67]
abbrev c_91_9:=kR [kK 69 .eql 3 7 3,oM 68 69] [45,69]
abbrev c_91_10:=kR [kK 70 .eql 3 7 4,oM 68 70] [70]
abbrev c_91_11:=kR [kA 71 1 1,oL 72 false 1 71,kK 73 .geq 3 72 1,oM 74 73,kF 75 74 true 1 1,kL 76 74 true false 1 75,kG 77 74 true .leq 3 76 100000,oP 78 74 77 false,oM 79 78,kF 80 79 false 1 1,kL 81 79 false false 1 80,oG 82 79 false (.bin .geq 3 (.tmp 81) (.val (.int .i64 (-20)))),oH 83 79 false 82,kF 84 83 true 1 1,kL 85 83 true false 1 84,oG 86 83 true (.bin .leq 3 (.tmp 85) (.val (.int .i64 (-1)))),oG 87 79 false (.pick (.tmp 83) (.tmp 86) (.val (.bool false))),oQ 88 79 87 true,oM 89 88,kF 90 89 true 2 1,kL 91 89 true false 1 90,oG 92 89 true (.bin .eql 9 (.tmp 91) (.val (.string ⟨#[]⟩))),oP 93 89 92 false,oM 94 93,kF 95 94 true 3 1,kL 96 94 true false 1 95,oG 97 94 true (.len (.tmp 96)),kG 98 94 true .eql 3 97 0,oP 99 94 98 false,oM 2 99] [1,7,68,71,72,73,74,75,76,77,78,79,80,81,82,83,84,85,86,87,88,89,90,91,92,93,94,95,96,97,98,99]
abbrev c_91_12:=kR [kK 101 .eql 3 7 5,oM 100 101] [7,68,101]
abbrev c_91_13:=kR [kA 102 1 1,oL 103 false 1 102,kK 104 .neq 3 103 0,oM 105 104,kF 106 105 false 2 1,kL 107 105 false false 1 106,oG 108 105 false (.bin .neq 9 (.tmp 107) (.val (.string ⟨#[]⟩))),oQ 109 105 108 true,oM 110 109,kF 111 110 false 3 1,kL 112 110 false false 1 111,oG 113 110 false (.len (.tmp 112)),kG 114 110 false .gtr 3 113 12,oQ 115 110 114 true] [100,102,103,104,105,106,107,108,109,110,111,112,113,114]
abbrev c_91_14:=kR [kT 2 false] [1,115]
abbrev c_91_15:=kR [kI 4 0] [2,115]
abbrev c_91_16:=kR [oM 116 4,kA 117 3 1,oL 118 false 1 117,kZ 119 118,kB 120 .lss 3 116 119] [116,117,118,119]
abbrev c_91_17:=kR [kA 123 3 1,oL 124 false 1 123,oM 125 4,kX 126 4 124 125,kA 127 0 126,oL 128 false 1 127,kK 129 .eql 3 128 5] [120,123,124,125,126,127,128]
abbrev c_91_18:=kR [kT 2 false] [1,4,129]
abbrev c_91_19:=kV [2540,2541,2542,2543] [kA 130 3 1,oL 131 false 1 130,oM 132 4,kX 133 4 131 132,oL 134 true 4 133,kC 135 196 0 134,oM 5 135] [2,129,130,131,132,133,134,135]
abbrev c_91_20:=kR [oM 136 5,kN 137 136] [5,136]
abbrev c_91_21:=kR [kT 2 false] [1,4,137]
abbrev c_91_22:=kR [oM 121 4,kK 122 .add 3 121 1,oM 4 122] [2,121,122,137]
abbrev c_91_23:SCode:=(.seq (.seq c_91_16 (.cond (.tmp 120) .skip (.exit 1))) (.seq (.block 2 (.seq (.seq c_91_17 (.cond (.tmp 129) (.seq c_91_18 .ret) .skip)) (.seq c_91_19 (.seq c_91_20 (.cond (.tmp 137) (.seq c_91_21 .ret) .skip))))) c_91_22))
abbrev c_91_24:=kR [kT 2 true] [1,4]
abbrev c_91_25:=kR [kT 2 false] [1,100]
abbrev F_91:SFunc:=⟨138,(.seq c_91_0 (.seq (.seq c_91_1 (.block 0 (.seq c_91_2 (.cond (.tmp 8) (.seq c_91_3 .ret) (.seq c_91_4 (.cond (.tmp 24) (.seq c_91_5 .ret) (.seq c_91_6 (.cond (.tmp 45) (.seq c_91_7 (.seq c_91_8 .ret)) (.seq (.seq c_91_9 (.cond (.tmp 68) .skip c_91_10)) (.cond (.tmp 68) (.seq c_91_11 .ret) (.seq c_91_12 (.cond (.tmp 100) (.seq (.seq c_91_13 (.cond (.tmp 115) (.seq c_91_14 .ret) .skip)) (.seq (.seq c_91_15 (.block 1 (.loop c_91_23))) (.seq c_91_24 .ret))) .skip)))))))))))) (.seq c_91_25 .ret))),[.tmp 2],false⟩
theorem tf_91:z6 Go.Proofs.Tryz.prog 196 (hintT [(49,0),(135,0)]) (fpT []) (killT [(0,[0,2]),(1,[6]),(2,[9]),(3,[1,7,8,10,11,12,13,14,15,16,17,18,19,20,21,22,23]),(4,[8,25]),(5,[1,7,24,26,27,28,29,30,31,32,33,34,35,36,37,38,39,40,41,42,43,44]),(6,[24,46]),(7,[7,45,47,48,49]),(8,[1,3,50,51,52,53,54,55,56,57,58,59,60,61,62,63,64,65,66,67]),(9,[45,69]),(10,[70]),(11,[1,7,68,71,72,73,74,75,76,77,78,79,80,81,82,83,84,85,86,87,88,89,90,91,92,93,94,95,96,97,98,99]),(12,[7,68,101]),(13,[100,102,103,104,105,106,107,108,109,110,111,112,113,114]),(14,[1,115]),(15,[2,115]),(16,[116,117,118,119]),(18,[120,123,124,125,126,127,128]),(19,[1,4,129]),(20,[2,129,130,131,132,133,134,135]),(21,[5,136]),(22,[1,4,137]),(17,[2,121,122,137]),(23,[1,4]),(24,[1,100])]) false=some F_91:=by kernel_rfl
def funcs:Nat→Option SFunc
 |_=>none
end Go.Sh.Cd2
end

section
namespace Go.Proofs.YtmiokadmddjccaaGreatDoor
open Go Go.RowKit Go.Mor Go.Sh Go.Sh.Cd1 Go.Sh.Cd2
set_option maxRecDepth 100000
set_option maxHeartbeats 4000000
theorem rightText_doc(s:List UInt8):z10 s=(isText s&&decide (s.length≤60)):=by
 unfold z10;rw[isText_eq s.length s (Nat.le_refl _),Bool.and_comm]
theorem rightID_doc(n:Int):rightID n=(decide (1≤n)&&decide (n≤100000)||decide (-20≤n)&&decide (n≤ -1)):=by
 unfold rightID;rw[Bool.eq_iff_iff];simp
theorem refRight1_ok(g:Sh.Glob)(x:V)(hs:z59 x)(h5:x.k≠5):SCalls Tryz.prog g 196 [tv x] [] (B (right1 x)) []:=by
 obtain⟨k,n,s,l⟩:=x;have HT:=isText_ok g s hs;have hln:decide ((l.length:Int)=0)=(l.length==0):=by rw[Bool.eq_iff_iff];simp
 have k5:¬k=5:=h5;have hl60:decide ((s.length:Int)≤60)=decide (s.length≤60):=by rw[Bool.eq_iff_iff];simp;omega
 have hb:bare (.mk k n s l)=(s==[]&&l.length==0):=rfl;have hn0:(n==0)=decide (n=0):=by rw[Bool.eq_iff_iff];simp
 rw[right1_mk,hb,rightText_doc,rightID_doc,hn0];clear h5 hs hb;have key:∀(kk:Int),kk=3∨kk=4→SCalls Tryz.prog g 196 [tv (.mk kk n s l)] [] (.pv (.v (.bool ((s==[]&&l.length==0)&&(decide (1≤n)&&decide (n≤100000)||decide (-20≤n)&&decide (n≤ -1)))))) []:=by
  intro kk hkk;refine z7 hmix tf_91 rfl ?_;rcases hkk with rfl|rfl
  all_goals
   by_cases hid:(1≤n∧n≤100000)∨(-20≤n∧n≤ -1)
   ·have e:(decide (1≤n)&&decide (n≤100000)||decide (-20≤n)&&decide (n≤ -1))=true:=by simpa using hid
    rw[e];rcases hid with⟨q1,q2⟩|⟨q3,q4⟩
    ·cases hs:s==[]<;>simp only[vcA,seval,vV,e0,q1,q2,hs,hln]
    ·have q1:¬1≤n:=by omega
     cases hs:s==[]<;>simp only[vcA,seval,vV,e0,q1,q3,q4,hs,hln]
   ·have e:(decide (1≤n)&&decide (n≤100000)||decide (-20≤n)&&decide (n≤ -1))=false:=by rw[←Bool.not_eq_true];simpa using hid
    rw[e];by_cases q1:1≤n
    ·have q2:¬n≤100000:=by omega
     have q3: -20≤n:=by omega
     have q4:¬n≤ -1:=by omega
     simp only[vcA,seval,vV,q1,q2,q3,q4]
    ·by_cases q3: -20≤n
     ·have q4:¬n≤ -1:=by omega
      simp only[vcA,seval,vV,q1,q3,q4]
     ·simp only[vcA,seval,vV,q1,q3]
 by_cases k34:k=3∨k=4
 ·rw[if_neg (by omega),if_neg (by omega),if_neg (by omega),if_pos k34];exact key k k34
 clear key;refine z7 hmix tf_91 rfl ?_;unfold B at*;by_cases k0:k=0
 ·subst k0;by_cases n0:n=0
  ·subst n0;cases hs:s==[]<;>simp only[vcA,seval,vV,e0,hs,hln]
  ·simp only[vcA,seval,vV,n0]
 rw[if_neg k0];by_cases k1:k=1
 ·subst k1;by_cases q1: -1000000000000000≤n
  ·by_cases q2:n≤1000000000000000
   ·cases hs:s==[]<;>simp only[vcA,seval,vV,e0,q1,q2,hs,hln]
   ·simp only[vcA,seval,vV,q1,q2]
  ·simp only[vcA,seval,vV,q1]
 rw[if_neg k1];by_cases k2:k=2
 ·subst k2;simp only[vcA,seval,vV];(with_reducible apply v_call);exact kv;rfl;exact HT;exact km;exact kv;by_cases n0:n=0
  ·subst n0;cases isText s
   ·simp only[vcA,seval,vV]
   ·by_cases q:(s.length:Int)≤60
    ·have q':s.length≤60:=by omega
     simp only[vcA,seval,vV,q,q',hln]
    ·have q':¬s.length≤60:=by omega
     simp only[vcA,seval,vV,q,q']
  ·simp only[vcA,seval,vV,n0]
 rw[if_neg k2];rw[if_neg k34];have k3:¬k=3:=fun h=>k34 (.inl h);have k4:¬k=4:=fun h=>k34 (.inr h);simp only[vcA,seval,vV,k0,k1,k2,k3,k4,k5]
end Go.Proofs.YtmiokadmddjccaaGreatDoor
end

section
namespace Go.Proofs.YtmiokadmddjccaaGreatDoor
open Go Go.RowKit Go.Mor Go.Sh Go.Sh.Cd1 Go.Sh.Cd5
set_option maxRecDepth 100000
set_option maxHeartbeats 4000000
theorem refName_ok(g:Sh.Glob)(l:List UInt8)(hl:l.length<4611686018427387904):SCalls Tryz.prog g 197 [S (str l)] [] (B (z13 l)) []:=by
 refine z7 hmix tf_95 rfl ?_;unfold B;by_cases h1:1≤l.length
 ·have d1:¬(l.length:Int)<1:=by omega
  by_cases h20:l.length≤20
  ·have d2:¬(20:Int)<(l.length:Int):=by omega
   have hR:z13 l=(small (l.headD 0)&&l.all nameB):=by unfold z13;rw[decide_eq_true ⟨h1,h20⟩];simp
   rw[hR];obtain⟨r,hr⟩:∃r,(small (l.headD 0)&&l.all nameB)=r:=⟨_,rfl⟩
   rw[hr];simp only[vcA,seval,vV,d1,d2];refine v_loop (σ:={ k:Nat // k≤l.length∧(0<k→small (l.headD 0)=true)∧(l.drop k).all nameB=l.all nameB })
    (fun k=>⟨[(0,S (str l)),(3,I (k.1:Int))],[],[],[]⟩) (fun k=>l.length-k.1) ⟨0,Nat.zero_le _,by omega,rfl⟩ ?_ ?_
   ·apply lw_of<;>simp[leL,lk,sv,Nat.beq,I,S,ES.kill,has,drp,nilT]
   rintro⟨k,hk,hh,hd⟩;by_cases hlt:k<l.length
   ·have d3:(k:Int)<(l.length:Int):=by omega
    obtain⟨b,eb⟩:∃b,l[k]?=some b:=⟨_,gE hlt⟩
    rw[z64 eb,List.all_cons]at hd;have hbn:=b.toNat_lt;have w4:IntKind.i64.wrap ((k:Int)+1)=((k+1:Nat):Int):=by rw[wrap64 (by omega) (by omega)];omega
    have h0:k=0→l.headD 0=b:=by
     rintro rfl;cases l with
     |nil=>simp at eb
     |cons x r=>simpa using eb
    have cls:(b.toNat<48)∨(48≤b.toNat∧b.toNat≤57)∨(57<b.toNat∧b.toNat<97∧b.toNat≠95)∨b.toNat=95∨(97≤b.toNat∧b.toNat≤122)∨122<b.toNat:=by omega
    rcases cls with q|q|q|q|q|q
    ·have t1:¬(97:Int)≤(b.toNat:Int):=by omega
     have t3:¬(48:Int)≤(b.toNat:Int):=by omega
     have t5:¬(b.toNat:Int)=95:=by omega
     have hn:nameB b=false:=by unfold nameB small;simp;omega
     rw[hn,Bool.false_and]at hd;have hf:r=false:=by rw[←hr,←hd,Bool.and_false]
     subst hf;by_cases k0:(k:Int)=0
     ·have k00:k=0:=by omega
      have d30:(0:Int)<(l.length:Int):=by omega
      have e00:l[0]?=some b:=by rw[←k00];exact eb
      simp only[vcA,seval,vV,d3,eb,t1,t3,t5,k0,d30,e00]
     ·simp only[vcA,seval,vV,d3,eb,t1,t3,t5,k0]
    ·have t1:¬(97:Int)≤(b.toNat:Int):=by omega
     have t3:(48:Int)≤(b.toNat:Int):=by omega
     have t4:(b.toNat:Int)≤57:=by omega
     have hn:nameB b=true:=by unfold nameB;simp;omega
     have hs:small b=false:=by unfold small;simp;omega
     rw[hn,Bool.true_and]at hd;by_cases k0:(k:Int)=0
     ·have k00:k=0:=by omega
      have d30:(0:Int)<(l.length:Int):=by omega
      have e00:l[0]?=some b:=by rw[←k00];exact eb
      have hf:r=false:=by rw[←hr,h0 (by omega),hs];rfl
      subst hf;simp only[vcA,seval,vV,d3,eb,t1,t3,t4,k0,d30,e00]
     ·simp only[vcA,seval,vV,d3,eb,t1,t3,t4,k0,w4];refine z11 ⟨k+1,hlt,fun _=>hh (by omega),hd⟩ (by show l.length-(k+1)<l.length-k;omega) ?_;apply lw_of<;>simp[leL,lk,sv,Nat.beq,I,S,ES.kill,has,drp,nilT]
    ·have t1:¬(97:Int)≤(b.toNat:Int):=by omega
     have t3:(48:Int)≤(b.toNat:Int):=by omega
     have t4:¬(b.toNat:Int)≤57:=by omega
     have t5:¬(b.toNat:Int)=95:=by omega
     have hn:nameB b=false:=by unfold nameB small;simp;omega
     rw[hn,Bool.false_and]at hd;have hf:r=false:=by rw[←hr,←hd,Bool.and_false]
     subst hf;by_cases k0:(k:Int)=0
     ·have k00:k=0:=by omega
      have d30:(0:Int)<(l.length:Int):=by omega
      have e00:l[0]?=some b:=by rw[←k00];exact eb
      simp only[vcA,seval,vV,d3,eb,t1,t3,t4,t5,k0,d30,e00]
     ·simp only[vcA,seval,vV,d3,eb,t1,t3,t4,t5,k0]
    ·have t1:¬(97:Int)≤(b.toNat:Int):=by omega
     have t3:(48:Int)≤(b.toNat:Int):=by omega
     have t4:¬(b.toNat:Int)≤57:=by omega
     have t5:(b.toNat:Int)=95:=by omega
     have hn:nameB b=true:=by unfold nameB;simp[q]
     have hs:small b=false:=by unfold small;simp;omega
     rw[hn,Bool.true_and]at hd;by_cases k0:(k:Int)=0
     ·have k00:k=0:=by omega
      have d30:(0:Int)<(l.length:Int):=by omega
      have e00:l[0]?=some b:=by rw[←k00];exact eb
      have hf:r=false:=by rw[←hr,h0 (by omega),hs];rfl
      subst hf;simp only[vcA,seval,vV,d3,eb,t1,t3,t4,t5,k0,d30,e00]
     ·simp only[vcA,seval,vV,d3,eb,t1,t3,t4,t5,k0,w4];refine z11 ⟨k+1,hlt,fun _=>hh (by omega),hd⟩ (by show l.length-(k+1)<l.length-k;omega) ?_;apply lw_of<;>simp[leL,lk,sv,Nat.beq,I,S,ES.kill,has,drp,nilT]
    ·have t1:(97:Int)≤(b.toNat:Int):=by omega
     have t2:(b.toNat:Int)≤122:=by omega
     have t3:(48:Int)≤(b.toNat:Int):=by omega
     have t4:¬(b.toNat:Int)≤57:=by omega
     have t5:¬(b.toNat:Int)=95:=by omega
     have hs:small b=true:=by unfold small;simp;omega
     have hn:nameB b=true:=by unfold nameB;rw[hs];rfl
     rw[hn,Bool.true_and]at hd;simp only[vcA,seval,vV,d3,eb,t1,t2,t3,t4,t5,w4];refine z11 ⟨k+1,hlt,fun _=> ?_,hd⟩ (by show l.length-(k+1)<l.length-k;omega) ?_
     ·by_cases k0:k=0
      ·rw[h0 k0];exact hs
      ·exact hh (by omega)
     apply lw_of<;>simp[leL,lk,sv,Nat.beq,I,S,ES.kill,has,drp,nilT]
    ·have t1:(97:Int)≤(b.toNat:Int):=by omega
     have t2:¬(b.toNat:Int)≤122:=by omega
     have t3:(48:Int)≤(b.toNat:Int):=by omega
     have t4:¬(b.toNat:Int)≤57:=by omega
     have t5:¬(b.toNat:Int)=95:=by omega
     have hn:nameB b=false:=by unfold nameB small;simp;omega
     rw[hn,Bool.false_and]at hd;have hf:r=false:=by rw[←hr,←hd,Bool.and_false]
     subst hf;by_cases k0:(k:Int)=0
     ·have k00:k=0:=by omega
      have d30:(0:Int)<(l.length:Int):=by omega
      have e00:l[0]?=some b:=by rw[←k00];exact eb
      simp only[vcA,seval,vV,d3,eb,t1,t2,t3,t4,t5,k0,d30,e00]
     ·simp only[vcA,seval,vV,d3,eb,t1,t2,t3,t4,t5,k0]
   ·have d3:¬(k:Int)<(l.length:Int):=by omega
    rw[List.drop_eq_nil_of_le (by omega)]at hd;have hf:r=true:=by rw[←hr,←hd,hh (by omega)];rfl
    subst hf;simp only[vcA,seval,vV,d3]
  ·have d2:(20:Int)<(l.length:Int):=by omega
   have hR:z13 l=false:=by unfold z13;rw[decide_eq_false (by omega)];rfl
   rw[hR];simp only[vcA,seval,vV,d1,d2]
 ·have d1:(l.length:Int)<1:=by omega
  have hR:z13 l=false:=by unfold z13;rw[decide_eq_false (by omega)];rfl
  rw[hR];simp only[vcA,seval,vV,d1]
theorem refTextR_ok(g:Sh.Glob)(l:List UInt8)(hl:l.length<4611686018427387904):SCalls Tryz.prog g 196 [nv (.mk 2 0 l [])] [] (B (z10 l)) []:=by
 have HR:=refRight1_ok g (.mk 2 0 l []) (by unfold z59 V.s;simp only;omega) (by simp[V.k]);have hk:right1 (.mk 2 0 l [])=z10 l:=by unfold right1;simp[V.k,V.n,V.l,V.s]
 rw[hk]at HR;exact HR.inp (xs:=[nv (.mk 2 0 l [])]) rfl (fun j c d hc hd=>by
  match j with
  |0=>simp at hc hd;subst hc;subst hd;exact nv_tv rfl
  |j+1=>simp at hc)
theorem refNode_ok(g:Sh.Glob)(e:V)(he:ESmall e):SCalls Tryz.prog g 164 [tv e] [] (B (nodeE e)) []:=by
 refine z7 hmix tf_99 rfl ?_;have HT:=refTextR_ok g e.s he.txt;have HN:=refName_ok g e.s he.txt;have HB:=refBinds_ok g e.s;have HK:=refArity_ok g e.s;have e0:(⟨#[]⟩:ByteArray)=str []:=rfl;have hlen0:decide ((e.l.length:Int)=0)=(e.l.length==0):=by rw[Bool.eq_iff_iff];simp
 have hlen1:decide ((e.l.length:Int)=1)=(e.l.length==1):=by rw[Bool.eq_iff_iff];simp;omega
 have hlen2:decide ((e.l.length:Int)=2)=(e.l.length==2):=by rw[Bool.eq_iff_iff];simp;omega
 have e45:(⟨#[45]⟩:ByteArray)=str [45]:=rfl;unfold nv at HT;unfold B at*;unfold nodeE;by_cases k1:e.k=1
 ·rw[if_neg (by simp[k1]),if_pos k1];simp only[vcA,seval,vV,bmV,k1,e0,beqL]
  repeat' (first|(apply And.intro)|(intro _))
  all_goals(first|(simp_all;done)|(simp only[Option.some.injEq,Prod.mk.injEq,TV.pv.injEq,PV.v.injEq,Value.bool.injEq];rw[Bool.eq_iff_iff];simp_all<;>omega))
 by_cases n0:e.n=0
 ·rw[if_neg (by simp[n0]),if_neg k1];by_cases k2:e.k=2
  ·rw[if_pos k2];simp only[vcA,seval,vV,bmV,k2,n0];(with_reducible apply v_call);exact kv;rfl;exact HT;exact km;exact kv;cases z10 e.s
   ·simp only[vcA,seval,vV,bmV]
   ·simp only[vcA,seval,vV,bmV,hlen0,Bool.true_and]
  rw[if_neg k2];by_cases k3:e.k=3
  ·rw[if_pos k3];simp only[vcA,seval,vV,bmV,k3,n0];(with_reducible apply v_call);exact kv;rfl;exact HN;exact km;exact kv;cases z13 e.s
   ·simp only[vcA,seval,vV,bmV]
   ·simp only[vcA,seval,vV,bmV,hlen0,Bool.true_and]
  rw[if_neg k3];by_cases k4:e.k=4
  ·rw[if_pos k4];simp only[vcA,seval,vV,bmV,k4,n0];(with_reducible apply v_call);exact kv;rfl;exact HB;exact km;exact kv;simp only[vcA,seval,vV,bmV];refine⟨fun h=> ?_,fun h=> ?_⟩
   ·rw[decide_eq_true h,hlen2,Bool.true_and]
   ·rw[decide_eq_false h,Bool.false_and]
  rw[if_neg k4];by_cases k5:e.k=5
  ·rw[if_pos k5];simp only[vcA,seval,vV,bmV,k5,n0,e45];cases e.s==[45]
   ·simp only[vcA,seval,vV,bmV]
   ·simp only[vcA,seval,vV,bmV,hlen1,Bool.true_and]
  rw[if_neg k5];by_cases k6:e.k=6
  ·rw[if_pos k6];simp only[vcA,seval,vV,bmV,k6,n0];(with_reducible apply v_call);exact kv;rfl;exact HK;exact km;exact kv;simp only[vcA,seval,vV,bmV];refine⟨fun h=> ?_,fun h=> ?_⟩
   ·(with_reducible apply v_call);exact kv;rfl;exact HK;exact km;exact kv;simp only[vcA,seval,vV,bmV,h]
   ·rw[decide_eq_false h,Bool.false_and]
  ·rw[if_neg k6];simp only[vcA,seval,vV,bmV,k1,k2,k3,k4,k5,k6,n0]
 ·rw[if_pos ⟨k1,n0⟩];by_cases k2:e.k=2
  ·simp only[vcA,seval,vV,bmV,k2,n0]
  by_cases k3:e.k=3
  ·simp only[vcA,seval,vV,bmV,k3,n0]
  by_cases k4:e.k=4
  ·simp only[vcA,seval,vV,bmV,k4,n0]
  by_cases k5:e.k=5
  ·simp only[vcA,seval,vV,bmV,k5,n0]
  by_cases k6:e.k=6
  ·simp only[vcA,seval,vV,bmV,k6,n0]
  simp only[vcA,seval,vV,bmV,k1,k2,k3,k4,k5,k6]
def roomV(d:Nat)(e:V)(n:Nat):Int:=if okE d e=true∧szE d e≤n then((n-szE d e:Nat):Int)else -1
def roomL(d:Nat):List V→Nat→Int
 |[],n=>n
 |x::l,n=>if okE d x=true∧szE d x≤n then roomL d l (n-szE d x)else -1
theorem roomL_eq(d:Nat):∀(l:List V) (n:Nat),roomL d l n=if(∀x∈l,okE d x=true)∧(l.map (szE d)).sum≤n then((n-(l.map (szE d)).sum:Nat):Int)else -1
 |[],n=>by simp[roomL]
 |x::l,n=>by
  have ih:=roomL_eq d l (n-szE d x);unfold roomL;by_cases h1:okE d x=true∧szE d x≤n
  ·rw[if_pos h1,ih];by_cases h2:(∀y∈l,okE d y=true)∧(l.map (szE d)).sum≤n-szE d x
   ·rw[if_pos h2,if_pos]
    ·rw[List.map_cons,List.sum_cons];congr 1;omega
    ·refine⟨fun y hy=> ?_,by rw[List.map_cons,List.sum_cons];omega⟩;rcases List.mem_cons.1 hy with rfl|hy
     ·exact h1.1
     ·exact h2.1 y hy
   ·rw[if_neg h2,if_neg];rintro⟨h3,h4⟩;rw[List.map_cons,List.sum_cons]at h4;exact h2 ⟨fun y hy=>h3 y (List.mem_cons_of_mem _ hy),by omega⟩
  ·rw[if_neg h1,if_neg];rintro⟨h3,h4⟩;rw[List.map_cons,List.sum_cons]at h4;exact h1 ⟨h3 x (List.mem_cons_self ..),by omega⟩
theorem roomV_eq(d:Nat)(e:V)(n:Nat):roomV (d+1) e (n+1)=if nodeE e then roomL d e.l n else -1:=by
 unfold roomV;rw[roomL_eq,okE,szE];cases hn:nodeE e
 ·simp
 ·simp only[Bool.true_and,if_true,List.all_eq_true];by_cases h:(∀x∈e.l,okE d x=true)∧(e.l.map (szE d)).sum≤n
  ·rw[if_pos h,if_pos ⟨h.1,by omega⟩];congr 1;omega
  ·rw[if_neg h,if_neg];rintro⟨h1,h2⟩;exact h ⟨h1,by omega⟩
def leftT(c:Option Nat):Int:=match c with|some n=>(n:Int)|none=> -1
theorem refRoom_ok(g:Sh.Glob):∀(d:Nat),d≤8→∀(e:V),ESmall e→∀(n:Nat),n≤40→SCalls Tryz.prog g 102 [tv e,I (d:Int),I (n:Int)] [] (I (roomV d e n)) []:=by
 intro d
 induction d with
 |zero=>
  intro _ e he n hn;refine z7 hmix tf_100 rfl ?_;rw[show roomV 0 e n= -1 by unfold roomV;simp[okE]];simp only[vcA,seval,vV]
 |succ d ih=>
  intro hd e he n hn;refine z7 hmix tf_100 rfl ?_;have d0:¬((d+1:Nat):Int)<1:=by omega
  have HN:=refNode_ok g e he;have HD:=fun e he n hn=>ih (by omega) e he n hn;have hl:=he.len;have w2:IntKind.i64.wrap (((d+1:Nat):Int) - 1)=(d:Int):=by rw[wrap64 (by omega) (by omega)];omega
  unfold B at*;cases n with
  |zero=>
   rw[show roomV (d+1) e 0= -1 by unfold roomV szE;rw[if_neg (by omega)]];simp only[vcA,seval,vV,d0]
  |succ n=>
  have d1:¬((n+1:Nat):Int)<1:=by omega
  have w1:IntKind.i64.wrap (((n+1:Nat):Int) - 1)=(n:Int):=by rw[wrap64 (by omega) (by omega)];omega
  rw[roomV_eq];simp only[vcA,seval,vV,d0,d1];(with_reducible apply v_call);simp only[vcA,seval,vV,bmV];rfl;rfl;exact HN;exact km;simp only[vcA,seval,vV,bmV];rfl;cases hN:nodeE e
  ·simp only[vcA,seval,vV,d0,d1];try simp
  simp only[if_true];simp only[vcA,seval,vV,d0,d1,w1];generalize hR:roomL d e.l n=R;refine v_loop (σ:={x:Nat×Option Nat // x.1≤e.l.length∧(match x.2 with|some n=>n≤40∧roomL d (e.l.drop x.1) n=R|none=>R= -1)})
   (fun x=>⟨[(1,I ((d+1:Nat):Int)),(2,I (leftT x.1.2)),(3,.ptr 3 0),(7,I (x.1.1:Int))],[(3,[I e.k,I e.n,S (str e.s),.pv (.sl 4 (V.rows e.l))])],[],[]⟩)
   (fun x=>e.l.length-x.1.1) ⟨(0,some n),by omega,by omega,by simpa using hR⟩ ?_ ?_
  ·apply lw_of<;>simp[leL,lk,sv,Nat.beq,I,S,ES.kill,has,drp,nilT,leftT]
  rintro⟨⟨i,c⟩,hi,hq⟩;simp only at hi;have w3:IntKind.i64.wrap ((i:Int)+1)=((i+1:Nat):Int):=by rw[wrap64 (by omega) (by omega)];omega
  by_cases hlt:i<e.l.length
  ·have d2:(i:Int)<(e.l.length:Int):=by omega
   obtain⟨y,ey⟩:∃y,e.l[i]?=some y:=⟨_,gE hlt⟩
   have hdr:e.l.drop i=y::e.l.drop (i+1):=by rw[List.drop_eq_getElem_cons hlt];congr 1;exact(gJ ey).2
   cases c with
   |none=>
    have hq:R= -1:=hq;unfold leftT;simp only[vcA,seval,vV,d2];rw[hq]
   |some n1=>
    obtain⟨hn1,hq⟩:=hq;simp only at hq;rw[hdr]at hq;unfold roomL at hq;have d3:(0:Int)≤(n1:Int):=by omega
    have HY:=HD y (he.sub (gM ey)) n1 hn1;unfold roomV at HY;unfold leftT;by_cases hy:okE d y=true∧szE d y≤n1
    ·rw[if_pos hy]at hq HY;simp only[vcA,seval,vV,d2,d3,ey,w2];(with_reducible apply v_call);simp only[vcA,seval,vV,bmV];rfl;rfl;exact HY;exact km;simp only[vcA,seval,vV,bmV];rfl;simp only[vcA,seval,vV,w3];refine z11 ⟨(i+1,some (n1-szE d y)),by simp only;omega,by omega,hq⟩ (by show e.l.length-(i+1)<e.l.length-i;omega) ?_;apply lw_of<;>simp[leL,lk,sv,Nat.beq,I,S,ES.kill,has,drp,nilT,leftT]
    ·rw[if_neg hy]at hq HY;simp only[vcA,seval,vV,d2,d3,ey,w2];(with_reducible apply v_call);simp only[vcA,seval,vV,bmV];rfl;rfl;exact HY;exact km;simp only[vcA,seval,vV,bmV];rfl;simp only[vcA,seval,vV,w3];refine z11 ⟨(i+1,none),by simp only;omega,hq.symm⟩ (by show e.l.length-(i+1)<e.l.length-i;omega) ?_;apply lw_of<;>simp[leL,lk,sv,Nat.beq,I,S,ES.kill,has,drp,nilT,leftT]
  ·have d2:¬(i:Int)<(e.l.length:Int):=by omega
   obtain rfl:i=e.l.length:=by omega
   cases c with
   |none=>
    have hq:R= -1:=hq;unfold leftT;simp only[vcA,seval,vV,d2];rw[hq]
   |some n1=>
    obtain⟨hn1,hq⟩:=hq;simp only at hq;rw[List.drop_length]at hq;unfold roomL at hq;unfold leftT;simp only[vcA,seval,vV,d2];rw[hq]
theorem refRightE_ok(g:Sh.Glob)(e:V)(he:ESmall e):SCalls Tryz.prog g 58 [tv e] [] (B (rightE e)) []:=by
 have HR:=refRoom_ok g 8 (by omega) e he 40 (by omega);have hr:decide (0≤roomV 8 e 40)=rightE e:=by
  unfold roomV rightE;rw[Bool.eq_iff_iff];by_cases h:okE 8 e=true∧szE 8 e≤40
  ·rw[if_pos h];simp[h.1,h.2]
  ·rw[if_neg h];simp only[Int.reduceNeg,decide_eq_true_eq,Bool.and_eq_true];exact⟨fun h1=>absurd h1 (by omega),fun h1=>absurd h1 h⟩
 unfold B;refine z7 hmix tf_98 rfl ?_;simp only[vcA,seval,vV];(with_reducible apply v_call);simp only[vcA,seval,vV,bmV];rfl;rfl;exact HR;exact km;simp only[vcA,seval,vV,bmV];rfl;simp only[vcA,seval,vV,hr]
end Go.Proofs.YtmiokadmddjccaaGreatDoor
end

section
namespace Go.Proofs.YtmiokadmddjccaaGreatDoor
open Go Go.RowKit Go.Mor Go.Sh Go.Sh.Cd1 Go.Sh.Cd6
set_option maxRecDepth 100000
set_option maxHeartbeats 8000000
theorem exprOf6_ok(m:Nat)(l:List UInt8)(c:Cls)(kind:Int)(hk:kind=1∨kind=2)(hl:l.length≤9223372036854775807)(hc:c.fs.length≤1000)(hok:okE 5 (treeM l c.fs 4 kind 0).1=true):
  SCalls Tryz.prog (gl0 m) 32 [.pv (.sl 1 (byR l)),clT c,I kind] [] (tv (exprOf l c.fs kind)) []:=by
 have HT:=tree6_ok (g:=gl0 m) (c:=c) hl hc 3 (by omega) kind 0 hk (Nat.zero_le _);have hle:=treeM_le (l:=l) c.fs 4 kind 0 (Nat.zero_le _);have HF:=field6_ok (gl0 m) l c _ kind hl hc hle;have HR:=refRightE_ok (gl0 m) (treeM l c.fs 4 kind 0).1 (okE_small 5 _ hok);unfold exprOf;unfold mkC at HT HF;cases hr:rightE (treeM l c.fs 4 kind 0).1
 ·rw[hr]at HR;rw[if_neg (by simp)];refine SCalls.out ?_ (nv_tv (fieldW_l _ _ _));unfold B clT tv nv at*;refine z7 hmix tf_77 rfl ?_;simp only[vcA,seval,vV];(with_reducible apply v_call);exact kv;rfl;exact HT;exact km;exact kv;simp only[vcA,seval,vV];(with_reducible apply v_call);exact kv;rfl;exact HR;exact km;exact kv;simp only[vcA,seval,vV];(with_reducible apply v_call);exact kv;rfl;exact HF;exact km;exact kv;simp only[vcA,seval,vV]
 ·rw[hr]at HR;rw[if_pos rfl];unfold B clT tv at*;refine z7 hmix tf_77 rfl ?_;simp only[vcA,seval,vV];(with_reducible apply v_call);exact kv;rfl;exact HT;exact km;exact kv;simp only[vcA,seval,vV];(with_reducible apply v_call);exact kv;rfl;exact HR;exact km;exact kv;simp only[vcA,seval,vV]
theorem flR_snoc(l:List Fld)(f:Fld):flR (l++[f])=flR l++[flR1 f]:=by unfold flR;rw[List.map_append];rfl
theorem field_tuple(l:List Fld)(s:List UInt8):∃(p:Int) (t:Bool),fieldT l s=.tuple [I p,.pv (.v (.bool t))]∧(fieldAt l s<0 ↔ t=false):=by
 unfold fieldT B;by_cases h:fieldAt l s<0
 ·rw[if_pos h];exact⟨0,false,rfl,fun _=>rfl,fun _=>h⟩
 ·rw[if_neg h];exact⟨_,true,rfl,fun h'=>absurd h' h,fun h'=>by cases h'⟩
theorem classOf4_ok(g:Sh.Glob)(x:Raw)(hx:RawOk x):SCalls Tryz.prog g 21 [rawT x] [] (clT (z8 x)) []:=by
 have PN:=pick4_ok g x.n 6 hx.n (by decide);have hb:=z26 x.n 6 (by decide);have hlx:=hx.len;obtain⟨q,hq⟩:=Int.eq_ofNat_of_zero_le hb.1;have ec:=nmC_at (i:=q) (by omega);have e0:z8 x=⟨nmC (q:Int),(x.fs.take 6).foldl addF []⟩:=by unfold z8;rw[hq]
 rw[e0];rw[hq]at PN;refine call_of1 hmix tf_70 rfl rfl ?_;unfold rawT clT;simp only[vcA,seval,vV];(with_reducible apply v_call);exact kv;rfl;exact PN;exact km;exact kv;simp only[vcA,seval,vV,ec];refine v_loop (σ:={i:Nat // i≤x.fs.length∧i≤6}) (fun i=>⟨[(1,.ptr 1 0),(2,.ptr 2 0),(3,.pv (.sl 1 [[PV.v (.string ⟨#[97]⟩)],[.v (.string ⟨#[98,50]⟩)],[.v (.string ⟨#[110,97,109,101]⟩)],[.v (.string ⟨#[110,101,120,116,95,111,110,101]⟩)],[.v (.string ⟨#[107,105,100,115]⟩)],[.v (.string ⟨#[120]⟩)]])),(4,.ptr 4 0),(5,I (i.1:Int))],
   [(1,[I x.n,.pv (.sl 4 (rfR x.fs))]),(2,[S ⟨#[]⟩,nilT]),(4,[S (str (nmC (q:Int))),.own 3000 4 (flR ((x.fs.take i.1).foldl addF []))])],[(3000,(62,4,((x.fs.take i.1).foldl addF []).length))],[]⟩) (fun i=>6-i.1) ⟨0,Nat.zero_le _,Nat.zero_le _⟩ ?_ ?_
 ·refine ES.Lw.trans ?_ (adB_lw (x:=4) (j:=1) (d:=3000) (e:=62) (W:=4) (.inr (by decide)) (by decide) rfl (by simp only[vcA,seval]) rfl);exact lw_eq rfl
 rintro⟨i,hi,hi6⟩;by_cases hlt:i<x.fs.length∧i<6
 ·obtain⟨hlt,hl6⟩:=hlt;have d1:(i:Int)<(x.fs.length:Int):=by omega
  have d2:(i:Int)<6:=by omega
  obtain⟨r,er⟩:∃r,x.fs[i]?=some r:=⟨_,gE hlt⟩
  have w1:IntKind.i64.wrap ((i:Int)+1)=((i+1:Nat):Int):=by rw[wrap64 (by omega) (by omega)];omega
  obtain⟨r1,r2,r3⟩:=hx.fs r (gM er);have P1:=pick4_ok g r.n 6 r1 (by decide);have P2:=pick4_ok g r.k 5 r2 (by decide);have P3:=pick4_ok g r.o 4 r3 (by decide);have b1:=z26 r.n 6 (by decide);have b2:=z26 r.k 5 (by decide);have b3:=z26 r.o 4 (by decide);have hst:=class_step x.fs i r er;have hal:=class_len x.fs i;rw[addF]at hst;have hF:z112 r=⟨nmF (Go.Mor.pick r.n 6),⟨1+Go.Mor.pick r.k 5,if Go.Mor.pick r.k 5=4 then 1+Go.Mor.pick r.o 4 else 0⟩,r.ix&&decide (1+Go.Mor.pick r.k 5≤3)⟩:=rfl;rw[hF]at hst;simp only[]at hst;obtain⟨j,hj⟩:=Int.eq_ofNat_of_zero_le b1.1;have ej:=nmF_at (i:=j) (by omega);rw[hj]at P1 hst;change _=(if fieldAt ((x.fs.take i).foldl addF []) (nmF (j:Int))<0 then _ else(x.fs.take i).foldl addF [])at hst;generalize(x.fs.take i).foldl addF []=acc at*;generalize Go.Mor.pick r.k 5=b at*;generalize Go.Mor.pick r.o 4=o at*;have HF:=refField_ok g ⟨nmC (q:Int),acc⟩ (nmF (j:Int)) (by show acc.length≤_;omega);obtain⟨p,t,hp,ht⟩:=field_tuple acc (nmF (j:Int));rw[show fieldT (Cls.fs ⟨nmC (q:Int),acc⟩) (nmF (j:Int))=_ from hp]at HF;unfold clT at HF;have w2:IntKind.i64.wrap (1+b)=1+b:=wrap64 (by omega) (by omega);have w3:IntKind.i64.wrap (1+o)=1+o:=wrap64 (by omega) (by omega)
  have hfl:=flLen acc;by_cases h4:b=4
  ·have d5:1+b=5:=by omega
   have d3:¬1+b≤3:=by omega
   have hix:(r.ix&&decide (1+b≤3))=false:=by rw[decide_eq_false d3,Bool.and_false]
   rw[if_pos h4,hix,d5]at hst;have w5:IntKind.i64.wrap 5=5:=wrap64 (by omega) (by omega);cases hr:r.ix;all_goals(
    simp only[vcA,seval,vV,rfGet,rfLen,rfR1,d1,d2,er,nilT];(with_reducible apply v_call);exact kv;rfl;exact P1;exact km;exact kv;simp only[vcA,seval,vV,ej];(with_reducible apply v_call);exact kv;rfl;exact P2;exact km;exact kv;simp only[vcA,seval,vV,w2,d5,w5];(with_reducible apply v_call);exact kv;rfl;exact P3;exact km;exact kv;simp only[vcA,seval,vV,w3,hr];(with_reducible apply v_call);exact kv;rfl;exact HF;exact km;exact kv;cases t
    ·rw[if_pos (ht.2 rfl)]at hst;simp only[vcA,seval,vV,hfl,w1];refine⟨⟨by omega,by unfold maxLen;omega⟩,z11 ⟨i+1,hlt,hl6⟩ (by show 6-(i+1)<6-i;omega) ?_⟩;simp only[hst,flR_snoc,List.length_append,List.length_singleton];apply lw_of<;>simp[leL,lk,sv,Nat.beq,I,S,ES.kill,has,drp,nilT,flR1]
    ·rw[if_neg (fun h=>Bool.noConfusion (ht.1 h))]at hst;simp only[vcA,seval,vV,w1];refine z11 ⟨i+1,hlt,hl6⟩ (by show 6-(i+1)<6-i;omega) ?_;simp only[hst];apply lw_of<;>simp[leL,lk,sv,Nat.beq,I,S,ES.kill,has,drp,nilT])
  ·have d5:¬1+b=5:=by omega
   rw[if_neg h4]at hst;have hc:(r.ix=false∧(True∨False)∧(r.ix&&decide (1+b≤3))=false)∨(r.ix=true∧1+b≤3∧(r.ix&&decide (1+b≤3))=true)∨(r.ix=true∧¬1+b≤3∧(r.ix&&decide (1+b≤3))=false):=by
    cases r.ix
    ·exact .inl ⟨rfl,.inl trivial,rfl⟩
    ·by_cases h:1+b≤3
     ·exact .inr (.inl ⟨rfl,h,by rw[decide_eq_true h];rfl⟩)
     ·exact .inr (.inr ⟨rfl,h,by rw[decide_eq_false h];rfl⟩)
   rcases hc with⟨hr,d3,hix⟩|⟨hr,d3,hix⟩|⟨hr,d3,hix⟩
   all_goals(
    rw[hix]at hst;simp only[vcA,seval,vV,rfGet,rfLen,rfR1,d1,d2,er,nilT];(with_reducible apply v_call);exact kv;rfl;exact P1;exact km;exact kv;simp only[vcA,seval,vV,ej];(with_reducible apply v_call);exact kv;rfl;exact P2;exact km;exact kv;simp only[vcA,seval,vV,w2,d5,hr,d3];(with_reducible apply v_call);exact kv;rfl;exact HF;exact km;exact kv;cases t
    ·rw[if_pos (ht.2 rfl)]at hst;simp only[vcA,seval,vV,hfl,w1];refine⟨⟨by omega,by unfold maxLen;omega⟩,z11 ⟨i+1,hlt,hl6⟩ (by show 6-(i+1)<6-i;omega) ?_⟩;simp only[hst,flR_snoc,List.length_append,List.length_singleton];apply lw_of<;>simp[leL,lk,sv,Nat.beq,I,S,ES.kill,has,drp,nilT,flR1]
    ·rw[if_neg (fun h=>Bool.noConfusion (ht.1 h))]at hst;simp only[vcA,seval,vV,w1];refine z11 ⟨i+1,hlt,hl6⟩ (by show 6-(i+1)<6-i;omega) ?_;simp only[hst];apply lw_of<;>simp[leL,lk,sv,Nat.beq,I,S,ES.kill,has,drp,nilT])
 ·have he:(x.fs.take i).foldl addF []=(x.fs.take 6).foldl addF []:=by
   by_cases h:i<6
   ·have h1:x.fs.length≤i:=by omega
    rw[List.take_of_length_le h1,List.take_of_length_le (by omega)]
   ·obtain rfl:i=6:=by omega
    rfl
  rw[←he];by_cases hl:i<x.fs.length
  ·have d1:(i:Int)<(x.fs.length:Int):=by omega
   have d2:¬(i:Int)<6:=by omega
   simp only[vcA,seval,vV,rfLen,d1,d2,nilT]
  ·have d1:¬(i:Int)<(x.fs.length:Int):=by omega
   simp only[vcA,seval,vV,rfLen,d1,nilT]
def iiR(l:List Int):List (List PV):=l.map fun z=>[PV.v (.int .i64 z)]
theorem iiGet(l:List Int)(k:Nat):(iiR l)[k]?=(l[k]?).map fun z=>[PV.v (.int .i64 z)]:=by unfold iiR;rw[List.getElem?_map]
theorem iiLen(l:List Int):(iiR l).length=l.length:=by unfold iiR;rw[List.length_map]
def mkL(o n many:Int)(i:Nat):List V:=(List.range i).map fun i:Nat=>mkVal1 o (n.tdiv 4+(i:Int)) many
theorem mkL_succ(o n many:Int)(i:Nat):mkL o n many (i+1)=mkL o n many i++[mkVal1 o (n.tdiv 4+(i:Int)) many]:=by unfold mkL;rw[List.range_succ,List.map_append];rfl
theorem mkL_len(o n many:Int)(i:Nat):(mkL o n many i).length=i:=by simp[mkL]
theorem valOf5_ok(g:Sh.Glob)(o n many:Int)(ho:1≤o∧o≤4)(hn:I64 n)(hm:1≤many∧many≤100000):SCalls Tryz.prog g 73 [tyT ⟨5,o⟩,I n,I many] [] (tv (mkVal ⟨5,o⟩ n many)) []:=by
 have P4:=pick4_ok g n 4 hn (by decide);have hb:=z26 n 4 (by decide);have hn':=hn;obtain⟨n0,n1⟩:=hn';obtain⟨q,hq⟩:=Int.eq_ofNat_of_zero_le hb.1;have e1:mkVal ⟨5,o⟩ n many=.mk 5 0 [] (mkL o n many q):=by unfold mkVal mkL;rw[if_pos rfl,hq];rfl
 rw[e1];rw[hq]at P4 hb;refine call_of1 hmix tf_71 rfl rfl ?_;unfold tv tyT;simp only[vcA,seval,vV];refine v_loop (σ:={i:Nat // i≤q}) (fun i=>⟨[(1,I n),(2,I many),(3,.ptr 3 0),(6,.ptr 6 0),(8,.ptr 8 0),(9,I (i.1:Int))],
   [(3,[I 5,I o]),(6,[I 0,I 0,S ⟨#[]⟩,nilT]),(8,[I 5,I 0,S ⟨#[]⟩,.own 3000 4 (V.rows (mkL o n many i.1))])],[(3000,(49,4,i.1))],[]⟩) (fun i=>q-i.1) ⟨0,Nat.zero_le _⟩ ?_ ?_
 ·refine ES.Lw.trans ?_ (adB_lw (x:=8) (j:=3) (d:=3000) (e:=49) (W:=4) (.inr (by decide)) (by decide) rfl (by simp only[vcA,seval]) rfl);exact lw_eq rfl
 rintro⟨i,hi⟩;have hlen:=mkL_len o n many i;by_cases hlt:i<q
 ·have d1:(i:Int)<(q:Int):=by omega
  have w1:IntKind.i64.wrap ((i:Int)+1)=((i+1:Nat):Int):=by rw[wrap64 (by omega) (by omega)];omega
  have t0: -9223372036854775808≤n.tdiv 4∧n.tdiv 4≤2305843009213693952:=by
   rcases Int.le_total 0 n with h|h
   ·rw[Int.tdiv_eq_ediv_of_nonneg h];omega
   ·have:n.tdiv 4= -((-n).tdiv 4):=by rw[Int.neg_tdiv];omega
    rw[this,Int.tdiv_eq_ediv_of_nonneg (by omega)];omega
  have w2:IntKind.i64.wrap (n.tdiv 4)=n.tdiv 4:=wrap64 (by omega) (by omega);have w3:IntKind.i64.wrap (n.tdiv 4+(i:Int))=n.tdiv 4+(i:Int):=wrap64 (by omega) (by omega);have HV:=(valOf1_ok g ⟨o,0⟩ (n.tdiv 4+(i:Int)) many ho ⟨by omega,by omega⟩ hm).out (nv_tv (z124 _ _ _));unfold tv tyT at HV;rw[z124,V.rows_nil]at HV;simp only[vcA,seval,vV,nilT];(with_reducible apply v_call);exact kv;rfl;exact P4;exact km;exact kv;simp only[vcA,seval,vV,d1,w2,w3];refine Or.inl ?_;(with_reducible apply v_call);exact kv;rfl;exact HV;exact km;exact kv;simp only[vcA,seval,vV,hlen,w1];refine⟨⟨by omega,by unfold maxLen;omega⟩,z11 ⟨i+1,hlt⟩ (by show q-(i+1)<q-i;omega) ?_⟩;refine lw_eq ?_;simp only[mkL_succ,z39,row_of_nil (z124 _ _ _),z124,V.rows_nil]
 ·obtain rfl:i=q:=by omega
  have d1:¬(i:Int)<(i:Int):=by omega
  simp only[vcA,seval,vV,nilT];(with_reducible apply v_call);exact kv;rfl;exact P4;exact km;exact kv;simp only[vcA,seval,vV,d1];all_goals rfl
theorem mkVal_1{t:Ty}(h:¬t.k=5)(n many:Int):mkVal t n many=mkVal1 t.k n many:=by unfold mkVal;rw[if_neg h]
theorem valOf4_ok(g:Sh.Glob)(t:Ty)(n many:Int)(ht:z27 t=true)(hn:I64 n)(hm:1≤many∧many≤100000):SCalls Tryz.prog g 73 [tyT t,I n,I many] [] (tv (mkVal t n many)) []:=by
 obtain⟨k,o⟩:=t;unfold z27 at ht;by_cases h:k=5
 ·subst h;rw[if_pos rfl,decide_eq_true_iff]at ht;exact valOf5_ok g o n many ht hn hm
 ·rw[if_neg h,decide_eq_true_iff]at ht;rw[mkVal_1 h];exact(valOf1_ok g ⟨k,o⟩ n many ⟨ht.1,ht.2.1⟩ hn hm).out (nv_tv (z124 _ _ _))
theorem rawN_at{l:List Int}{i:Nat}(h:l≠[]):∃z,l[i%l.length]?=some z∧rawN l i=IntKind.i64.wrap (z+i):=by
 have hp:0<l.length:=List.length_pos_iff.2 h;refine⟨_,gE (Nat.mod_lt _ hp),?_⟩;unfold rawN;rw[if_neg h,List.getD_eq_getElem?_getD,gE (Nat.mod_lt _ hp)];rfl
theorem wrap_64(x:Int):I64 (IntKind.i64.wrap x):=by unfold I64;rw[IntKind.wrap_i64];omega
theorem valsOf4_ok(g:Sh.Glob)(c:Cls)(l:List Int)(many:Int)(hc:∀f∈c.fs,z27 f.t=true)(hl:c.fs.length≤1000)(hll:l.length≤9223372036854775807)(hm:1≤many∧many≤100000):
  SCalls Tryz.prog g 22 [clT c,.pv (.sl 1 (iiR l)),I many] [] (.pv (.sl 4 (V.rows (mkVals c.fs l many)))) []:=by
 refine call_of1 hmix tf_72 rfl rfl ?_;simp only[vcA,seval,vV,clV];refine v_loop (σ:={i:Nat // i≤c.fs.length}) (fun i=>⟨[(1,.pv (.sl 1 (iiR l))),(2,I many),(3,.ptr 3 0),(7,.own 3000 4 (V.rows ((mkVals c.fs l many).take i.1))),(8,I (i.1:Int))],
   [(3,[S (str c.n),.pv (.sl 4 (flR c.fs))])],[(3000,(49,4,i.1))],[]⟩) (fun i=>c.fs.length-i.1) ⟨0,Nat.zero_le _⟩ ?_ ?_
 ·refine ES.Lw.trans ?_ (adT_lw (k:=7) (d:=3000) (e:=49) (W:=4) (.inr (by decide)) rfl);exact lw_eq rfl
 rintro⟨i,hi⟩;have hlen:((mkVals c.fs l many).take i).length=i:=by rw[List.length_take,z43];omega
 by_cases hlt:i<c.fs.length
 ·have d1:(i:Int)<(c.fs.length:Int):=by omega
  obtain⟨f,ef⟩:∃f,c.fs[i]?=some f:=⟨_,gE hlt⟩
  have w1:IntKind.i64.wrap ((i:Int)+1)=((i+1:Nat):Int):=by rw[wrap64 (by omega) (by omega)];omega
  have htk:(mkVals c.fs l many).take (i+1)=(mkVals c.fs l many).take i++[mkVal f.t (rawN l i) many]:=by rw[List.take_add_one,z151 ef];rfl
  have hN:I64 (rawN l i):=by
   unfold rawN;split
   ·exact⟨by omega,by omega⟩
   ·exact wrap_64 _
  have HV:=valOf4_ok g f.t (rawN l i) many (hc f (gM ef)) hN hm;unfold tv tyT at HV;by_cases h0:l=[]
  ·have hr:rawN l i=(i:Int):=by unfold rawN;rw[if_pos h0]
   have d2:¬0<(l.length:Int):=by rw[h0];decide
   rw[hr]at HV htk;simp only[vcA,seval,vV,d1,d2,iiLen,ef,clV];refine Or.inl ?_;(with_reducible apply v_call);exact kv;rfl;exact HV;exact km;exact kv;simp only[vcA,seval,vV,hlen,w1];refine⟨⟨by omega,by unfold maxLen;omega⟩,z11 ⟨i+1,hlt⟩ (by show c.fs.length-(i+1)<c.fs.length-i;omega) ?_⟩;refine lw_eq ?_;simp only[htk,z39,row4]
  ·obtain⟨z,hz,hr⟩:=rawN_at (i:=i) h0;have hp:0<l.length:=List.length_pos_iff.2 h0;have d2:0<(l.length:Int):=by omega
   have d3:¬(l.length:Int)=0:=by omega
   have hmm:(i:Int).tmod (l.length:Int)=((i%l.length:Nat):Int):=(Int.ofNat_tmod _ _).symm;rw[hr]at HV htk;simp only[vcA,seval,vV,d1,d2,iiLen,d3,hmm,iiGet,hz,ef,clV];refine Or.inl ?_;(with_reducible apply v_call);exact kv;rfl;exact HV;exact km;exact kv;simp only[vcA,seval,vV,hlen,w1];refine⟨⟨by omega,by unfold maxLen;omega⟩,z11 ⟨i+1,hlt⟩ (by show c.fs.length-(i+1)<c.fs.length-i;omega) ?_⟩;refine lw_eq ?_;simp only[htk,z39,row4]
 ·obtain rfl:i=c.fs.length:=by omega
  have d1:¬(c.fs.length:Int)<(c.fs.length:Int):=by omega
  simp only[vcA,seval,vV,d1,clV];rw[List.take_of_length_le (by rw[z43];omega)]
def aw0:V:=eO [47] fn' (eN 2)
theorem aw0_p:parseV 60 [110,32,47,32,50]=some (aw0,0,0):=by kernel_rfl
theorem aw0_t:(typeV sFs 8 aw0).2=true:=by kernel_rfl
theorem aw0_w:worthV sFs (sVals 7 [97,98]) 8 aw0=.mk 1 (3) [] []:=by kernel_rfl
def aw1:V:=eO [37] (eM fn') (eN 4)
theorem aw1_p:parseV 60 [45,110,32,37,32,52]=some (aw1,0,0):=by kernel_rfl
theorem aw1_t:(typeV sFs 8 aw1).2=true:=by kernel_rfl
theorem aw1_w:worthV sFs (sVals 7 [97,98]) 8 aw1=.mk 1 (-3) [] []:=by kernel_rfl
def aw2:V:=eO [38] ft' (Go.Mor.eC nText [fn'])
theorem aw2_p:parseV 60 [116,32,38,32,116,101,120,116,40,110,41]=some (aw2,0,0):=by kernel_rfl
theorem aw2_t:(typeV sFs 8 aw2).2=true:=by kernel_rfl
theorem aw2_w:worthV sFs (sVals 7 [97,98]) 8 aw2=.mk 2 0 [97,98,55] []:=by kernel_rfl
def aw3:V:=eO [47] fn' (eN 0)
theorem aw3_p:parseV 60 [110,32,47,32,48]=some (aw3,0,0):=by kernel_rfl
theorem aw3_t:(typeV sFs 8 aw3).2=true:=by kernel_rfl
theorem aw3_w:worthV sFs (sVals 7 [97,98]) 8 aw3=.mk 1 (0) [] []:=by kernel_rfl
def aw4:V:=Go.Mor.eC nFind [ft',eT [98]]
theorem aw4_p:parseV 60 [102,105,110,100,40,116,44,32,34,98,34,41]=some (aw4,0,0):=by kernel_rfl
theorem aw4_t:(typeV sFs 8 aw4).2=true:=by kernel_rfl
theorem aw4_w:worthV sFs (sVals 7 [97,98]) 8 aw4=.mk 1 (1) [] []:=by kernel_rfl
def aw5:V:=Go.Mor.eC nIf [eO [62] fn' (eN 5),Go.Mor.eC nLeft [ft',eN 1],eT []]
theorem aw5_p:parseV 60 [105,102,40,110,32,62,32,53,44,32,108,101,102,116,40,116,44,32,49,41,44,32,34,34,41]=some (aw5,0,0):=by kernel_rfl
theorem aw5_t:(typeV sFs 8 aw5).2=true:=by kernel_rfl
theorem aw5_w:worthV sFs (sVals 7 [97,98]) 8 aw5=.mk 2 0 [97] []:=by kernel_rfl
def awS:V:=eO [43] fn' ft'
theorem awS_p:parseV 60 [110,32,43,32,116]=some (awS,0,0):=by kernel_rfl
theorem awS_t:typeA sCls awS=(ty0,60):=by kernel_rfl
def awR:V:=eF [114]
theorem awR_p:parseV 60 [114]=some (awR,0,0):=by kernel_rfl
theorem awR_t:typeA sCls awR=(⟨3,0⟩,0):=by kernel_rfl
theorem awR_e:evalA sCls [] awR=(V.nil,42):=by kernel_rfl
theorem awN_t:typeA sCls V.nil=(ty0,50):=by kernel_rfl
theorem awR_c:typeA ⟨[],[]⟩ awR=(ty0,40):=by kernel_rfl
theorem awake_ok(m:Nat):SCalls Tryz.prog (glE m) 31 [] [] (B true) []:=by
 have hx:Rg 7:=⟨by omega,by omega⟩
 have ht:z10 [97,98]=true:=by kernel_rfl
 have hab:(⟨#[97,98]⟩:ByteArray)=str [97,98]:=rfl;have H0:=isL_ok m aw0_p hx ht aw0_t (.mk 1 (3) [] []) aw0_w rfl;have q0:(⟨#[110,32,47,32,50]⟩:ByteArray)=str [110,32,47,32,50]:=rfl;have N0:=num6_ok (glE m) (3);have H1:=isL_ok m aw1_p hx ht aw1_t (.mk 1 (-3) [] []) aw1_w rfl;have q1:(⟨#[45,110,32,37,32,52]⟩:ByteArray)=str [45,110,32,37,32,52]:=rfl;have N1:=num6_ok (glE m) (-3);have H2:=isL_ok m aw2_p hx ht aw2_t (.mk 2 0 [97,98,55] []) aw2_w rfl;have q2:(⟨#[116,32,38,32,116,101,120,116,40,110,41]⟩:ByteArray)=str [116,32,38,32,116,101,120,116,40,110,41]:=rfl;have N2:=text6_ok (glE m) [97,98,55];have n2:(⟨#[97,98,55]⟩:ByteArray)=str [97,98,55]:=rfl;have H3:=isL_ok m aw3_p hx ht aw3_t (.mk 1 (0) [] []) aw3_w rfl;have q3:(⟨#[110,32,47,32,48]⟩:ByteArray)=str [110,32,47,32,48]:=rfl;have N3:=num6_ok (glE m) (0);have H4:=isL_ok m aw4_p hx ht aw4_t (.mk 1 (1) [] []) aw4_w rfl;have q4:(⟨#[102,105,110,100,40,116,44,32,34,98,34,41]⟩:ByteArray)=str [102,105,110,100,40,116,44,32,34,98,34,41]:=rfl;have N4:=num6_ok (glE m) (1);have H5:=isL_ok m aw5_p hx ht aw5_t (.mk 2 0 [97] []) aw5_w rfl
 have q5:(⟨#[105,102,40,110,32,62,32,53,44,32,108,101,102,116,40,116,44,32,49,41,44,32,34,34,41]⟩:ByteArray)=str [105,102,40,110,32,62,32,53,44,32,108,101,102,116,40,116,44,32,49,41,44,32,34,34,41]:=rfl;have N5:=text6_ok (glE m) [97];have n5:(⟨#[97]⟩:ByteArray)=str [97]:=rfl;have qS:(⟨#[110,32,43,32,116]⟩:ByteArray)=str [110,32,43,32,116]:=rfl;have qR:(⟨#[114]⟩:ByteArray)=str [114]:=rfl;have PS:=sc_0E (parse_any m _ awS_p);have PR:=sc_0E (parse_any m _ awR_p);have sS:=z71 (parse_rt awS_p);have sR:=z71 (parse_rt awR_p);have HC:=sample_ok (glE m);have TS:=evType_ok m sCls awS sCls_ok sS;have TR:=evType_ok m sCls awR sCls_ok sR;have ER:=evEval_ok m sCls awR [] sCls_ok sR (by simp) (by decide);have TN:=evType_ok m sCls V.nil sCls_ok (.mk (by simp) (by simp) (by simp));have TC:=evType_ok m ⟨[],[]⟩ awR ⟨by unfold Short;decide,by simp,by decide⟩ sR;rw[awS_t]at TS;rw[awR_t]at TR;rw[awR_e]at ER;rw[awN_t]at TN;rw[awR_c]at TC;have ER':SCalls Tryz.prog (glE m) 34 [tv awR,clT sCls,.pv (.v (.slice none 0 0))] [] (evalT (V.nil,42)) []:=ER.inp rfl (fun j c d hc hd=>by
  match j with
  |0=>cases hc;cases hd;exact .refl _
  |1=>cases hc;cases hd;exact .refl _
  |2=>cases hc;cases hd;exact wk_nil 4
  |j+3=>simp at hc)
 have TN':SCalls Tryz.prog (glE m) 55 [nv V.nil,clT sCls] [] (typeT (ty0,50)) []:=TN.inp rfl (fun j c d hc hd=>by
  match j with
  |0=>cases hc;cases hd;exact nv_tv rfl
  |1=>cases hc;cases hd;exact .refl _
  |j+2=>simp at hc)
 have TC':SCalls Tryz.prog (glE m) 55 [tv awR,.agg [S (str []),.pv (.v (.slice none 0 0))]] [] (typeT (ty0,40)) []:=TC.inp rfl (fun j c d hc hd=>by
  match j with
  |0=>cases hc;cases hd;exact .refl _
  |1=>
   cases hc;cases hd;refine wk_agg rfl (fun i p q hp hq=> ?_)
   match i with
   |0=>cases hp;cases hq;exact .refl _
   |1=>cases hp;cases hq;exact wk_nil 4
   |i+2=>simp at hp
  |j+2=>simp at hc)
 have eT:evalT (V.nil,42)=.tuple [nv V.nil,I 42]:=rfl;rw[eT]at ER';have p1:parT (awS,0,0)=.tuple [tv awS,I 0,I 0]:=rfl;have p2:parT (awR,0,0)=.tuple [tv awR,I 0,I 0]:=rfl;rw[p1]at PS;rw[p2]at PR;have eqR:eqTy ⟨3,0⟩ ⟨3,0⟩=true:=rfl;generalize awS=eS at*;generalize awR=eR at*;refine z7 hmix tf_78 rfl ?_;unfold B tv nv clT typeT tyT ty0 V.nil at*;simp only[vcA,seval,vV,cmV];(with_reducible apply v_call);simp only[vcA,seval,vV,cmV];rfl;rfl;exact N0;exact km;simp only[vcA,seval,vV,cmV];rfl;simp only[vcA,seval,vV,cmV,hab,q0];(with_reducible apply v_call);simp only[vcA,seval,vV,cmV];rfl;rfl;exact H0;exact km;simp only[vcA,seval,vV,cmV];rfl;simp only[vcA,seval,vV,cmV];(with_reducible apply v_call);simp only[vcA,seval,vV,cmV];rfl;rfl;exact N1;exact km;simp only[vcA,seval,vV,cmV];rfl;simp only[vcA,seval,vV,cmV,hab,q1];(with_reducible apply v_call);simp only[vcA,seval,vV,cmV];rfl;rfl;exact H1;exact km;simp only[vcA,seval,vV,cmV];rfl;simp only[vcA,seval,vV,cmV,n2];(with_reducible apply v_call);simp only[vcA,seval,vV,cmV];rfl;rfl;exact N2;exact km;simp only[vcA,seval,vV,cmV];rfl;simp only[vcA,seval,vV,cmV,hab,q2,n2]
 (with_reducible apply v_call);simp only[vcA,seval,vV,cmV];rfl;rfl;exact H2;exact km;simp only[vcA,seval,vV,cmV];rfl;simp only[vcA,seval,vV,cmV];(with_reducible apply v_call);simp only[vcA,seval,vV,cmV];rfl;rfl;exact N3;exact km;simp only[vcA,seval,vV,cmV];rfl;simp only[vcA,seval,vV,cmV,hab,q3];(with_reducible apply v_call);simp only[vcA,seval,vV,cmV];rfl;rfl;exact H3;exact km;simp only[vcA,seval,vV,cmV];rfl;simp only[vcA,seval,vV,cmV];(with_reducible apply v_call);simp only[vcA,seval,vV,cmV];rfl;rfl;exact N4;exact km;simp only[vcA,seval,vV,cmV];rfl;simp only[vcA,seval,vV,cmV,hab,q4];(with_reducible apply v_call);simp only[vcA,seval,vV,cmV];rfl;rfl;exact H4;exact km;simp only[vcA,seval,vV,cmV];rfl;simp only[vcA,seval,vV,cmV,n5];(with_reducible apply v_call);simp only[vcA,seval,vV,cmV];rfl;rfl;exact N5;exact km;simp only[vcA,seval,vV,cmV];rfl;simp only[vcA,seval,vV,cmV,hab,q5,n5];(with_reducible apply v_call);simp only[vcA,seval,vV,cmV];rfl;rfl;exact H5;exact km;simp only[vcA,seval,vV,cmV];rfl;simp only[vcA,seval,vV,cmV,qS];(with_reducible apply v_call);simp only[vcA,seval,vV,cmV];rfl;rfl;exact PS;exact km;simp only[vcA,seval,vV,cmV];rfl;simp only[vcA,seval,vV,cmV]
 (with_reducible apply v_call);simp only[vcA,seval,vV,cmV];rfl;rfl;exact HC;exact km;simp only[vcA,seval,vV,cmV];rfl;(with_reducible apply v_call);simp only[vcA,seval,vV,cmV];rfl;rfl;exact TS;exact km;simp only[vcA,seval,vV,cmV];rfl;simp only[vcA,seval,vV,cmV,qR];(with_reducible apply v_call);simp only[vcA,seval,vV,cmV];rfl;rfl;exact PR;exact km;simp only[vcA,seval,vV,cmV];rfl;simp only[vcA,seval,vV,cmV];(with_reducible apply v_call);simp only[vcA,seval,vV,cmV];rfl;rfl;exact HC;exact km;simp only[vcA,seval,vV,cmV];rfl;(with_reducible apply v_call);simp only[vcA,seval,vV,cmV];rfl;rfl;exact TR;exact km;simp only[vcA,seval,vV,cmV];rfl;simp only[vcA,seval,vV,cmV];(with_reducible apply v_call);simp only[vcA,seval,vV,cmV];rfl;rfl;exact HC;exact km;simp only[vcA,seval,vV,cmV];rfl;(with_reducible apply v_call);simp only[vcA,seval,vV,cmV];rfl;rfl;exact ER';exact km;simp only[vcA,seval,vV,cmV];rfl;simp only[vcA,seval,vV,cmV];(with_reducible apply v_call);simp only[vcA,seval,vV,cmV];rfl;rfl;exact HC;exact km;simp only[vcA,seval,vV,cmV];rfl;(with_reducible apply v_call);simp only[vcA,seval,vV,cmV];rfl;rfl;exact TN';exact km;simp only[vcA,seval,vV,cmV];rfl;simp only[vcA,seval,vV,cmV]
 (with_reducible apply v_call);simp only[vcA,seval,vV,cmV];rfl;rfl;exact TC';exact km;simp only[vcA,seval,vV,cmV];rfl;simp only[vcA,seval,vV,cmV,tyV,eqlTy,eqR]
end Go.Proofs.YtmiokadmddjccaaGreatDoor
end

section
namespace Go.Proofs.YtmiokadmddjccaaGreatDoor
open Go Go.RowKit Go.Mor Go.Sh Go.Sh.Cd1 Go.Sh.Cd5
set_option maxRecDepth 100000
set_option maxHeartbeats 4000000
def bysT(l:List UInt8):TV:=.pv (.sl 1 (byR l))
end Go.Proofs.YtmiokadmddjccaaGreatDoor
end

section
namespace Go.Proofs.YtmiokadmddjccaaGreatDoor
open Go Go.RowKit Go.Mor Go.Sh Go.Sh.Cd1 Go.Sh.Cd6
set_option maxRecDepth 100000
set_option maxHeartbeats 8000000
theorem madeE_ok(m:Nat)(x:Raw)(l:List UInt8){kind:Int}(hk:kind=1∨kind=2)(hl:l.length≤9223372036854775807):
  SCalls Tryz.prog (glE m) 32 [.pv (.sl 1 (byR l)),clT (z8 x),I kind] [] (tv (exprOf l (z8 x).fs kind)) []:=
 sc_0E (exprOf6_ok m l _ kind hk hl (by have:=(z49 x).len;omega) (ok_more 5 (by omega) (made_tree (z49 x) (l:=l) 3 kind 0 hk).1))
theorem madeV_ok(g:Sh.Glob)(x:Raw)(n:List Int)(many:Int)(hn:n.length≤9223372036854775807)(hm:1≤many∧many≤100000):
  SCalls Tryz.prog g 22 [clT (z8 x),.pv (.sl 1 (iiR n)),I many] [] (.pv (.sl 4 (V.rows (mkVals (z8 x).fs n many)))) []:=
 valsOf4_ok g _ n many (fun _ hf=>(z49 x).type hf) (by have:=(z49 x).len;omega) hn hm
theorem made_fit(x:Raw)(n:List Int){many:Int}(hm:many≤100000):FitAll (z8 x).fs (mkVals (z8 x).fs n many):=
 fit_all (z49 x) (z43 ..) fun _ _ _ hf hv=>vals_fit (z49 x) n hm hf hv
end Go.Proofs.YtmiokadmddjccaaGreatDoor
end
