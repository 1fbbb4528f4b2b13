/- Merged texts: WrapB By Open0 OpenN PWire PWire2 PWire3 PClass PCls RawD OpenR PrT Wire1 Wire2 Wire3 RegIn Wire4 Wire5 Wire6 Pr1 PrA WrapA Cd4 Aw4 S20 Zv1 Zv2 Px1 Cd5 Px2 Ze4 Ze5 Cd6 Zg1 PVals Zh5 PFits Pv1 Zh6 Zh7 Zi0 Vf Zi5 Zw1 Zr1 Zy2 Rw Sv1. No statement of the program is proved here. -/
import Derived.Test.YtcpaleaajdilgaaGreatDoorM1
import Derived.Test.YtcpaleaajdilgaaGreatDoorM2
import Derived.Test.YtcpaleaajdilgaaGreatDoorCards
import Derived.Test.YtcpaleaajdilgaaGreatDoorTie
import Derived.Lib.LaidIn
import Derived.Lib.LaidU8T
import Derived.Deep.DeepHandedRow
import Derived.Deep.DeepWitnessRowRef
import Derived.ProofKit
import Derived.SizedLaws
import Derived.OpenShut
import Derived.Lib.SmallJoins
import Derived.Stop.LaidTwo
import Derived.Deep.Slices
import Derived.Deep.Fields
import Derived.ChangeSame
import Derived.SevenTiedAt
import Derived.PinnedBridge
import Derived.Shelf.Vars
import Derived.Lib.ItoaNum
import Derived.RangeFuncNested
import Derived.RangeFuncBound
import Derived.RangeFuncCalls
import Derived.RangeFuncLeaves
import Derived.RangeFuncBox
import Derived.Shelf.Abstract
import Derived.Shelf.RegionOpen
import Derived.OwnWalkIn
import Derived.TacticsInMore
import Derived.LoopNIn
import Derived.LoopIn
import Derived.Maps.AppendAt
import Derived.LaidEql
import Derived.Stop.Asserts
import Derived.RowKitTokens
import Derived.StillTailTactics
import Derived.OrdersIn
import Derived.TacticsIn
import Derived.Deep.QuietTactic
import Derived.BigQuiet
import Derived.Lib.Join
import Derived.Lib.ItoaLen
import Derived.Lib.ItoaMem
set_option linter.unusedSimpArgs false
set_option linter.unusedVariables false
section
namespace Go.Proofs.YtcpaleaajdilgaaGreatDoor
open Go.ChangeShapes Go.WideShapes Go.ChangeAt Go.RowKit Go.Lib Go.Mor Go.Deep
open Go.ChangeMaps (open_string shut_string)
theorem own:ownKnob Tryz.prog.godebug=none:=by kernel_rfl
theorem acc_eq:Rows.laid_unicode_utf8_acceptRanges=Lib.acceptData:=by kernel_rfl
theorem hv_of{W:World}(h:W.ShapedOpen Tryz.prog):10≤W.heap.size:=by
 obtain⟨o,o0,h1,_⟩:=h.2 10 (of_decide_eq_true (by kernel_rfl)) (of_decide_eq_true (by kernel_rfl));exact Nat.le_of_lt (gA h1).1
theorem globU_of{W:World}{L:List (String×DataW Unit)}(hL:laidMet Tryz.prog L W)(h1:("unicode/utf8.first",Rows.laid_unicode_utf8_first)∈L)(h2:("unicode/utf8.acceptRanges",Rows.laid_unicode_utf8_acceptRanges)∈L):GlobU W:=
 ⟨utf8Tabs_of_readsT (U8Types.of196 Tryz.laysValid) ⟨by kernel_rfl,by kernel_rfl,by kernel_rfl,by kernel_rfl,by kernel_rfl,by kernel_rfl,by kernel_rfl⟩ (by rw[←Pinned.utf8First_eq];exact Lib.laidMet.reads hL h1) (by rw[←acc_eq];exact Lib.laidMet.reads hL h2)⟩
def litsOf:DataW Unit→List Value
 | .agg l=>l.map fun x=>match x with| .lit y=>y.value|_=>undef
 |_=>[]
def textOf:DataW Unit→List UInt8
 | .iface _ (.ptr (.agg [.lit (.string l)]))=>l
 |_=>[]
noncomputable def laidWorld(os:Os):World:=
 let N:=(World.settled Tryz.prog os).heap.size
 let w0:=World.holding Tryz.prog os ⟨#[.cells #[.string ⟨(textOf Rows.laid_moraine_wire_errEnd).toArray⟩] 354,.cells #[.string ⟨(textOf Rows.laid_moraine_wire_errForm).toArray⟩] 354,.cells #[.string ⟨(textOf Rows.laid_strconv_ErrRange).toArray⟩] 354,.cells #[.string ⟨(textOf Rows.laid_strconv_ErrSyntax).toArray⟩] 354],#[],[]⟩
 let put (h:Array Obj) (g:Nat) (cs:Array Value):Array Obj:=h.modify g fun
  | .cells _ t frozen=> .cells cs t frozen
  |o=>o
 let h:=w0.heap
 let h:=put h 8 (litsOf Rows.laid_math_bits_deBruijn32tab).toArray
 let h:=put h 9 (litsOf Rows.laid_math_bits_deBruijn64tab).toArray
 let h:=put h 5 (litsOf Rows.laid_internal_strconv_uint64pow10).toArray
 let h:=put h 1 ((List.range 16).flatMap fun i=>[Value.int .u8 (Lib.accLo i),Value.int .u8 (Lib.accHi i)]).toArray
 let h:=put h 2 #[.iface 352 (.pointer (some ⟨N,0,none⟩))]
 let h:=put h 3 #[.iface 352 (.pointer (some ⟨N+1,0,none⟩))]
 let h:=put h 0 (Lib.firstTab.map fun z=>Value.int .u8 z).toArray
 let h:=put h 7 #[.iface 352 (.pointer (some ⟨N+2,0,none⟩))]
 let h:=put h 6 #[.iface 352 (.pointer (some ⟨N+3,0,none⟩))]
 { w0 with heap:=h }
noncomputable abbrev N0:Nat:=(World.settled Tryz.prog default).heap.size
theorem laidOut:laidOutB Tryz.prog=true:=by kernel_rfl
section
variable{H:Type}{enc:TypeId×Value→H}
theorem trodAll_stays{W W':World}(hb:Below W.heap.size W W'){sp:Nat→Bool}:∀{ts:List TypeId} {vs:List Value} {ds:List (DataW H)} {ps:List MemPlace},
  (ts.all fun t=>Tryz.prog.readableRec t&&decide (t<Tryz.prog.types.size))=true→DataW.TrodAll enc Tryz.prog W 0 (fun _=>true) true ts vs ds ps→(∀x∈ps,x.block<W.heap.size)→(∀x∈ps,sp x.block=true)→
  DataW.TrodAll enc Tryz.prog W' 0 sp true ts vs ds ps:=by
 intro ts
 induction ts with
 |nil=>
  intro vs ds ps _ h _ _;obtain⟨rfl,rfl,rfl⟩:=trodAll_nil h;exact trodAll_mk0
 |cons t ts ih=>
  intro vs ds ps hr h hlt hsp;obtain⟨v,vs',d,ds',p,q,rfl,rfl,rfl,h1,h2⟩:=trodAll_cons h;simp only[List.all_cons,Bool.and_eq_true,decide_eq_true_iff]at hr;refine trodAll_cons_mk (WideElems.Trod_stays laidOut hr.1.1 hr.1.2 h1 (fun x hx=>hb.same (hlt x (by simp[hx]))) (fun x hx=>hsp x (by simp[hx]))) (ih hr.2 h2 (fun x hx=>hlt x (by simp[hx])) (fun x hx=>hsp x (by simp[hx])))
theorem post_of_below{P:Program}{f:Func}{s:ChangeSpec}{apart fresh handsOn again:Bool}{W W':World}{args:Array Value}{v:Value}{ds gs:List (DataW H)}{before pa pv:List MemPlace}
  (hW:DataW.Whole enc P f.params.toList s.vars apart W args.toList ds gs before)
  (hres:∀(b:Nat) (sp:Nat→Bool) (hd:Bool),DataW.TrodAll enc P W' b sp hd f.resultTypes.toList (v.resultList f.resultTypes.size) (s.fn H (ds++gs)).results [])
  (hargs:∀sp:Nat→Bool,(∀p∈before,sp p.block=true)→DataW.TrodAll enc P W' 0 sp true f.params.toList args.toList (s.fn H (ds++gs)).args pa)
  (hvars:∀sp:Nat→Bool,(∀p∈before,sp p.block=true)→DataW.TrodVars enc P W' sp s.vars (s.fn H (ds++gs)).vars pv)
  (hps:before=pa++pv) (hb:Below W.heap.size W W')
  (hok:∀(j:Nat) (t:TypeId) (r:Value),f.resultTypes[j]?=some t→(v.resultList f.resultTypes.size)[j]?=some r→Value.okWide P W' .any 0 t r):
  s.post enc P f apart fresh handsOn again W args v W':=by
 have hlt:∀p∈before,p.block<W.heap.size:=fun p hp=>hW.lt p hp;have hold:∀p∈before,(fun b=>decide (b<W.heap.size)) p.block=true:=fun p hp=>by simpa using hlt p hp
 refine⟨ds,gs,before,[],pa,pv,hW,hres _ _ _,hargs _ hold,hvars _ hold,World.keptBut_mono (fun p hp=>⟨hp,?_⟩) (hb.frame (·∈before)),fun _=> ?_⟩
 ·rw[hps,List.mem_append]at hp;exact Or.inr hp
 ·obtain⟨_,_,_,_,_,hz,hn⟩:=hW;refine⟨hok,_,_,([]++pa)++pv,⟨[]++pa,pv,trodAll_append (hargs _ (fun _ _=>rfl)) (hres _ _ _),hvars _ (fun _ _=>rfl),rfl,?_,?_⟩,?_⟩
  ·intro b off hp;have hin:MemPlace.cell b off∈before:=by rw[hps];simpa using hp
   rw[hb.frozen (hlt _ hin)];exact hz b off hin
  ·intro ha;have:=hn ha;rw[hps]at this;simpa using this
  ·intro p hp _;rw[hps];simpa using hp
set_option maxRecDepth 100000 in
theorem lifts(f:FuncId)(fn:Func)(sp:ChangeSpec){W W':World}{args:Array Value}{ds gs:List (DataW H)}{before:List MemPlace}{fresh handsOn again:Bool}
  (hv:sp.vars=[]) (hr:(fn.params.toList.all fun t=>Tryz.prog.readableRec t&&decide (t<Tryz.prog.types.size))=true) (hres:fn.resultTypes= #[4])
  (hfn:sp.fn H (ds++[])={ results:=[.lit (.bool true)],args:=ds })
  (hW:DataW.Whole enc Tryz.prog fn.params.toList sp.vars false W args.toList ds gs before) (hb:Below W.heap.size W W'):
  sp.post enc Tryz.prog fn false fresh handsOn again W args (.bool true) W':=by
 have hW':=hW;obtain⟨p,q,hA,hV,rfl,_,_⟩:=hW;rw[hv]at hV;obtain⟨rfl,rfl⟩:=trodVars_none hV;have hlt:∀x∈p,x.block<W.heap.size:=fun x hx=>hW'.lt x (by simp[hx]);refine post_of_below (pa:=p) (pv:=[]) hW' (fun b sp' hd=> ?_) (fun sp' hsp=> ?_) (fun sp' hsp=> ?_) rfl hb ?_
 ·rw[hfn,hres];exact trodAll_mk1 (shut_bool Tryz.underlying4 _)
 ·rw[hfn];exact trodAll_stays hb hr hA hlt (fun x hx=>hsp x (by simp[hx]))
 ·rw[hfn,hv];rfl
 ·exact ok_one hres rfl (okWide_bool_mk Tryz.underlying4 _)
end
end Go.Proofs.YtcpaleaajdilgaaGreatDoor
end

section
namespace Go.Proofs.YtcpaleaajdilgaaGreatDoor
open Go Go.RowKit Go.Mor Go.Sh
def byR(l:List UInt8):List (List PV):=l.map fun u=>[.v (.int .u8 u.toNat)]
theorem byP(l:List UInt8):bytesP (str l)=byR l:=by simp[bytesP,byR,str]
theorem byApp(a b:List UInt8):byR a++byR b=byR (a++b):=by simp[byR]
theorem byLen(a:List UInt8):(byR a).length=a.length:=by simp[byR]
theorem bySeq:∀(a:List UInt8),seqO Sh.byteOf (byR a)=some a
 |[]=>rfl
 |u::a=>by
  have ih:=bySeq a;unfold byR at ih ⊢;simp only[List.map_cons,seqO,ih,Sh.byteOf];simp
theorem strMk(l:List UInt8):(⟨l.toArray⟩:ByteArray)=str l:=rfl
end Go.Proofs.YtcpaleaajdilgaaGreatDoor
end

section
namespace Go.Proofs.YtcpaleaajdilgaaGreatDoor
open Go.ChangeShapes Go.WideShapes Go.ChangeAt Go.RowKit Go.Lib Go.Mor Go.Deep Go.Joins
open Go.Sh (RelT RelV TV PV SCalls Env MSim objB objR objX Low)
open Go.ChangeMaps (open_string shut_string)
def envAll(w:World):Env:=⟨fun k _=>k<w.heap.size,fun _=>0,fun _=>none,fun _=>0⟩
theorem objB_nil(d:Nat):objB [] d=none:=by simp[objB]
theorem objR_nil(d:Nat):objR [] d=none:=by simp[objR]
theorem calls_of_sc{P:Program}{f:Nat}{xs:List TV}{vs:List Value}{w:World}{g:Go.Sh.Glob}{b:Value}(h:SCalls P g f xs [] (.pv (.v b)) [])(hG:g.G w)(hl:xs.length=vs.length)
  (hr:∀(j:Nat) x v,xs[j]?=some x→vs[j]?=some v→RelT w (envAll w) (objR []) x v):Calls P f vs.toArray w fun e w'=>e=.returned b∧Below w.heap.size w w':=by
 have hX:∀d k,¬objX (envAll w) [] d k:=by
  rintro d k (⟨cs,h1,_⟩|⟨q,cap,h1,_⟩)
  ·rw[objB_nil]at h1;cases h1
  ·rw[objR_nil]at h1;cases h1
 refine(h.2 w (envAll w) vs hG ?_ (fun d k hd=>absurd hd (hX d k)) hl hr).mono ?_
 ·refine⟨fun d cs hd=> ?_,fun d e W n hd=> ?_,fun d d' cs cs' hd=> ?_,fun d d' cs q k cap hd=> ?_,fun d d' q q' k cap cap' hd=> ?_,fun k o hk=>hk,⟨rfl,rfl,rfl,Nat.le_refl _,fun _ _ _=>rfl⟩,fun k o u hk hu=>⟨hk,hu⟩,fun k o hk=> .inl hk,?_⟩
  ·rw[objB_nil]at hd;cases hd
  ·rw[objR_nil]at hd;cases hd
  ·rw[objB_nil]at hd;cases hd
  ·rw[objB_nil]at hd;cases hd
  ·rw[objR_nil]at hd;cases hd
  ·have hold:∀d,¬(Go.Sh.start w (envAll w) [] 0).old d:=fun d h=>by have h1:1000≤d∧d<1000+0:=h;omega
   constructor<;>(intros;first|(exfalso;apply hold;assumption)|rfl)
 ·rintro e w' ⟨v,E',rfl,hm,hv,_⟩;obtain rfl:=Go.Sh.val_rel (y:=b) hv rfl;exact⟨rfl,hm.low.os,hm.low.tape,hm.low.output,hm.low.size,fun k hk=>hm.low.block k hk (fun d=>hX d k)⟩
end Go.Proofs.YtcpaleaajdilgaaGreatDoor
end

section
namespace Go.Proofs.YtcpaleaajdilgaaGreatDoor
open Go.ChangeShapes Go.WideShapes Go.ChangeAt Go.RowKit Go.Lib Go.Mor Go.Deep Go.Joins
open Go.Sh (RelT RelV TV PV SCalls Env MSim objB objR objX Low)
open Go.ChangeMaps (open_string shut_string)
set_option maxRecDepth 100000
section
variable{H:Type}{enc:TypeId×Value→H}
theorem open_nums{t e:TypeId}{k:IntKind}(ht:Tryz.prog.underlying t=some (.slice e))(he:Tryz.prog.underlying e=some (.int k))(hc:Tryz.prog.cellsOf e=1)
  {W:World} {b0 base:Nat} {spare:Nat→Bool} {held:Bool} {v:Value} {d:DataW H} {p:List MemPlace} (hok:Value.okWide Tryz.prog W .any b0 t v) (h:DataW.Trod enc Tryz.prog W base spare held t v d p):
  ∃l:List Int,(∀x∈l,(Lit.int k x).wf=true)∧l.length≤9223372036854775807∧∀r,RelT W (envAll W) r (.pv (.sl 1 (l.map fun z=>[PV.v (.int k z)]))) v:=by
 obtain⟨a0,len,cap,rfl⟩:=okWide_slice ht hok;obtain⟨fuel,hf⟩:=h;rcases open_ints ht he hc hf with⟨hcs,hx⟩|⟨a,len',cap',zs,hcs,_,hl,hm,hz,hx,hcell,hwz⟩
 ·obtain⟨rfl,rfl,rfl⟩:a0=none∧len=0∧cap=0:=by simpa [Value.cells]using hcs
  exact⟨[],by simp,by simp,fun r=> .pv (.sl 1 [] 0 0 0 none (fun _ _=>undef) (by simp) (by simp) (by simp) (by simp) (by simp) (by simp))⟩
 ·obtain⟨rfl,rfl,rfl⟩:a0=some a∧len=len'∧cap=cap':=by simpa [Value.cells]using hcs
  have hlz:len≤zs.length:=by rw[hz];split<;>omega
  have hlen:(zs.take len).length=len:=by rw[List.length_take];omega
  refine⟨zs.take len,fun x hx=>hwz x (List.mem_of_mem_take hx),by unfold maxLen at hm;omega,fun r=> ?_⟩;have hL:((zs.take len).map fun z=>[PV.v (.int k z)]).length=len:=by rw[List.length_map,hlen]
  rcases Nat.eq_zero_or_pos zs.length with h0|h0
  ·obtain rfl:len=0:=by omega
   have e0:(zs.take 0).map (fun z=>[PV.v (.int k z)])=[]:=by simp
   rw[e0];exact .pv (.sl 1 [] 0 0 cap (some a) (fun _ _=>undef) (by simp) (by simp) hm (by simp) (by simp) (by simp))
  ·obtain⟨b,off,rfl,hcl⟩:=ints_at hcell h0;have cell:∀(i j:Nat) cs q,((zs.take len).map fun z=>[PV.v (.int k z)])[i]?=some cs→cs[j]?=some q→∃u,q=.v u∧W.cell? ⟨b,off+i*1+j,none⟩=some u∧Go.Sh.one u:=by
    intro i j cs q h1 h2;rw[List.getElem?_map,Option.map_eq_some_iff]at h1;obtain⟨z,hz1,rfl⟩:=h1;obtain⟨hi,he⟩:=gJ hz1;have hi':i<zs.length:=by rw[hlen]at hi;omega
    match j with
    |0=>
     simp at h2;subst h2;refine⟨_,rfl,?_,rfl⟩;have:=hcl i hi';rw[List.getElem_take]at he;rw[List.getD_eq_getElem?_getD,gE hi',Option.getD_some,he]at this;simpa using this
    |j+1=>simp at h2
   have key:RelV W (envAll W).K (.sl 1 ((zs.take len).map fun z=>[PV.v (.int k z)])) (.slice (some ⟨b,off,none⟩) ((zs.take len).map fun z=>[PV.v (.int k z)]).length cap):=by
    refine .sl 1 _ b off cap (some ⟨b,off,none⟩) (fun i j=>(W.cell? ⟨b,off+i*1+j,none⟩).getD undef) (fun _=>rfl) (by omega) hm (fun cs hcs=> ?_) (fun i j cs q h1 h2=> ?_) (fun i j cs q h1 h2=> ?_)
    ·obtain⟨r,_,rfl⟩:=List.mem_map.1 hcs;rfl
    ·obtain⟨u,_,hu,ho⟩:=cell i j cs q h1 h2;rw[hu];exact⟨z33 (a:=⟨b,off+i*1+j,none⟩) hu,rfl,ho⟩
    ·obtain⟨u,rfl,hu,ho⟩:=cell i j cs q h1 h2;rw[hu];exact .v u
   rw[hL]at key;exact .pv key
end
end Go.Proofs.YtcpaleaajdilgaaGreatDoor
end

section
namespace Go.Mor
def mag(n:Int):Nat:=if n<0 then(-1-n).toNat else n.toNat
def sgn(n:Int):Nat:=if n<0 then 1 else 0
def tailN:Nat→Nat→List UInt8
 |0,_=>[]
 |f+1,m=>if m=0 then [] else UInt8.ofNat (m%128)::tailN f (m / 128)
def groups(n:Int):List UInt8:=UInt8.ofNat (mag n%64*2+sgn n)::tailN 9 (mag n / 64)
def bump(l:List UInt8):List UInt8:=l.dropLast++(l.getLast?.map (·+128)).toList
def pack(l:List UInt8):List UInt8:=l.foldl (fun acc g=>bump acc++[g]) []
def num(n:Int):List UInt8:=pack (groups n)
theorem pack_snoc(l:List UInt8)(g:UInt8):pack (l++[g])=bump (pack l)++[g]:=by simp[pack]
theorem bump_length(l:List UInt8):(bump l).length=l.length:=by
 rcases List.eq_nil_or_concat l with rfl|⟨Q,b,rfl⟩
 ·rfl
 ·simp[bump]
theorem foldl_bump_length(l:List UInt8):∀acc:List UInt8,(l.foldl (fun acc g=>bump acc++[g]) acc).length=acc.length+l.length:=by
 induction l with
 |nil=>intro acc;simp
 |cons g l ih=>intro acc;rw[List.foldl_cons,ih];simp[bump_length];omega
theorem z110(l:List UInt8):(pack l).length=l.length:=by rw[pack,foldl_bump_length];simp
theorem tailN_zero(f:Nat):tailN f 0=[]:=by cases f<;>simp[tailN]
theorem tailN_length(f:Nat):∀m,(tailN f m).length≤f:=by
 induction f with
 |zero=>intro m;simp[tailN]
 |succ f ih=>intro m;simp only[tailN];split;simp;simp;exact ih _
theorem groups_length(n:Int):(groups n).length≤10:=by
 have:=tailN_length 9 (mag n / 64);simp[groups];omega
theorem z16(n:Int):(num n).length≤10:=by rw[num,z110];exact groups_length n
theorem num_pos(n:Int):0<(num n).length:=by rw[num,z110];simp[groups]
abbrev Ix:Type:=Fin 1125899906842624
def rdGo:Nat→Nat×Nat→List UInt8→Except Bool (Nat×Nat×Nat)
 |_,_,[]=> .error false
 |k,st,b::r=>
  if k≠0∧(b.toNat=0∨k=9∧1<b.toNat)then .error true else
  let g:=b.toNat%128
  let st':=if k=0 then(g / 2,g%2)else(st.1+g*2 ^ (7*k-1),st.2)
  if b.toNat<128 then .ok (st'.1,st'.2,k+1)else rdGo (k+1) st' r
def stepM(st:Nat×Nat)(x:Ix×UInt8):Nat×Nat:=
 if x.1.val=0 then(x.2.toNat%128 / 2,x.2.toNat%128%2)else(st.1+x.2.toNat%128*2 ^ (7*x.1.val-1),st.2)
def stM(pre:List (Ix×UInt8)):Nat×Nat:=pre.foldl stepM (0,0)
theorem stM_snoc(pre:List (Ix×UInt8))(x:Ix×UInt8):stM (pre++[x])=stepM (stM pre) x:=by simp[stM]
def pairs(s:List UInt8)(a:Nat):List (Ix×UInt8):=(s.drop a).zipIdx.map fun p=>(Fin.ofNat _ p.2,p.1)
theorem z106(s:List UInt8)(a:Nat):(pairs s a).length=s.length-a:=by simp[pairs]
theorem pairs_get(s:List UInt8)(a k:Nat)(h:a+k<s.length):(pairs s a)[k]?=some (Fin.ofNat _ k,s[a+k]):=by
 simp[pairs,List.getElem?_drop,gE h]
theorem pairs_take(s:List UInt8)(a k:Nat)(h:a+k<s.length):(pairs s a).take (k+1)=(pairs s a).take k++[(Fin.ofNat _ k,s[a+k])]:=by
 rw[List.take_add_one,pairs_get s a k h];rfl
def rd(s:List UInt8)(a:Int):Except Bool (Int×Nat):=
 if 0≤a∧a<s.length then
  match rdGo 0 (0,0) (s.drop a.toNat)with
  | .error e=> .error e
  | .ok (m,sg,z)=> .ok (if sg=1 then -1-(m:Int)else m,z)
 else .error false
def Begs(s:List UInt8)(a:Nat)(pre:List (Ix×UInt8)):Prop:=pre<+:pairs s a
theorem Begs.last{s:List UInt8}{a:Nat}{pre:List (Ix×UInt8)}{x:Ix×UInt8}(h:Begs s a (pre++[x]))(hs:s.length<1125899906842624):
  Begs s a pre∧x.1.val=pre.length∧∃hl:a+pre.length<s.length,x.2=s[a+pre.length]:=by
 have hg:Begs s a pre:=(List.prefix_append pre [x]).trans h;have hlen:=h.length_le;rw[z106]at hlen;simp at hlen;have hl:a+pre.length<s.length:=by omega
 have h1:(pre++[x])[pre.length]?=some x:=by simp
 have h2:=List.prefix_iff_getElem?.1 h pre.length (by simp);rw[pairs_get s a pre.length hl]at h2;simp at h2;subst h2;exact⟨hg,by simp[Fin.ofNat];omega,hl,rfl⟩
structure Mid(s:List UInt8)(a:Nat)(pre:List (Ix×UInt8))(m sg:Int):Prop where
 m:m=(stM pre).1
 sg:sg=(stM pre).2
 go:rdGo 0 (0,0) (s.drop a)=rdGo pre.length (stM pre) (s.drop (a+pre.length))
 lt:(stM pre).1<2 ^ (7*pre.length-1)
 le:pre.length≤9
theorem bump_nil:bump []=[]:=rfl
theorem add128(b:UInt8):((b+128).toNat:Int)=((b.toNat:Int)+128)%256:=by
 have h:(128:UInt8).toNat=128:=rfl;rw[UInt8.toNat_add,h];omega
theorem bump_snoc(Q:List UInt8)(b:UInt8):bump (Q++[b])=Q++[b+128]:=by
 simp[bump]
theorem snoc_of{α:Type}(l:List α)(h:l≠[]):∃Q b,l=Q++[b]:=⟨l.dropLast,l.getLast h,(List.dropLast_concat_getLast h).symm⟩
theorem first_neg(x:Int)(h:x<0):((UInt8.ofNat (mag x%64*2+sgn x)).toNat:Int)=(-1-x)%64*2+1:=by
 simp only[mag,sgn,if_pos h,UInt8.toNat_ofNat'];omega
theorem z39(x:Int)(h:¬x<0):((UInt8.ofNat (mag x%64*2+sgn x)).toNat:Int)=x%64*2:=by
 simp only[mag,sgn,if_neg h,UInt8.toNat_ofNat'];omega
theorem next_byte(m:Nat):((UInt8.ofNat (m%128)).toNat:Int)=(m:Int)%128:=by
 simp only[UInt8.toNat_ofNat'];omega
theorem mag_eq(x:Int):(mag x:Int)=if x<0 then -1-x else x:=by simp only[mag];split<;>omega
theorem mag_lt(x:Int)(h0: -9223372036854775808≤x)(h1:x≤9223372036854775807):mag x<9223372036854775808:=by
 have:=mag_eq x;split at this<;>omega
end Go.Mor
end

section
namespace Go.Mor
open Go
theorem drop_cons{s:List UInt8}{i:Nat}(h:i<s.length):s.drop i=s[i]::s.drop (i+1):=List.drop_eq_getElem_cons h
theorem Mid.at{s:List UInt8}{a:Nat}{pre:List (Ix×UInt8)}{x:Ix×UInt8}{m sg:Int}(hs:s.length<1125899906842624)(hM:Begs s a pre→Mid s a pre m sg)(hg:Begs s a (pre++[x])):
  Mid s a pre m sg∧x.1.val=pre.length∧rdGo 0 (0,0) (s.drop a)=rdGo pre.length (stM pre) (x.2::s.drop (a+(pre++[x]).length)):=by
 obtain⟨hg',hx,hl,hb⟩:=hg.last hs;have hm:=hM hg';refine⟨hm,hx,?_⟩;rw[hm.go,drop_cons hl,hb];simp[Nat.add_assoc]
theorem Mid.err{s:List UInt8}{a:Nat}{pre:List (Ix×UInt8)}{x:Ix×UInt8}{m sg:Int}(hs:s.length<1125899906842624)(hM:Begs s a pre→Mid s a pre m sg)(hk:¬x.1.val=0)(hbad:x.2.toNat=0∨x.1.val=9∧1<x.2.toNat)
  (hg:Begs s a (pre++[x])):rdGo 0 (0,0) (s.drop a)=.error true:=by
 obtain⟨hm,hx,hr⟩:=Mid.at hs hM hg;rw[hr,rdGo,if_pos];rw[←hx];exact⟨hk,hbad⟩
theorem Mid.ok{s:List UInt8}{a:Nat}{pre:List (Ix×UInt8)}{x:Ix×UInt8}{m sg:Int}(hs:s.length<1125899906842624)(hM:Begs s a pre→Mid s a pre m sg)(hbad:¬(x.1.val≠0∧(x.2.toNat=0∨x.1.val=9∧1<x.2.toNat)))
  (hlo:x.2.toNat<128) (hg:Begs s a (pre++[x])):rdGo 0 (0,0) (s.drop a)=.ok ((stepM (stM pre) x).1,(stepM (stM pre) x).2,x.1.val+1):=by
 obtain⟨hm,hx,hr⟩:=Mid.at hs hM hg;rw[hr,rdGo,if_neg (by rw[←hx];exact hbad),←hx];simp only[hlo,if_true,stepM]
theorem step_lt{st:Nat×Nat}{x:Ix×UInt8}(h:st.1<2 ^ (7*x.1.val-1)):(stepM st x).1<2 ^ (7*(x.1.val+1) - 1):=by
 unfold stepM;by_cases h0:x.1.val=0
 ·rw[if_pos h0,h0];show x.2.toNat%128 / 2<64;omega
 ·rw[if_neg h0];show st.1+x.2.toNat%128*2 ^ (7*x.1.val-1)<_;have e:7*(x.1.val+1) - 1=7*x.1.val-1+7:=by omega
  rw[e,Nat.pow_add];have h1:x.2.toNat%128<128:=Nat.mod_lt _ (by omega);have h2:x.2.toNat%128*2 ^ (7*x.1.val-1)≤127*2 ^ (7*x.1.val-1):=Nat.mul_le_mul_right _ (by omega);omega
theorem Mid.cont{s:List UInt8}{a:Nat}{pre:List (Ix×UInt8)}{x:Ix×UInt8}{m sg:Int}(hs:s.length<1125899906842624)(hM:Begs s a pre→Mid s a pre m sg)(hbad:¬(x.1.val≠0∧(x.2.toNat=0∨x.1.val=9∧1<x.2.toNat)))
  (hlo:128≤x.2.toNat) (hg:Begs s a (pre++[x])):Mid s a (pre++[x]) ((stepM (stM pre) x).1:Nat) ((stepM (stM pre) x).2:Nat):=by
 obtain⟨hm,hx,hr⟩:=Mid.at hs hM hg;have hlen:(pre++[x]).length=x.1.val+1:=by simp[hx]
 refine⟨by rw[stM_snoc],by rw[stM_snoc],?_,?_,?_⟩
 ·rw[hr,rdGo,if_neg (by rw[←hx];exact hbad),stM_snoc,←hx];have h1:¬x.2.toNat<128:=by omega
  simp only[h1,if_false,hlen];rfl
 ·rw[stM_snoc,hlen];exact step_lt (by rw[hx];exact hm.lt)
 ·have:=hm.le;rw[hlen];by_cases h0:x.1.val=0
  ·omega
  ·have:¬x.1.val=9:=fun h9=>hbad ⟨h0,.inr ⟨h9,by omega⟩⟩;omega
theorem or_add(A g i:Nat)(h:A<2 ^ i):A|||g*2 ^ i=A+g*2 ^ i:=by
 have:=Nat.two_pow_add_eq_or_of_lt h g;rw[Nat.mul_comm g,Nat.or_comm,←this,Nat.add_comm]
theorem or_step{s:List UInt8}{a:Nat}{pre:List (Ix×UInt8)}{x:Ix×UInt8}{m sg G:Int}(hs:s.length<1125899906842624)(hM:Begs s a pre→Mid s a pre m sg)(hk:¬x.1.val=0)(hbad:¬(x.2.toNat=0∨x.1.val=9∧1<x.2.toNat))
  (hG:G=IntKind.u64.wrap ((x.2.toNat:Int)%128*2 ^ min (7*x.1.val-1) 64)) (hg:Begs s a (pre++[x])):
  bits .or .u64 m G=((stepM (stM pre) x).1:Nat)∧sg=((stepM (stM pre) x).2:Nat):=by
 obtain⟨hm,hx,_⟩:=Mid.at hs hM hg;have hle:=hm.le;have hlt:=hm.lt;rw[←hx]at hle hlt;have hmin:min (7*x.1.val-1) 64=7*x.1.val-1:=by omega
 have hpow:2 ^ (7*x.1.val-1)≤2 ^ 62:=Nat.pow_le_pow_right (by omega) (by omega);have hval:x.2.toNat%128*2 ^ (7*x.1.val-1)<18446744073709551616:=by
  by_cases h9:x.1.val=9
  ·have:x.2.toNat%128≤1:=by omega
   have:=Nat.mul_le_mul this hpow;omega
  ·have h8:2 ^ (7*x.1.val-1)≤2 ^ 55:=Nat.pow_le_pow_right (by omega) (by omega);have:x.2.toNat%128≤127:=by omega
   have:=Nat.mul_le_mul this h8;omega
 have hG':G=((x.2.toNat%128*2 ^ (7*x.1.val-1):Nat):Int):=by
  rw[hG,hmin];have e:(x.2.toNat:Int)%128*2 ^ (7*x.1.val-1)=((x.2.toNat%128*2 ^ (7*x.1.val-1):Nat):Int):=by simp
  rw[e,IntKind.wrap_u64];omega
 rw[hG',hm.m,u64_or_nat _ _ (by omega) hval,or_add _ _ _ hlt,hm.sg];simp only[stepM,if_neg hk,true_and]
theorem rdGo_bound:∀(l:List UInt8) (k:Nat) (st:Nat×Nat) {m sg z:Nat},k≤9→st.1<2 ^ (7*k-1)→(k=0∨st.2≤1)→rdGo k st l=.ok (m,sg,z)→
  m<9223372036854775808∧sg≤1∧k<z∧z≤10∧z≤k+l.length
 |[],k,st,m,sg,z,_,_,_,h=>by simp[rdGo]at h
 |b::r,k,st,m,sg,z,hk,hlt,hsg,h=>by
  rw[rdGo]at h;by_cases hbad:k≠0∧(b.toNat=0∨k=9∧1<b.toNat)
  ·rw[if_pos hbad]at h;cases h
  rw[if_neg hbad]at h;have hst:(if k=0 then(b.toNat%128 / 2,b.toNat%128%2)else(st.1+b.toNat%128*2 ^ (7*k-1),st.2)).1<2 ^ (7*(k+1) - 1)∧
    (if k=0 then(b.toNat%128 / 2,b.toNat%128%2)else(st.1+b.toNat%128*2 ^ (7*k-1),st.2)).2≤1∧
    (k=9→(if k=0 then(b.toNat%128 / 2,b.toNat%128%2)else(st.1+b.toNat%128*2 ^ (7*k-1),st.2)).1<9223372036854775808):=by
   by_cases h0:k=0
   ·subst h0;simp only[if_true];refine⟨?_,by omega,by omega⟩;show b.toNat%128 / 2<64;omega
   ·simp only[if_neg h0];have e:7*(k+1) - 1=7*k-1+7:=by omega
    rw[e,Nat.pow_add];have h2:b.toNat%128*2 ^ (7*k-1)≤127*2 ^ (7*k-1):=Nat.mul_le_mul_right _ (by omega);refine⟨by omega,by omega,fun h9=> ?_⟩;subst h9;have h3:b.toNat%128≤1:=by omega
    have h4:b.toNat%128*2 ^ (7*9-1)≤1*2 ^ (7*9-1):=Nat.mul_le_mul_right _ h3;omega
  obtain⟨h1,h2,h3⟩:=hst
  dsimp only at h
  generalize(if k=0 then(b.toNat%128 / 2,b.toNat%128%2)else(st.1+b.toNat%128*2 ^ (7*k-1),st.2))=q at*;by_cases hlo:b.toNat<128
  ·rw[if_pos hlo]at h;simp only[Except.ok.injEq,Prod.mk.injEq]at h;obtain⟨rfl,rfl,rfl⟩:=h;refine⟨?_,h2,by omega,by omega,by simp⟩;by_cases h9:k=9
   ·exact h3 h9
   ·have:2 ^ (7*(k+1) - 1)≤2 ^ 62:=Nat.pow_le_pow_right (by omega) (by omega);omega
  ·rw[if_neg hlo]at h;have hk9:¬k=9:=fun h9=>hbad ⟨by omega,.inr ⟨h9,by omega⟩⟩;have:=rdGo_bound r (k+1) q (by omega) h1 (.inr h2) h;simp only[List.length_cons];omega
end Go.Mor
end

section
namespace Go.Mor
def z35(s:List UInt8)(a:Int):Option (Int×Int):=
 match rd s a with
 | .ok (n,z)=>some (n,a+z)
 | .error _=>none
def rdW(s:List UInt8)(a:Int):Except Bool (List UInt8×Int):=
 match rd s a with
 | .error e=> .error e
 | .ok (n,z)=>if n<0∨10000<n then .error true else if s.length-(a+z)<n then .error false else .ok ((s.drop (a+z).toNat).take n.toNat,a+z+n)
def z29(s:List UInt8)(a:Int):Option (List UInt8×Int):=
 match rdW s a with
 | .ok (t,b)=>some (t,b)
 | .error _=>none
def numRes(r:Option (Int×Int)):Value:=match r with|some (n,b)=> .tuple #[.int .i64 n,.int .i64 b,.int .i64 0]|none=> .tuple #[.int .i64 0,.int .i64 0,.int .i64 10]
def readRes(r:Option (List UInt8×Int)):Value:=match r with|some (t,b)=> .tuple #[.string (str t),.int .i64 b,.int .i64 0]|none=> .tuple #[.string (str []),.int .i64 0,.int .i64 10]
def text(s:List UInt8):List UInt8:=num s.length++s
def textRes(s:List UInt8):Value:=if s.length≤10000 then .tuple #[.string (str (text s)),.int .i64 0] else .tuple #[.string (str []),.int .i64 10]
theorem rd_bound{s:List UInt8}{a:Int}{n:Int}{z:Nat}(h:rd s a=.ok (n,z)):0≤a∧a+z≤s.length∧ -9223372036854775808≤n∧n≤9223372036854775807∧0<z∧z≤10:=by
 unfold rd at h;split at h
 ·rename_i hin;split at h
  ·cases h
  ·rename_i m sg z' he;simp only[Except.ok.injEq,Prod.mk.injEq]at h;obtain⟨rfl,rfl⟩:=h;have:=rdGo_bound _ 0 (0,0) (by omega) (by decide) (.inl rfl) he;simp only[List.length_drop]at this;refine⟨by omega,by omega,?_,?_,by omega,by omega⟩<;>split<;>omega
 ·cases h
theorem readNum_bound{s:List UInt8}{a n b:Int}(h:z35 s a=some (n,b)):0≤a∧a<b∧b≤s.length∧ -9223372036854775808≤n∧n≤9223372036854775807:=by
 unfold z35 at h;split at h
 ·rename_i n' z he;simp only[Option.some.injEq,Prod.mk.injEq]at h;obtain⟨rfl,rfl⟩:=h;have:=rd_bound he;omega
 ·cases h
theorem z126{s t:List UInt8}{a b:Int}(h:z29 s a=some (t,b)):0≤a∧a<b∧b≤s.length∧t.length≤10000:=by
 unfold z29 at h;split at h
 ·rename_i t' b' he;simp only[Option.some.injEq,Prod.mk.injEq]at h;obtain⟨rfl,rfl⟩:=h;unfold rdW at he;split at he
  ·cases he
  ·rename_i n z hr;have:=rd_bound hr;split at he
   ·cases he
   ·split at he
    ·cases he
    ·simp only[Except.ok.injEq,Prod.mk.injEq]at he;obtain⟨rfl,rfl⟩:=he;refine⟨by omega,by omega,by omega,?_⟩;rw[List.length_take];omega
 ·cases h
end Go.Mor
end

section
namespace Go.Mor
open Go Go.RowKit
structure Fld where
 n:List UInt8
 t:Ty
 ix:Bool
structure Cls where
 n:List UInt8
 fs:List Fld
def small(b:UInt8):Bool:=decide (97≤b.toNat∧b.toNat≤122)
def nameB(b:UInt8):Bool:=small b||decide (48≤b.toNat∧b.toNat≤57)||b.toNat==95
def z26(s:List UInt8):Bool:=decide (1≤s.length∧s.length≤20)&&small (s.headD 0)&&s.all nameB
def z27(f:Fld):Bool:=z26 f.n&&z24 f.t&&(!f.ix||decide (f.t.k≤3))
def fieldAt(c:List Fld)(name:List UInt8):Int:=z40 (fun f=>f.n==name) c
def onceGo(all:List Fld):Nat→List Fld→Bool
 |_,[]=>true
 |k,f::r=>z27 f&&fieldAt all f.n==k&&onceGo all (k+1) r
def z44(c:Cls):Bool:=z26 c.n&&decide (c.fs.length≤8)&&onceGo c.fs 0 c.fs
def z81:Nat→List Fld→List V→Int×Int
 |_,[],_=>(0,0)
 |_,_,[]=>(0,0)
 |k,f::fs,v::vs=>if fitsV v f.t then z81 (k+1) fs vs else(k,42)
def check(c:Cls)(vs:List V):Int×Int:=
 if !z44 c then(0,40)else if vs.length≠c.fs.length then((min vs.length c.fs.length:Nat),42)else z81 0 c.fs vs
def IsF(ok:Nat→Prop)(w:World)(l:List Fld)(c:Value):Prop:=
 ∃(b off cap:Nat) (p:Option Addr),c=.slice p l.length cap∧l.length≤cap∧cap≤maxLen∧(l≠[]→p=some ⟨b,off,none⟩∧ok b)∧
  ∀(i:Nat) (f:Fld),l[i]?=some f→w.cell? ⟨b,off+i*4,none⟩=some (.string (str f.n))∧w.cell? ⟨b,off+i*4+1,none⟩=some (.int .i64 f.t.k)
   ∧w.cell? ⟨b,off+i*4+2,none⟩=some (.int .i64 f.t.o)∧w.cell? ⟨b,off+i*4+3,none⟩=some (.bool f.ix)
theorem IsF.keepBy{ok:Nat→Prop}{w w':World}{l:List Fld}{c:Value}(h:IsF ok w l c)(hk:∀a v,ok a.block→w.cell? a=some v→w'.cell? a=some v):IsF ok w' l c:=by
 obtain⟨b,off,cap,p,h1,h2,h3,h4,h5⟩:=h;refine⟨b,off,cap,p,h1,h2,h3,h4,fun i f hf=> ?_⟩;have hb:ok b:=(h4 (by rintro rfl;simp at hf)).2;obtain⟨q0,q1,q2,q3⟩:=h5 i f hf;exact⟨hk _ _ hb q0,hk _ _ hb q1,hk _ _ hb q2,hk _ _ hb q3⟩
theorem IsF.ext{ok:Nat→Prop}{w w':World}{l:List Fld}{c:Value}(h:IsF ok w l c)(hb:Below w.heap.size w w'):IsF ok w' l c:=
 h.keepBy fun _ _ _ hv=>(hb.cell (z33 hv)).trans hv
theorem IsF.keep{ok:Nat→Prop}{w w':World}{l:List Fld}{c:Value}(h:IsF ok w l c)(hk:∀b,ok b→w'.heap[b]?=w.heap[b]?):IsF ok w' l c:=
 h.keepBy fun a _ ho hv=>(World.cell?_of_block (w:=w) (hk a.block ho)).trans hv
end Go.Mor
end

section
namespace Go.Mor
open Go Go.RowKit
set_option maxHeartbeats 1000000
def pick(c n:Int):Int:=(if c<0 then -(c+1)else c)%n
theorem z18(c n:Int)(hn:0<n):0≤pick c n∧pick c n<n:=⟨Int.emod_nonneg _ (by omega),Int.emod_lt_of_pos _ hn⟩
structure RawF where
 n:Int
 k:Int
 o:Int
 ix:Bool
structure Raw where
 n:Int
 fs:List RawF
def nmF(i:Int):List UInt8:=([[97],[98,50],[110,97,109,101],[110,101,120,116,95,111,110,101],[107,105,100,115],[120]]:List (List UInt8)).getD i.toNat []
def nmC(i:Int):List UInt8:=([[110,111,100,101],[105,116,101,109],[117,115,101,114],[112,97,103,101,95,49],[108,101,97,102],[113]]:List (List UInt8)).getD i.toNat []
def z83(r:RawF):Fld:=⟨nmF (pick r.n 6),⟨1+pick r.k 5,if pick r.k 5=4 then 1+pick r.o 4 else 0⟩,r.ix&&decide (1+pick r.k 5≤3)⟩
def addF(acc:List Fld)(r:RawF):List Fld:=if fieldAt acc (z83 r).n<0 then acc++[z83 r] else acc
def z69(x:Raw):Cls:=⟨nmC (pick x.n 6),(x.fs.take 6).foldl addF []⟩
theorem firstAt_eq{α:Type}(p:α→Bool)(l:List α)(k:Nat)(x:α)(hx:l[k]?=some x)(hp:p x=true)(h:∀(i:Nat) y,i<k→l[i]?=some y→p y=false):z40 p l=k:=by
 have:l.findIdx? p=some k:=by
  rw[List.findIdx?_eq_some_iff_getElem];obtain⟨hk,rfl⟩:=gJ hx;refine⟨hk,hp,fun j hj=> ?_⟩;have:=h j _ hj (gE (by omega));simp[this]
 simp[z40,this]
theorem firstAt_neg{α:Type}(p:α→Bool)(l:List α):z40 p l<0 ↔ ∀x∈l,p x=false:=by
 unfold z40;cases hf:l.findIdx? p with
 |none=>rw[List.findIdx?_eq_none_iff]at hf;simp;exact hf
 |some i=>
  rw[List.findIdx?_eq_some_iff_getElem]at hf;obtain⟨hi,hp,_⟩:=hf;constructor
  ·intro h;exfalso;simp at h;omega
  ·intro h;have:=h _ (List.getElem_mem hi);rw[hp]at this;cases this
def Dist(l:List Fld):Prop:=∀(i j:Nat) (f g:Fld),l[i]?=some f→l[j]?=some g→f.n=g.n→i=j
theorem onceGo_iff(all:List Fld):∀(r:List Fld) (k:Nat),onceGo all k r=true ↔ ∀(i:Nat) f,r[i]?=some f→z27 f=true∧fieldAt all f.n=((k+i:Nat):Int):=by
 intro r
 induction r with
 |nil=>intro k;simp[onceGo]
 |cons g r ih=>
  intro k;rw[onceGo,Bool.and_eq_true,Bool.and_eq_true,ih (k+1)];constructor
  ·rintro⟨⟨h1,h2⟩,h3⟩ i f hf;cases i with
   |zero=>simp at hf;subst hf;exact⟨h1,by simpa using h2⟩
   |succ i=>have:=h3 i f (by simpa using hf);refine⟨this.1,this.2.trans ?_⟩;congr 1;omega
  ·intro h;have h0:=h 0 g (by simp);refine⟨⟨h0.1,by simpa using h0.2⟩,fun i f hf=> ?_⟩;have:=h (i+1) f (by simpa using hf);refine⟨this.1,this.2.trans ?_⟩;congr 1;omega
theorem dist_at{l:List Fld}(h:Dist l){i:Nat}{f:Fld}(hf:l[i]?=some f):fieldAt l f.n=i:=by
 refine firstAt_eq _ l i f hf (by simp) fun j y hj hy=> ?_;rw[beq_eq_false_iff_ne];intro he;have:=h j i y f hy hf he;omega
theorem right_iff(c:Cls):z44 c=true ↔ z26 c.n=true∧c.fs.length≤8∧(∀f∈c.fs,z27 f=true)∧Dist c.fs:=by
 rw[z44,Bool.and_eq_true,Bool.and_eq_true,onceGo_iff,decide_eq_true_iff];constructor
 ·rintro⟨⟨h1,h2⟩,h3⟩;refine⟨h1,h2,fun f hf=> ?_,fun i j f g hi hj he=> ?_⟩
  ·obtain⟨i,hi⟩:=List.getElem?_of_mem hf;exact(h3 i f hi).1
  ·have a:=(h3 i f hi).2;have b:=(h3 j g hj).2;rw[he]at a;have:=a.symm.trans b;simp at this;omega
 ·rintro⟨h1,h2,h3,h4⟩;exact⟨⟨h1,h2⟩,fun i f hf=>⟨h3 f (gM hf),by rw[dist_at h4 hf];simp⟩⟩
theorem nmF_right(j:Int)(h0:0≤j)(h1:j<6):z26 (nmF j)=true∧(nmF j).length≤8:=by
 have:j=0∨j=1∨j=2∨j=3∨j=4∨j=5:=by omega
 rcases this with rfl|rfl|rfl|rfl|rfl|rfl<;>decide
theorem nmC_right(j:Int)(h0:0≤j)(h1:j<6):z26 (nmC j)=true∧(nmC j).length≤8:=by
 have:j=0∨j=1∨j=2∨j=3∨j=4∨j=5:=by omega
 rcases this with rfl|rfl|rfl|rfl|rfl|rfl<;>decide
theorem fieldOf_right(r:RawF):z27 (z83 r)=true∧(z83 r).n.length≤8:=by
 have h1:=z18 r.n 6 (by omega);have h2:=z18 r.k 5 (by omega);have h3:=z18 r.o 4 (by omega);have h4:=nmF_right _ h1.1 h1.2;refine⟨?_,h4.2⟩;simp only[z27,z83,h4.1,Bool.true_and,Bool.and_eq_true];obtain⟨q,hq⟩:∃q,pick r.k 5=q:=⟨_,rfl⟩
 obtain⟨p,hp⟩:∃p,pick r.o 4=p:=⟨_,rfl⟩
 simp only[hq,hp]at*;refine⟨?_,?_⟩
 ·unfold z24;by_cases hq:q=4
  ·subst hq;simp;omega
  ·rw[if_neg (by simp;omega)];simp[hq];omega
 ·cases r.ix<;>simp
theorem dist_snoc{l:List Fld}{f:Fld}(h:Dist l)(hn:fieldAt l f.n<0):Dist (l++[f]):=by
 have hno:=(firstAt_neg _ _).1 hn;have key:∀(i:Nat) (g:Fld),l[i]?=some g→g.n≠f.n:=fun i g hg he=>by
  have:=hno g (gM hg);simp[he]at this
 intro i j a b ha hb he;rw[List.getElem?_append]at ha hb;split at ha<;>split at hb
 ·exact h i j a b ha hb he
 ·have hb':b=f:=by
   rw[List.getElem?_singleton]at hb;split at hb<;>simp_all
  subst hb';exact absurd he (key i a ha)
 ·have ha':a=f:=by
   rw[List.getElem?_singleton]at ha;split at ha<;>simp_all
  subst ha';exact absurd he.symm (key j b hb)
 ·rw[List.getElem?_singleton]at ha hb;split at ha<;>split at hb<;>simp_all
  omega
theorem fold_good:∀(rs:List RawF) (acc:List Fld),(∀f∈acc,z27 f=true∧f.n.length≤8)→Dist acc→
  (∀f∈rs.foldl addF acc,z27 f=true∧f.n.length≤8)∧Dist (rs.foldl addF acc)∧(rs.foldl addF acc).length≤acc.length+rs.length:=by
 intro rs
 induction rs with
 |nil=>intro acc h1 h2;exact⟨h1,h2,by simp⟩
 |cons r rs ih=>
  intro acc h1 h2;rw[List.foldl_cons];by_cases hn:fieldAt acc (z83 r).n<0
  ·have:addF acc r=acc++[z83 r]:=by rw[addF,if_pos hn]
   rw[this];have:=ih (acc++[z83 r]) (fun f hf=>by
    rcases List.mem_append.1 hf with hf|hf
    ·exact h1 f hf
    ·obtain rfl:=List.mem_singleton.1 hf;exact fieldOf_right r) (dist_snoc h2 hn)
   refine⟨this.1,this.2.1,?_⟩;have:=this.2.2;simp at this ⊢;omega
  ·have:addF acc r=acc:=by rw[addF,if_neg hn]
   rw[this];have:=ih acc h1 h2;refine⟨this.1,this.2.1,?_⟩;have:=this.2.2;simp at this ⊢;omega
structure GoodC(c:Cls):Prop where
 nm:z26 c.n=true∧c.n.length≤8
 fs:∀f∈c.fs,z27 f=true∧f.n.length≤8
 di:Dist c.fs
 len:c.fs.length≤6
theorem classOf_good(x:Raw):GoodC (z69 x):=by
 have h:=fold_good (x.fs.take 6) [] (by simp) (by intro i j f g h;simp at h);have hb:=z18 x.n 6 (by omega);exact⟨nmC_right _ hb.1 hb.2,h.1,h.2.1,by have:=h.2.2;simp only[z69];simp at this ⊢;omega⟩
theorem GoodC.right{c:Cls}(h:GoodC c):z44 c=true:=(right_iff c).2 ⟨h.nm.1,by have:=h.len;omega,fun f hf=>(h.fs f hf).1,h.di⟩
end Go.Mor
end

section
namespace Go.Proofs.YtcpaleaajdilgaaGreatDoor
open Go Go.RowKit Go.Mor Go.Sh
def rfR1(r:RawF):List PV:=[.v (.int .i64 r.n),.v (.int .i64 r.k),.v (.int .i64 r.o),.v (.bool r.ix)]
def rfR(l:List RawF):List (List PV):=l.map rfR1
def rawT(x:Raw):TV:=.agg [.pv (.v (.int .i64 x.n)),.pv (.sl 4 (rfR x.fs))]
structure RawOk(x:Raw):Prop where
 n:I64 x.n
 fs:∀r∈x.fs,I64 r.n∧I64 r.k∧I64 r.o
 len:x.fs.length≤9223372036854775807
theorem rfGet(l:List RawF)(k:Nat):(rfR l)[k]?=(l[k]?).map rfR1:=by unfold rfR;rw[List.getElem?_map]
theorem rfLen(l:List RawF):(rfR l).length=l.length:=by unfold rfR;rw[List.length_map]
theorem class_step(l:List RawF)(i:Nat)(r:RawF)(h:l[i]?=some r):(l.take (i+1)).foldl addF []=addF ((l.take i).foldl addF []) r:=by
 rw[List.take_add_one,h];simp only[Option.toList_some,List.foldl_append,List.foldl_cons,List.foldl_nil]
theorem class_len(l:List RawF)(i:Nat):((l.take i).foldl addF []).length≤i:=by
 induction i with
 |zero=>simp
 |succ i ih=>
  cases h:l[i]? with
  |none=>
   have h1:l.take (i+1)=l.take i:=by rw[List.take_add_one,h];simp
   rw[h1];omega
  |some r=>
   rw[class_step l i r h];generalize(l.take i).foldl addF []=acc at ih ⊢;unfold addF;split
   ·rw[List.length_append,List.length_singleton];omega
   ·omega
theorem nmF_at{i:Nat}(h:i<6):([[PV.v (.string ⟨#[97]⟩)],[.v (.string ⟨#[98,50]⟩)],[.v (.string ⟨#[110,97,109,101]⟩)],[.v (.string ⟨#[110,101,120,116,95,111,110,101]⟩)],[.v (.string ⟨#[107,105,100,115]⟩)],[.v (.string ⟨#[120]⟩)]]:List (List PV))[i]?=some [.v (.string (str (nmF (i:Int))))]:=by
 have:i=0∨i=1∨i=2∨i=3∨i=4∨i=5:=by omega
 rcases this with rfl|rfl|rfl|rfl|rfl|rfl<;>rfl
theorem nmC_at{i:Nat}(h:i<6):([[PV.v (.string ⟨#[110,111,100,101]⟩)],[.v (.string ⟨#[105,116,101,109]⟩)],[.v (.string ⟨#[117,115,101,114]⟩)],[.v (.string ⟨#[112,97,103,101,95,49]⟩)],[.v (.string ⟨#[108,101,97,102]⟩)],[.v (.string ⟨#[113]⟩)]]:List (List PV))[i]?=some [.v (.string (str (nmC (i:Int))))]:=by
 have:i=0∨i=1∨i=2∨i=3∨i=4∨i=5:=by omega
 rcases this with rfl|rfl|rfl|rfl|rfl|rfl<;>rfl
end Go.Proofs.YtcpaleaajdilgaaGreatDoor
end

section
namespace Go.Proofs.YtcpaleaajdilgaaGreatDoor.OpR
open Go.ChangeShapes Go.WideShapes Go.ChangeAt Go.RowKit Go.Lib Go.Mor Go.Deep Go.Joins
open Go.ChangeMaps (open_string shut_string)
theorem list_of{α:Type}{n:Nat}{Q:Nat→α→Prop}(h:∀i,i<n→∃r,Q i r):∃l:List α,l.length=n∧∀(i:Nat) r,l[i]?=some r→Q i r:=by
 induction n with
 |zero=>exact⟨[],rfl,by simp⟩
 |succ n ih=>
  obtain⟨l,hl,hq⟩:=ih fun i hi=>h i (by omega);obtain⟨r,hr⟩:=h n (by omega);refine⟨l++[r],by simp[hl],fun i x hx=> ?_⟩;rw[List.getElem?_append]at hx;split at hx
  ·exact hq i x hx
  ·rw[List.getElem?_singleton]at hx;split at hx
   ·injection hx with hx;subst hx
    obtain rfl:i=n:=by omega
    exact hr
   ·cases hx
section
variable{H:Type}{enc:TypeId×Value→H}{P:Program}{w:World}{base:Nat}{spare:Nat→Bool}{held:Bool}
theorem open_fields{t e:TypeId}{fs:Array Field}{fuel:Nat}{cs:List Value}{x:DataW H×List MemPlace}(ht:P.underlying t=some (.slice e))(he:P.underlying e=some (.struct fs))
  (hone:oneCellFields P fs=true) (hC:P.cellsOf e=fs.size) (h:DataW.trod enc P w base spare held fuel t cs=some x):
  (cs=[.slice none 0 0])∨
  ∃(a:Addr) (len cap:Nat),cs=[.slice (some a) len cap]∧len≤cap∧cap≤maxLen∧
   ∀i,i<len→∃n,∀(j:Nat) (f:Field),fs[j]?=some f→∃(v:Value) (y:DataW H×List MemPlace),w.cell? (a.add (i*fs.size+j))=some v∧DataW.trod enc P w base spare held n f.type [v]=some y:=by
 rcases open_slice ht h with h0|⟨a,len,cap,m,n,D,Pl,hcs,hb,hl,hm,hmm,hx,hi⟩
 ·exact .inl h0.1
 ·refine .inr ⟨a,len,cap,hcs,hl,hm,fun i him=> ?_⟩;obtain⟨cs',hc,ht'⟩:=hi i (by rw[hmm];split<;>omega);rw[hC]at hc;obtain⟨ys,n',hn',hy,hlen,hyl,hf⟩:=DataW.trod_struct he ht';obtain⟨_,hcl,hat⟩:=World.cells?_some hc;refine⟨n',fun j f hj=> ?_⟩;obtain⟨ho,hk⟩:=hone_of hone j f hj;have hjl:j<fs.size:=(gA hj).1;have hcell:=hat j hjl;have hv:cs'[j]?=some (cs'[j]'(by omega)):=gE (by omega);have h1:=hf j f hj;rw[ho,hk]at h1;have hone':(cs'.drop j).take 1=[cs'[j]'(by omega)]:=by
   rw[List.drop_eq_getElem_cons (by omega)];rfl
  rw[hone']at h1;have hys:ys[j]?=some (ys[j]'(by omega)):=gE (by omega);refine⟨_,_,?_,h1.trans hys⟩;rw[←Go.Deep.add_add,hcell,hv]
end
theorem add_form{a:Addr}{w:World}{k:Nat}{v:Value}(h0:w.cell? a=some v):a=⟨a.block,a.off,none⟩∧a.add k=⟨a.block,a.off+k,none⟩:=by
 have:=World.cell?_spot h0;obtain⟨b,off,spot⟩:=a;simp at this;subst this;exact⟨rfl,Go.WideShapes.add_plain ..⟩
end Go.Proofs.YtcpaleaajdilgaaGreatDoor.OpR
namespace Go.Proofs.YtcpaleaajdilgaaGreatDoor
open Go.ChangeShapes Go.WideShapes Go.ChangeAt Go.RowKit Go.Lib Go.Mor Go.Deep Go.Joins
open Go.Sh (RelT RelV TV PV SCalls Env MSim objB objR objX Low)
open Go.ChangeMaps (open_string shut_string)
open Go.Proofs.YtcpaleaajdilgaaGreatDoor.OpR
section
variable{H:Type}{enc:TypeId×Value→H}
theorem open_rfs{W:World}{base:Nat}{spare:Nat→Bool}{held:Bool}{fuel:Nat}{c:Value}{y:DataW H×List MemPlace}(h:DataW.trod enc Tryz.prog W base spare held fuel 22 [c]=some y):
  ∃l:List RawF,(∀r∈l,I64 r.n∧I64 r.k∧I64 r.o)∧l.length≤9223372036854775807∧RelV W (envAll W).K (.sl 4 (rfR l)) c:=by
 rcases open_fields Tryz.underlying22 Tryz.underlying95 (by kernel_rfl) (by kernel_rfl) h with h0|⟨a,len,cap,hcs,hl,hm,hi⟩
 ·obtain rfl:c=.slice none 0 0:=by simpa using h0
  exact⟨[],by simp,by simp,.sl 4 [] 0 0 0 none (fun _ _=>undef) (by simp) (by simp) (by simp) (by simp) (by simp) (by simp)⟩
 ·obtain rfl:c=.slice (some a) len cap:=by simpa using hcs
  have key:∀i,i<len→∃r:RawF,(I64 r.n∧I64 r.k∧I64 r.o)∧a=⟨a.block,a.off,none⟩∧W.cell? ⟨a.block,a.off+i*4,none⟩=some (.int .i64 r.n)∧W.cell? ⟨a.block,a.off+i*4+1,none⟩=some (.int .i64 r.k)
    ∧W.cell? ⟨a.block,a.off+i*4+2,none⟩=some (.int .i64 r.o)∧W.cell? ⟨a.block,a.off+i*4+3,none⟩=some (.bool r.ix):=by
   intro i hlt;obtain⟨n0,hf0⟩:=hi 0 (by omega);obtain⟨v,y,hc0,_⟩:=hf0 0 _ rfl;have ha:a=⟨a.block,a.off,none⟩:=(add_form (k:=0) (by simpa [Addr.add]using hc0)).1;have hadd:∀k,a.add k=⟨a.block,a.off+k,none⟩:=fun k=>(add_form (k:=k) (by simpa [Addr.add]using hc0)).2;obtain⟨n,hf⟩:=hi i hlt;obtain⟨v0,y0,c0,t0⟩:=hf 0 _ rfl;obtain⟨v1,y1,c1,t1⟩:=hf 1 _ rfl;obtain⟨v2,y2,c2,t2⟩:=hf 2 _ rfl;obtain⟨v3,y3,c3,t3⟩:=hf 3 _ rfl;obtain⟨z0,e0,_,w0⟩:=DataW.trod_int Tryz.underlying3 t0;obtain⟨z1,e1,_,w1⟩:=DataW.trod_int Tryz.underlying3 t1;obtain⟨z2,e2,_,w2⟩:=DataW.trod_int Tryz.underlying3 t2;obtain⟨z3,e3,_⟩:=DataW.trod_bool Tryz.underlying4 t3;simp at e0 e1 e2 e3;subst e0 e1 e2 e3;rw[hadd]at c0 c1 c2 c3;exact⟨⟨z0,z1,z2,z3⟩,⟨bounds_i64 w0,bounds_i64 w1,bounds_i64 w2⟩,ha,c0,c1,c2,c3⟩
  obtain⟨l,hlen,hq⟩:=list_of key;refine⟨l,fun r hr=> ?_,by unfold maxLen at hm;omega,?_⟩
  ·obtain⟨i,hi⟩:=List.getElem?_of_mem hr;exact(hq i r hi).1
  ·have hL:(rfR l).length=len:=by rw[rfLen,hlen]
   rw[←hL];have cell:∀(i j:Nat) cs q,(rfR l)[i]?=some cs→cs[j]?=some q→∃u,q=.v u∧W.cell? ⟨a.block,a.off+i*4+j,none⟩=some u∧Go.Sh.one u:=by
    intro i j cs q h1 h2;rw[rfGet,Option.map_eq_some_iff]at h1;obtain⟨r,hr,rfl⟩:=h1;obtain⟨_,_,c0,c1,c2,c3⟩:=hq i r hr
    match j with
    |0=>simp[rfR1]at h2;subst h2;exact⟨_,rfl,c0,rfl⟩
    |1=>simp[rfR1]at h2;subst h2;exact⟨_,rfl,c1,rfl⟩
    |2=>simp[rfR1]at h2;subst h2;exact⟨_,rfl,c2,rfl⟩
    |3=>simp[rfR1]at h2;subst h2;exact⟨_,rfl,c3,rfl⟩
    |j+4=>simp[rfR1]at h2
   refine .sl 4 (rfR l) a.block a.off cap (some a) (fun i j=>(W.cell? ⟨a.block,a.off+i*4+j,none⟩).getD undef) (fun hne=> ?_) (by omega) hm (fun cs hcs=> ?_) (fun i j cs q h1 h2=> ?_) (fun i j cs q h1 h2=> ?_)
   ·obtain⟨r,hr⟩:∃r,l[0]?=some r:=by
     cases l with
     |nil=>exact absurd rfl hne
     |cons r q=>exact⟨r,rfl⟩
    rw[(hq 0 r hr).2.1]
   ·obtain⟨r,_,rfl⟩:=List.mem_map.1 hcs;rfl
   ·obtain⟨u,_,hu,ho⟩:=cell i j cs q h1 h2;rw[hu];exact⟨z33 (a:=⟨a.block,a.off+i*4+j,none⟩) hu,rfl,ho⟩
   ·obtain⟨u,rfl,hu,ho⟩:=cell i j cs q h1 h2;rw[hu];exact .v u
set_option maxRecDepth 100000 in
theorem open_raw4{W:World}{b0 base:Nat}{spare:Nat→Bool}{held:Bool}{v:Value}{d:DataW H}{p:List MemPlace}(hok:Value.okWide Tryz.prog W .any b0 24 v)(h:DataW.Trod enc Tryz.prog W base spare held 24 v d p):
  ∃x:Raw,RawOk x∧∀r,RelT W (envAll W) r (rawT x) v:=by
 obtain⟨c0,c1,y0,y1,m,rfl,_,_,hy0,hy1⟩:=open_agg2 Tryz.underlying24 (by kernel_rfl) (by kernel_rfl) hok h;obtain⟨z0,e0,_,w0⟩:=DataW.trod_int Tryz.underlying3 hy0;obtain rfl:c0=_:=by simpa using e0
 obtain⟨l,hl,hlen,hr⟩:=open_rfs hy1;refine⟨⟨z0,l⟩,⟨bounds_i64 w0,hl,hlen⟩,fun r=> ?_⟩;unfold rawT;refine .agg _ [_,c1] rfl (fun j q u hq hu=> ?_) (fun u hu=> ?_)
 ·match j with
  |0=>simp at hq hu;subst hq;subst hu;exact .pv (.v _)
  |1=>simp at hq hu;subst hq;subst hu;exact .pv hr
  |j+2=>simp at hq
 ·simp at hu;rcases hu with rfl|rfl
  ·rfl
  ·cases hr;rfl
end
end Go.Proofs.YtcpaleaajdilgaaGreatDoor
end

section
namespace Go.Proofs.YtcpaleaajdilgaaGreatDoor
open Go Go.RowKit Go.Mor Go.Sh
structure GlobT(w:World):Prop where
 tab:Lib.TabIs Tryz.prog w "internal/strconv.uint64pow10" .u64 Lib.pow10Tab
 mx:∃k,w.cell? ⟨4,0,none⟩=some (.int .i64 k)
theorem pow10_named:Tryz.prog.globalNamed "internal/strconv.uint64pow10" =some 5:=by kernel_rfl
theorem tab_st{P:Program}{w w':World}{n g:Nat}{nm:String}{k:IntKind}{zs:List Int}(hg:P.globalNamed nm=some g)(hn:g<n)(h:Lib.TabIs P w nm k zs)(hk:∀k,k<n→w'.heap[k]?=w.heap[k]?):Lib.TabIs P w' nm k zs:=by
 unfold Lib.TabIs World.var? at*;rw[hg]at*;simp only[Option.bind_some]at*;rw[hk g hn];exact h
theorem globT_st{w w':World}{n:Nat}(hv:10≤n)(h:GlobT w)(hk:∀k,k<n→w'.heap[k]?=w.heap[k]?):GlobT w':=by
 refine⟨tab_st pow10_named (by omega) h.tab hk,?_⟩;obtain⟨k,h0⟩:=h.mx;exact⟨k,by rw[World.cell?_of_block (w:=w) (hk _ (show 4<n by omega))];exact h0⟩
structure GlobNT(n:Nat)(w:World):Prop extends GlobN0 n w where
 t:GlobT w
def glT(n:Nat):Sh.Glob where
 G:=GlobNT n
 n:=n
 st:=fun w w' h hk=>⟨⟨globU_st h.hv h.u hk,size_st h.sz hk,h.hv⟩,globT_st h.hv h.t hk⟩
 le:=fun w h=>h.sz
theorem sc_0T{m f:Nat}{xs:List TV}{os:List MO}{y:TV}{os':List MO}(h:SCalls Tryz.prog (gl0 m) f xs os y os'):SCalls Tryz.prog (glT m) f xs os y os':=
 sc_of (g:=gl0 m) (g':=glT m) rfl (fun w (hG:GlobNT m w)=>hG.toGlobN0) h
end Go.Proofs.YtcpaleaajdilgaaGreatDoor
end

section
namespace Go.Proofs.YtcpaleaajdilgaaGreatDoor
open Go Go.RowKit Go.Mor Go.Shelf
attribute [local go_sem] Oper.semAt_some
set_option maxRecDepth 100000 in
set_option maxHeartbeats 1000000 in
theorem groups1_in(F:Fence)(n:Nat)(h6:F.fn 181)(hro:F.round=none)(hn:1≤n)(l Bn:Nat)(x:Int)(hx0: -9223372036854775808≤x)(hx1:x≤9223372036854775807)(Kp:World→World→Prop)(J Jx:List UInt8→World→Prop)
  (hY:∀pre (g:UInt8) W,J pre W→pre.length<10→YieldAt F (n-1) Tryz.prog l #[.int .u8 g.toNat] W fun e W'=>
   (e=.returned (.bool true)∧J (pre++[g]) W'∧Kp W W')∨(e=.returned (.bool false)∧Jx (pre++[g]) W'))
  (W:World) (hBn:W.cell? ⟨Bn,0,none⟩=some (.int .i64 x)) (h0:J [] W):
  CallsIn F n Tryz.prog 181 #[.func (.yield l) #[] #[],.pointer (some ⟨Bn,0,none⟩)] W fun e W'=>(∃v,e=.returned v)∧
   ((∃ys,ys=groups x∧J ys W')∨(∃pre,True∧Jx pre W')):=by
 refine callsIn_of_wp Tryz.func181 rfl h6 ?_ hro;simp only[Tryz.ntmps181,List.size_toArray,List.length_cons,List.length_nil,Nat.reduceAdd,Nat.reduceSub,Array.replicate_succ,Array.replicate_zero,List.push_toArray,List.append_toArray,List.nil_append,List.cons_append];obtain⟨fn,tmps,assign,body,hy,hR⟩:=hY [] (UInt8.ofNat (mag x%64*2+sgn x)) W h0 (by simp);by_cases hneg:x<0;all_goals
  first|rw[first_neg x hneg]at hy|rw[z39 x hneg]at hy
  have HY:=Lib.hid hY;clear hY
  gi_wp2
  refine hR.mono ?_;clear hR hy;rintro e W1 (⟨rfl,hJ1,_⟩|⟨rfl,hx1⟩)
  ·gi_wp2
   gi_loopw [3] (fun p wr=>∃(pre:List UInt8) (m f:Nat),p=.int .u64 m∧Hid (groups x=pre++tailN f m)∧Hid (m<128 ^ f)∧m<9223372036854775808∧Hid (pre.length+f=10)∧J pre wr)
    (fun p _=>(intOf p).toNat)
   case atStart=>
    have hml:=mag_lt x hx0 hx1;have hme:=mag_eq x;refine⟨[UInt8.ofNat (mag x%64*2+sgn x)],mag x / 64,9,?_,rfl,?_,by omega,rfl,hJ1⟩
    ·congr 1;split at hme<;>omega
    ·show _<9223372036854775808;omega
   case round=>
    obtain⟨pre,m,f,rfl,hg,hlt,hm,hl,hJs⟩:=hrel;by_cases hm0:m=0
    ·subst hm0
     gi_wp2
     go_end0
     exact⟨⟨_,rfl⟩,.inl ⟨pre,by rw[hg.out,tailN_zero];simp,hJs⟩⟩
    ·have hne:((m:Int)==0)=false:=by simpa using hm0
     have hne':((m:Int) !=0)=true:=by simpa using hm0
     cases f with
     |zero=>exact absurd hlt.out (by simp;omega)
     |succ f=>
     obtain⟨fn,tmps,assign,body,hy,hR⟩:=HY.out pre (UInt8.ofNat (m%128)) wr hJs (by have:=hl.out;omega);rw[next_byte]at hy
     gi_wp2
     refine hR.mono ?_;clear hR hy;rintro e W3 (⟨rfl,hJ3,_⟩|⟨rfl,hJx3⟩)
     ·gi_wp2
      go_roundw
      case rel=>
       refine⟨pre++[UInt8.ofNat (m%128)],m / 128,f,by simp,?_,?_,by omega,?_,hJ3⟩
       ·show _=_;rw[hg.out];simp[tailN,hm0]
       ·show _<_;have:=hlt.out;rw[Nat.pow_succ]at this;exact Nat.div_lt_of_lt_mul (by rw[Nat.mul_comm];exact this)
       ·show _=_;have:=hl.out;simp;omega
      case measure=>simp[intOf];omega
     ·gi_wp2
      refine bodyPost_ret (results_none rfl _ _ _) rfl ?_;exact⟨⟨_,rfl⟩,.inr ⟨_,trivial,hJx3⟩⟩
  ·gi_wp2
   refine bodyPost_ret (results_none rfl _ _ _) rfl ?_;exact⟨⟨_,rfl⟩,.inr ⟨_,trivial,hx1⟩⟩
theorem groups_in(F:Fence)(n:Nat)(h5:F.fn 123)(hro:F.round=none)(x:Int)(w:World):
  CallsIn F n Tryz.prog 123 #[.int .i64 x] w fun e w'=>e=.returned (.func (.func 181) #[] #[.pointer (some ⟨w.heap.size,0,none⟩)])∧w'=w.alloc (.cells #[.int .i64 x] 3):=by
 refine callsIn_of_wp Tryz.func123 rfl h5 ?_ hro;simp only[Tryz.ntmps123,List.size_toArray,List.length_cons,List.length_nil,Nat.reduceAdd,Nat.reduceSub,Array.replicate_succ,Array.replicate_zero,List.push_toArray,List.append_toArray,List.nil_append,List.cons_append]
 gi_wp2
 go_ret
 exact⟨rfl,rfl⟩
theorem groups_stops(F:Fence)(n:Nat)(Kp:World→World→Prop)(h6:F.fn 181)(hro:F.round=none)(hn:1≤n)(Bn:Nat)(x:Int)(hx0: -9223372036854775808≤x)(hx1:x≤9223372036854775807)(w:World)(hBn:Bn<w.heap.size)
  (hc:w.cell? ⟨Bn,0,none⟩=some (.int .i64 x)):
  SeqStopsK F n Tryz.prog 181 #[.pointer (some ⟨Bn,0,none⟩)] (fun g:UInt8=> #[Value.int .u8 g.toNat]) Kp (fun ys=>ys=groups x) (fun _=>True) 10 w:=fun l J Jx W hW _ _ hY h0=>
 groups1_in F n h6 hro hn l Bn x hx0 hx1 Kp J Jx hY W ((hW.cell (p:=⟨Bn,0,none⟩) hBn).trans hc) h0
attribute [local go_sem] Oper.semAt_some
def u8(b:UInt8):Value:=.int .u8 b.toNat
theorem conv_row{P:Program}{W:World}{base src dst e:Nat}{v:Value}{l:List UInt8}(hs:P.underlying src=some (.slice e))(he:P.underlying e=some (.int .u8))(hd:P.underlying dst=some .string)
  (h:W.ownsRow base e 1 v l.length (l.map u8)):(convert src dst v).run P W=.ok (.string (str l)) W:=by
 have h':=h;rcases h.2 with⟨rfl,h0⟩|⟨g,cap,cur,rfl,_,_,_⟩
 ·obtain rfl:l=[]:=List.eq_nil_of_length_eq_zero h0;exact run_convert_bytes_nil W src e hs he 0 0 dst hd
 ·refine run_convert_bytes_back W src dst e ⟨g,0,none⟩ cap l hs he hd (fun j hj=> ?_);exact h'.cells (g:=g) rfl j _ (by simp[u8,gE hj])
theorem infoU8:(Tryz.prog.info? 5).map (fun i=>(i.zero,i.size,i.bytes))=some (some (.int .u8 0),1,1):=by kernel_rfl
theorem make10(w:World):(Instr.makeSlice 98 (.int .i64 0) (.int .i64 10)).run Tryz.prog w=.ok (.slice (some ⟨w.heap.size,0,none⟩) 0 10) (w.alloc (.cells (Array.replicate 10 (.int .u8 0)) 5)):=by kernel_rfl
set_option maxRecDepth 100000 in
set_option maxHeartbeats 2000000 in
theorem Num_in(F:Fence)(n:Nat)(h3:F.fn 64)(h4:F.fn 123)(h5:F.fn 181)(hro:F.round=none)(hn:3≤n)(x:Int)(hx0: -9223372036854775808≤x)(hx1:x≤9223372036854775807)(w:World):
  CallsIn F n Tryz.prog 64 #[.int .i64 x] w fun e W'=>e=.returned (.string (str (num x)))∧Below w.heap.size w W':=by
 have h1:1≤n:=by omega
 obtain⟨i0,hi,hz0,hz1,hz2⟩:=info_parts infoU8;have hmk:=make10;refine callsIn_of_wp_marks Tryz.func64 rfl h3 ?_ hro;simp only[Tryz.ntmps64,List.size_toArray,List.length_cons,List.length_nil,Nat.reduceAdd,Nat.reduceSub,Array.replicate_succ,Array.replicate_zero,List.push_toArray,List.append_toArray,List.nil_append,List.cons_append]
 gi_wp2_with (gi_at_call 123;refine(groups_in F (n-1) h4 hro _ _).mono ?_;rintro e w' ⟨rfl,rfl⟩)
 have bL0:=Boxed.new (w.alloc (.cells (Array.replicate 10 (.int .u8 0)) 5)) 98 (.slice (some ⟨w.heap.size,0,none⟩) 0 10);rw[World.size_alloc]at bL0;have bL:=bL0.alloc (.cells #[.int .i64 x] 3);have bN:=Boxed.new ((w.alloc (.cells (Array.replicate 10 (.int .u8 0)) 5)).alloc (.cells #[.slice (some ⟨w.heap.size,0,none⟩) 0 10] 98)) 3 (.int .i64 x);rw[World.size_alloc,World.size_alloc]at bN;have hB0:Below w.heap.size w (((w.alloc (.cells (Array.replicate 10 (.int .u8 0)) 5)).alloc (.cells #[.slice (some ⟨w.heap.size,0,none⟩) 0 10] 98)).alloc (.cells #[.int .i64 x] 3)):=
  (((Below.refl _ w).alloc (Nat.le_refl _) _).alloc (by simp) _).alloc (by simp;omega) _
 have hrow0:(((w.alloc (.cells (Array.replicate 10 (.int .u8 0)) 5)).alloc (.cells #[.slice (some ⟨w.heap.size,0,none⟩) 0 10] 98)).alloc (.cells #[.int .i64 x] 3)).ownsRow w.heap.size 5 1 (.slice (some ⟨w.heap.size,0,none⟩) 0 10) 0 []:=
  ((World.ownsRow_made w (Array.replicate 10 (.int .u8 0)) 10 (Nat.le_refl _) (by decide) (by simp)).alloc _).alloc _
 refine wpIn_rangeFunc_ownG hro h1 (gf:=181) (lb:= #[.pointer (some ⟨w.heap.size+1+1,0,none⟩)]) rfl h5 (enters_of Tryz.func181 (by kernel_rfl) rfl)
  (groups_stops F (n-1) (Below w.heap.size) h5 hro (by omega) (w.heap.size+1+1) x hx0 hx1 _ (by simp) bN.cell) belowK_t (belowK_b (by simp;omega)) (Below.refl _ _) (fun _=>rfl)
  (fun pre W=>(∃v,Boxed W (w.heap.size+1) 98 v∧W.ownsRow w.heap.size 5 1 v (pack pre).length ((pack pre).map u8)∧v≠ .slice none 0 0)∧Below w.heap.size w W)
  (fun _ _ _=>False)
  (OwnFrom.and (Own.from (holdsRow_own w.heap.size (w.heap.size+1) 98 5 1 (fun pre=>(pack pre).length) (fun pre=>(pack pre).map u8) (fun _ v=>v≠ .slice none 0 0)) _) (ownFrom_below (Nat.le_refl _) (by simp;omega)))
  (fun _ _ _ _ _ hs _ _=>hs)
  ⟨⟨_,bL,hrow0,by simp⟩,hB0⟩
  (fun g=>{ tmps:= #[.int .i64 x,undef,.string ⟨#[]⟩,.pointer (some ⟨w.heap.size+1,0,none⟩),.int .u8 g.toNat,undef,.slice (some ⟨w.heap.size,0,none⟩) 0 10,.int .i64 x,.func (.func 181) #[] #[.pointer (some ⟨w.heap.size+1+1,0,none⟩)],.int .u8 g.toNat,undef,undef,undef,undef,undef,undef,undef,undef,undef,undef,undef,undef,undef,undef,undef,undef,undef],defers:=[] }) ?assign ?body ?done ?stop
 case assign=>
  intro l x W K hK
  gi_wp2
  exact hK
 case body=>
  rintro l pre g W ⟨⟨v,hv,hrow,hnil⟩,hB⟩ hlt;have hc:=hv.cell;have hpl:(pack pre).length=pre.length:=z110 pre;obtain⟨P0,hP0⟩:∃P0,pack pre=P0:=⟨_,rfl⟩
  have HP:=Lib.hid hP0;rw[hP0]at hrow hpl;clear hP0;rcases hrow.2 with⟨rfl,_⟩|⟨gg,cap,cur,rfl,_,_,hcap,hcap2,_⟩
  ·exact absurd rfl hnil
  have hk:P0.length≤10:=by omega
  clear hpl hmk hx0 hx1 hlt;by_cases hl:P0=[]
  ·subst hl;simp only[List.length_nil,List.map_nil]at hrow
   gi_wp2_with (gi_at_builtin;refine wpListIn_append_own _ rfl _ _ 98 rfl w.heap.size 5 i0 (.int .u8 0) 1 1 Tryz.underlying98 hi hz0 hz1 hz2 rfl (by decide) _ _ _ rfl (hrow.alloc _) ⟨W.heap.size,0,none⟩ 1 1 [.int .u8 g.toNat] rfl rfl (cell_one_new _ _ _) (by simp[Value.oneCell']) (by decide) (by omega) (by have:=hB.size;simp;omega) ?_;intro v' w1 hown' hgrow _;obtain⟨g',cap',rfl⟩:=ownsRow_succ hown';obtain⟨hv1,hv2,hr2,hk2,hb2⟩:=hv.appended (by decide) hrow hB.size (by omega) hown' hgrow;have hc1:=hv1.cell;have hf1:=hv1.frozen)
   exact⟨hk2.from _,hb2,⟨_,hv2,by rw[pack_snoc,HP.out,bump_nil];exact hr2,by simp⟩,hB.trans hb2⟩
  ·obtain⟨Q,b,rfl⟩:=snoc_of P0 hl;have hcell:=hrow.cellAt Q.length (by simp);have hfz:=hrow.frozenAt Q.length;have hst:=hrow.stored Q.length (.int .u8 (((b.toNat:Int)+128)%256));have hle:w.heap.size≤gg:=by rcases hrow.2 with⟨h,_⟩|⟨g2,c2,cur2,h,hb2,_⟩;cases h;cases h;exact hb2
   have hne:=hv.not_row (by decide) hrow;simp only[List.length_append,List.length_cons,List.length_nil,Nat.zero_add,List.map_append,List.map_cons,List.map_nil]at hrow hcell hst hcap hk hv hc hne ⊢;rw[List.set_append_right _ _ (by simp)]at hst;simp only[List.length_map,Nat.sub_self,List.set_cons_zero]at hst;simp[u8]at hcell;obtain⟨hst1,hst2⟩:=hst;have hst3:=Lib.hid hst1;have hv':=hv.kept hst2 (by simpa [Value.ownBlock]using hne);have hcW:=hv'.cell;have hKO:KeepsOthers W (W.setCell ⟨gg,Q.length,none⟩ (.int .u8 (((b.toNat:Int)+128)%256))):=KeepsOthers.setCell _ _ _;have hBW:=(Below.refl w.heap.size W).setCell (p:=⟨gg,Q.length,none⟩) hle (.int .u8 (((b.toNat:Int)+128)%256));clear hst1 hst2 hrow hne hcap hcap2
   gi_wp2_with (gi_at_builtin;go_must (refine wpListIn_append_own _ rfl _ _ 98 rfl w.heap.size 5 i0 (.int .u8 0) 1 1 Tryz.underlying98 hi hz0 hz1 hz2 rfl (by decide) _ _ _ rfl (hst3.out.alloc _) ⟨W.heap.size,0,none⟩ 1 1 [.int .u8 g.toNat] rfl rfl (by have:=cell_one_new (W.setCell ⟨gg,Q.length,none⟩ (.int .u8 (((b.toNat:Int)+128)%256))) (.int .u8 g.toNat) 5;rwa [World.size_setCell]at this) (by simp[Value.oneCell']) (by unfold maxLen;omega) (by omega) (by have:=hB.size;simp;omega) ?_;intro v' w1 hown' hgrow _;obtain⟨g',cap',rfl⟩:=ownsRow_succ hown';obtain⟨hv1,hv2,hr2,hk2,hb2⟩:=hv'.appended (by decide) hst3.out (by have:=hB.size;simp;omega) (by omega) hown' hgrow;have hc1:=hv1.cell;have hf1:=hv1.frozen))
   exact⟨(hKO.trans hk2).from _,hBW.trans hb2,⟨_,hv2,by rw[pack_snoc,HP.out,bump_snoc];simpa [u8,add128]using hr2,by simp⟩,hB.trans (hBW.trans hb2)⟩
 case done=>
  rintro D ys W hD rfl ⟨⟨v,hv,hrow,hnil⟩,hB⟩ hK;have hc:=hv.cell;have hcv:=conv_row (P:=Tryz.prog) Tryz.underlying98 Tryz.underlying5 Tryz.underlying9 hrow
  gi_wp2
  refine⟨by simp,.inl ⟨_,_,rfl,run_takeDeferred hK,?_⟩⟩;exact⟨_,results_tmp rfl _ _ _,rfl,hB.trans (belowK_b (w:=w) (Nat.le_refl _) W D _ _ (by simp at hD;omega) hK rfl rfl)⟩
 case stop=>
  rintro D c pre W _ _ h _;exact h.elim
theorem Num_any(x:Int)(hx0: -9223372036854775808≤x)(hx1:x≤9223372036854775807)(w:World):
  Calls Tryz.prog 64 #[.int .i64 x] w fun e W'=>e=.returned (.string (str (num x)))∧Below w.heap.size w W':=
 (callsIn_wide (n:=3)).1 (Num_in Fence.wide 3 trivial trivial trivial rfl (by omega) x hx0 hx1 w)
end Go.Proofs.YtcpaleaajdilgaaGreatDoor
end

section
namespace Go.Proofs.YtcpaleaajdilgaaGreatDoor
open Go Go.RowKit Go.Mor Go.Stop Go.Extern
structure Glob(w:World)(a0 a1:Addr):Prop extends GlobU w where
 e0:w.cell? ⟨2,0,none⟩=some (.iface 352 (.pointer (some a0)))
 e1:w.cell? ⟨3,0,none⟩=some (.iface 352 (.pointer (some a1)))
 ne:a0≠a1
 b0:∃ca ta,w.heap[a0.block]?=some (.cells ca ta (0,0))
 b1:∃ca ta,w.heap[a1.block]?=some (.cells ca ta (0,0))
theorem heap_lt{w:World}{b:Nat}{o:Obj}(h:w.heap[b]?=some o):b<w.heap.size:=(gA h).1
theorem Glob.ext{w w':World}{a0 a1:Addr}(h:Glob w a0 a1)(hb:Below w.heap.size w w'):Glob w' a0 a1 where
 toGlobU:=h.toGlobU.ext hb
 e0:=(hb.cell (z33 h.e0)).trans h.e0
 e1:=(hb.cell (z33 h.e1)).trans h.e1
 ne:=h.ne
 b0:=by obtain⟨ca,ta,h0⟩:=h.b0;exact⟨ca,ta,(hb.block _ (heap_lt h0)).trans h0⟩
 b1:=by obtain⟨ca,ta,h0⟩:=h.b1;exact⟨ca,ta,(hb.block _ (heap_lt h0)).trans h0⟩
theorem isTypeOf(v:Value)(w:World):(callFunc 278 #[.iface 352 v]).run Tryz.prog w=.ok (.value (.iface 334 (.agg #[.pointer (some ⟨10,352,none⟩)]))) w:=by kernel_rfl
theorem isComparable(w:World):(callFunc 346 #[.agg #[.pointer (some ⟨10,352,none⟩)]]).run Tryz.prog w=.ok (.value (.bool true)) w:=by kernel_rfl
theorem isComp:(Tryz.prog.info? 352).map (·.comparable)=some true:=by kernel_rfl
theorem isSize:(Tryz.prog.info? 354).map (·.size)=some 1:=by kernel_rfl
theorem noIsE(v:Value)(xT:TypeId)(w:World):(Instr.typeAssert (.iface 352 v) xT 336 true).run Tryz.prog w=.ok (.tuple #[.nilIface,.bool false]) w:=run_typeAssert_lacksB Tryz.underlying336 (by kernel_rfl) (by kernel_rfl) v xT w
theorem noUnwrapE(v:Value)(xT:TypeId)(w:World):(Instr.typeAssert (.iface 352 v) xT 338 true).run Tryz.prog w=.ok (.tuple #[.nilIface,.bool false]) w:=run_typeAssert_lacksB Tryz.underlying338 (by kernel_rfl) (by kernel_rfl) v xT w
theorem noUnwrapsE(v:Value)(xT:TypeId)(w:World):(Instr.typeAssert (.iface 352 v) xT 340 true).run Tryz.prog w=.ok (.tuple #[.nilIface,.bool false]) w:=run_typeAssert_lacksB Tryz.underlying340 (by kernel_rfl) (by kernel_rfl) v xT w
theorem is_same(a:Addr)(w:World):
  Calls Tryz.prog 238 #[.iface 352 (.pointer (some a)),.iface 352 (.pointer (some a))] w fun e w'=>e=.returned (.bool true)∧w=w':=by
 obtain⟨i,hi,hcmp⟩:=gO isComp;obtain⟨j,hj,hjs⟩:=gO isSize;have tT:=isTypeOf;have cT:=isComparable;have heq:=run_eql_iface_ptr_same (P:=Tryz.prog) w a Tryz.underlying242 Tryz.underlying352 hi hcmp hj
 go_enter Tryz.func238,Tryz.ntmps238
 go_wp2
 refine wp_loop_rounds 1 ?_;rw[rounds_succ]
 go_wp2
 go_ret
 exact⟨rfl,rfl⟩
theorem is_nil(b:Addr)(w:World):
  Calls Tryz.prog 238 #[.nilIface,.iface 352 (.pointer (some b))] w fun e w'=>e=.returned (.bool false)∧w=w':=by
 have hn:=run_eql_iface_nil_left (P:=Tryz.prog) w 352 (.pointer (some b)) Tryz.underlying242
 go_enter Tryz.func238,Tryz.ntmps238
 go_wp2
 go_ret
 exact⟨rfl,rfl⟩
theorem is_other(a b:Addr)(ca cb:Array Value)(ta tb:TypeId)(w:World)(hne:a≠b)(ha:w.heap[a.block]?=some (.cells ca ta (0,0)))(hb:w.heap[b.block]?=some (.cells cb tb (0,0))):
  Calls Tryz.prog 238 #[.iface 352 (.pointer (some a)),.iface 352 (.pointer (some b))] w fun e w'=>e=.returned (.bool false)∧w=w':=by
 obtain⟨i,hi,hcmp⟩:=gO isComp;obtain⟨j,hj,hjs⟩:=gO isSize;have tT:=isTypeOf;have cT:=isComparable;have nE:=noIsE;have uE:=noUnwrapE;have vE:=noUnwrapsE;have heq:=run_eql_iface_ptr_other (P:=Tryz.prog) w Tryz.underlying242 Tryz.underlying352 hi hcmp hj (by rw[hjs];decide) hne ha hb
 go_enter Tryz.func238,Tryz.ntmps238
 go_wp2
 refine wp_loop_rounds 1 ?_;rw[rounds_succ]
 go_wp2
 go_ret
 exact⟨rfl,rfl⟩
theorem wrong_nil(w:World)(a0 a1:Addr)(hG:Glob w a0 a1):
  Calls Tryz.prog 183 #[.nilIface] w fun e w'=>e=.returned (.bool false)∧w=w':=by
 have e0:=hG.e0;have e1:=hG.e1;clear hG
 go_enter Tryz.func183,Tryz.ntmps183
 go_wp2_with fail
 refine(is_nil _ _).mono ?_;rintro e w' ⟨rfl,rfl⟩
 go_wp2_with fail
 refine(is_nil _ _).mono ?_;rintro e w' ⟨rfl,rfl⟩
 go_wp2_with fail
 go_ret
 exact⟨rfl,rfl⟩
theorem wrong_end(w:World)(a0 a1:Addr)(hG:Glob w a0 a1):
  Calls Tryz.prog 183 #[.iface 352 (.pointer (some a0))] w fun e w'=>e=.returned (.bool true)∧w=w':=by
 have e0:=hG.e0;have e1:=hG.e1;clear hG
 go_enter Tryz.func183,Tryz.ntmps183
 go_wp2_with fail
 refine(is_same _ _).mono ?_;rintro e w' ⟨rfl,rfl⟩
 go_wp2_with fail
 go_ret
 exact⟨rfl,rfl⟩
theorem wrong_form(w:World)(a0 a1:Addr)(hG:Glob w a0 a1):
  Calls Tryz.prog 183 #[.iface 352 (.pointer (some a1))] w fun e w'=>e=.returned (.bool true)∧w=w':=by
 have e0:=hG.e0;have e1:=hG.e1;obtain⟨c0,t0,h0⟩:=hG.b0;obtain⟨c1,t1,h1⟩:=hG.b1;have H:=Lib.hid (is_other a1 a0 c1 c0 t1 t0 w hG.ne.symm h1 h0);clear hG h0 h1
 go_enter Tryz.func183,Tryz.ntmps183
 go_wp2_with fail
 refine H.out.mono ?_;rintro e w' ⟨rfl,rfl⟩
 go_wp2_with fail
 refine(is_same _ _).mono ?_;rintro e w' ⟨rfl,rfl⟩
 go_wp2_with fail
 go_ret
 exact⟨rfl,rfl⟩
end Go.Proofs.YtcpaleaajdilgaaGreatDoor
end

section
namespace Go.Mor
open Go
structure Open(F:Fence):Prop where
 fn:∀f,F.fn f
 depth:F.depth=none
 calls:∀(n:Nat) (P:Program) (f:FuncId) (args:Array Value) (w:World) (R:Ending→World→Prop),Calls P f args w R→CallsIn F n P f args w R
theorem open_wide:Open Fence.wide:=⟨fun _=>trivial,rfl,fun _ _ _ _ _ _ h=>callsIn_wide.2 h⟩
theorem open_round(l:Nat):Open (Fence.wide.inRound l):=⟨fun _=>trivial,rfl,fun _ _ _ _ _ _ h=>CallsIn.inRound l (callsIn_wide.2 h)⟩
def noDefer(ops:Array Oper):Bool:=ops.all fun o=>match o.op with| .defer _=>false|_=>true
theorem noDefer_spec{ops:Array Oper}(h:noDefer ops=true){i:Nat}{o:Oper}(hi:ops[i]?=some o):∀c,o.op≠ .defer c:=by
 intro c hc;have hlt:=(gA hi)
 obtain⟨hl,rfl⟩:=hlt;have:=Array.all_eq_true.1 h i hl;rw[hc]at this;cases this
section
variable{F:Fence}{n:Nat}{P:Program}{ops:Array Oper}{md:Region.Mode}{w:World}
theorem wpOpIn_of_stOp(hF:Open F)(hnd:noDefer ops=true){i:Nat}{a:Act}{K:Act→Prop}{K':Act→World→Prop}{Q':Exit→Act→World→Prop}(h:∀a,K a→K' a w)(hh:stOp P ops w i K a):
  wpOpIn F n P ops Q' i K' a w:=by
 unfold stOp at hh;unfold wpOpIn;split
 ·rename_i ho;simp only[ho]at hh;exact h _ hh
 ·rename_i o ho;simp only[ho]at hh;split
  ·rename_i hw;simp only[hw,if_true]at hh;refine⟨fun f _=>hF.fn f,?_⟩;rw[Oper.semAt_eq _ _ _ (noDefer_spec hnd ho)];unfold Oper.still at hh;generalize(execOp a.eval o).run P w=r at*;cases r with
   |ok x w'=>
    cases x<;>simp only[Oper.stillUpon,Oper.uponIn]at hh ⊢
    ·obtain⟨rfl,hh⟩:=hh;exact h _ hh
    ·obtain⟨rfl,hh⟩:=hh;exact h _ hh
    ·obtain⟨rfl,v,hc,hh⟩:=hh;refine⟨fun hd=>(by rw[hF.depth]at hd;cases hd),hF.calls _ _ _ _ _ _ (hc.mono ?_)⟩;rintro e w'' ⟨rfl,rfl⟩;exact h _ hh
   |halt x w'=>exact hh.elim
  ·rename_i hw;simp only[hw]at hh;exact⟨fun f _=>hF.fn f,h _ hh⟩
theorem z123(hF:Open F)(hnd:noDefer ops=true){m g:Nat}{L:Array Bool→Act→Prop}{Q':Exit→Act→World→Prop}(hL:∀listed a,L listed a→wpAnyIn F n P md ops Q' g listed a w):
  ∀(f:Nat) (listed:Array Bool) (a:Act),wpAnyL P md ops w m L f listed a→wpAnyIn F n P md ops Q' (f+g) listed a w
 |0,listed,a,h=>by rw[Nat.zero_add];exact hL _ _ h
 |f+1,listed,a,h=>by
  rw[show f+1+g=(f+g)+1 by omega];exact⟨fun h0=>absurd h0 h.1,fun i hi=>wpOpIn_of_stOp hF hnd (fun a' h'=>z123 hF hnd hL f _ a' h') (h.2 i hi).2⟩
theorem z128{Q':Exit→Act→World→Prop}:∀(l:List Oper) (k:Nat) (listed:Array Bool) (a:Act) (w:World),(∀j,l[j]?=ops[k+j]?)→
  Region.seqB md ops l.length k listed=true→wpListIn F n P ops Q' l a w→wpAnyIn F n P md ops Q' l.length listed a w
 |[],_,_,_,_,_,hB,h=>⟨by simpa [Region.seqB]using hB,h⟩
 |o::l,k,listed,a,w,hl,hB,h=>by
  have h0:ops[k]?=some o:=by simpa using(hl 0).symm
  simp only[List.length_cons,Region.seqB,Bool.and_eq_true,decide_eq_true_eq]at hB;refine⟨fun h1=>(by rw[hB.1]at h1;cases h1),fun i hi=> ?_⟩;rw[hB.1]at hi;have hik:i=k:=by simpa using hi
  subst hik;have hw:wpOpIn F n P ops Q' i (wpListIn F n P ops Q' l) a w:=by unfold wpOpIn;simp only[h0];exact h
  exact wpOpIn_mono (fun a' w' h'=>z128 l (i+1) _ a' w' (fun j=>by have:=hl (j+1);simpa [Nat.add_assoc,Nat.add_comm 1 j]using this) hB.2 h') hw
theorem z56{id:Nat}{Q:Exit→Act→World→Prop}{a:Act}{w:World}{l:List Oper}(hF:Open F)(m:Nat)(hm:P.follows .mixedOrders=true)(hB:(Region.lexTailB .any l.toArray m&&noDefer l.toArray)=true)
  (h:wpStill P l.toArray w.drew (fun a'=>wpListIn F n P l.toArray Q (l.drop m) a' w.drew) (l.take m) a):(Code.region id l.toArray true).wpIn F n P Q a w:=by
 rw[Bool.and_eq_true]at hB;obtain⟨hB,hnd⟩:=hB;simp only[Region.lexTailB,Bool.and_eq_true,decide_eq_true_eq]at hB;obtain⟨⟨⟨⟨hsel,hn⟩,hs⟩,hc⟩,hlex⟩:=hB;have hn':m<l.length:=by simpa using hn
 have htl:(l.take m).length=m:=by simp;omega
 have hdl:(l.drop m).length=l.toArray.size-m:=by simp
 have inv0:HeadInv .any l.toArray m (Array.replicate l.toArray.size false):=
  ⟨by simp,fun j oj _ hl=>(by rw[getD_replicate_false]at hl;cases hl),fun t _ ht=>getD_in (by simpa using ht) (getD_replicate_false _ _)⟩
 have H:=wpAnyL_lex (md:=.any) (g:=l.toArray.size-m) hsel hs hc hn (l.take m) 0 _ a (fun j hj=>by
  have hj':j<m:=by rw[htl]at hj;exact hj
  simp[hj']) (by simpa using htl) inv0 (by rw[htl];exact hlex) h
 refine wpIn_region_any hm ?_;have:=z123 (n:=n) hF hnd (Q':=Q) (g:=l.toArray.size-m) (fun listed a' hL=>by
  have:=z128 (F:=F) (n:=n) (P:=P) (md:=.any) (Q':=Q) (l.drop m) m listed a' w.drew (fun j=>by simp[List.getElem?_drop]) (by rw[hdl];exact hL.1) hL.2
  rwa [hdl]at this) _ _ _ H
 rw[htl,show m+(l.toArray.size-m)=l.toArray.size by omega]at this;exact this
theorem z28{id:Nat}{Q:Exit→Act→World→Prop}{a:Act}{w:World}{l:List Oper}(m:Nat)(hm:P.follows .mixedOrders=true)(hB:Region.lexTailB .any l.toArray m=true)
  (h:wpStill P l.toArray w.drew (fun a'=>wpList P l.toArray Q (l.drop m) a' w.drew) (l.take m) a):(Code.region id l.toArray true).wp P Q a w:=wp_region_still_tail m hm hB h
end
end Go.Mor
end

section
namespace Go.Proofs.YtcpaleaajdilgaaGreatDoor
open Go Go.RowKit Go.Mor Go.Shelf
attribute [local go_sem] Oper.semAt_some
theorem bretw{a b:Bool}(h:a=b):Ending.returned (.bool a)=.returned (.bool b):=by rw[h]
def Keep2(Ba Bt:Nat)(W W':World):Prop:=W'.heap[Ba]?=W.heap[Ba]?∧W'.heap[Bt]?=W.heap[Bt]?
set_option maxRecDepth 100000 in
set_option maxHeartbeats 1000000 in
theorem from1_in (n : Nat) (l Ba Bt : Nat) (s : List UInt8) (a : Nat) (ha : a ≤ s.length) (hs : s.length < 1125899906842624) (J Jx : List (Mor.Ix × UInt8) → World → Prop)
    (hY : ∀ pre (g : Mor.Ix × UInt8) W, J pre W → pre.length < s.length → YieldAt Fence.wide (n - 1) Tryz.prog l #[.int .i64 g.1.val, .int .u8 g.2.toNat] W fun e W' =>
      (e = .returned (.bool true) ∧ J (pre ++ [g]) W' ∧ Keep2 Ba Bt W W') ∨ (e = .returned (.bool false) ∧ Jx (pre ++ [g]) W'))
    (W : World) (hBa : W.cell? ⟨Ba, 0, none⟩ = some (.int .i64 a)) (hBt : W.cell? ⟨Bt, 0, none⟩ = some (.string (str s))) (hJd : ∀ pre W, J pre W → J pre W.drew) (h0 : J [] W) :
    CallsIn Fence.wide n Tryz.prog 277 #[.func (.yield l) #[] #[], .pointer (some ⟨Ba, 0, none⟩), .pointer (some ⟨Bt, 0, none⟩)] W fun e W' => (∃ v, e = .returned v) ∧
      ((∃ ys, ys = pairs s a ∧ J ys W') ∨ (∃ pre, pre <+: pairs s a ∧ Jx pre W')) := by
  refine callsIn_of_wp Tryz.func277 rfl trivial ?_ rfl
  simp only [Tryz.ntmps277, List.size_toArray, List.length_cons, List.length_nil, Nat.reduceAdd, Nat.reduceSub, Array.replicate_succ, Array.replicate_zero, List.push_toArray, List.append_toArray, List.nil_append, List.cons_append]
  have HY := Lib.hid hY
  have HJ := Lib.hid hJd
  clear hY hJd
  gi_wp2
  gi_loopw [4] (fun p wr => ∃ (k : Nat), p = .int .i64 ((a : Int) + k) ∧ a + k ≤ s.length ∧ J ((pairs s a).take k) wr ∧ wr.cell? ⟨Ba, 0, none⟩ = some (.int .i64 a) ∧ wr.cell? ⟨Bt, 0, none⟩ = some (.string (str s)))
        (fun p _ => s.length - (intOf p).toNat)
  case atStart => exact ⟨0, by simp, by omega, by simpa using h0, hBa, hBt⟩
  case round =>
    obtain ⟨k, rfl, hk, hJs, hBa, hBt⟩ := hrel
    by_cases hlt2 : a + k < s.length
    · obtain ⟨fn, tmps, assign, body, hy, hR⟩ := HY.out ((pairs s a).take k) (Fin.ofNat _ k, s[a + k]) wr.drew (HJ.out _ _ hJs) (by rw [List.length_take, z106]; omega)
      have hfin : ((Fin.ofNat 1125899906842624 k).val : Int) = k := by simp [Fin.ofNat]; omega
      rw [hfin] at hy
      clear hfin
      have hR' : RoundIn Fence.wide (n - 1) Tryz.prog l fn tmps assign body wr.drew fun e W' => ∃ t, e = .returned (.bool t) ∧ Hid ((t = true → J ((pairs s a).take k ++ [(Fin.ofNat _ k, s[a + k])]) W' ∧ Keep2 Ba Bt wr.drew W') ∧ (t = false → Jx ((pairs s a).take k ++ [(Fin.ofNat _ k, s[a + k])]) W')) := by
        refine hR.mono ?_
        rintro e W' (⟨rfl, h1, h2⟩ | ⟨rfl, h1⟩)
        · exact ⟨true, rfl, fun _ => ⟨h1, h2⟩, fun h => by cases h⟩
        · exact ⟨false, rfl, fun h => (by cases h), fun _ => h1⟩
      have HR := Lib.hid hR'
      clear hR hR'
      have hmix : Tryz.prog.follows .mixedOrders = true := by kernel_rfl
      gi_wp2_with fail
      have hw1 : IntKind.i64.wrap ((a : Int) + k - a) = k := by rw [IntWalk.i64_in _ (by omega)]; omega
      have hw2 : (0 : Int) ≤ (a : Int) + k := by omega
      have hw3 : (a : Int) + k < s.length := by omega
      have hw4 : ((a : Int) + k).toNat = a + k := by omega
      refine z56 open_wide 7 hmix (by kernel_rfl) ?_
      simp only [List.take_succ_cons, List.take_zero, List.drop_succ_cons, List.drop_zero]
      repeat still_step
      refine wpStill_nil ?_
      clear hw1
      gi_wp2
      refine ⟨fun h => (by cases h), HR.out.mono ?_⟩
      rintro e W3 ⟨t, rfl, ht⟩
      cases t
      · gi_wp2
        refine bodyPost_ret (results_none rfl _ _ _) rfl ?_
        refine ⟨⟨_, rfl⟩, .inr ⟨_, ?_, ht.2 (by simp)⟩⟩
        rw [← pairs_take s a k hlt2]
        exact List.take_prefix _ _
      · obtain ⟨hJ3, hB3⟩ := ht.1 (by simp)
        have hBa3 := (World.cell?_of_block (w := wr) (a := ⟨Ba, 0, none⟩) hB3.1).trans hBa
        have hBt3 := (World.cell?_of_block (w := wr) (a := ⟨Bt, 0, none⟩) hB3.2).trans hBt
        gi_wp2
        go_roundw
        case rel => exact ⟨k + 1, by go_num, by omega, by rw [pairs_take s a k hlt2]; exact hJ3, hBa3, hBt3⟩
        case measure => simp [intOf]; omega
    · gi_wp2
      go_end0
      exact ⟨⟨_, rfl⟩, .inl ⟨_, (List.take_of_length_le (by rw [z106]; omega)), hJs⟩⟩
theorem from_in(n:Nat)(s:List UInt8)(a:Int)(w:World):
  CallsIn Fence.wide n Tryz.prog 237 #[.string (str s),.int .i64 a] w fun e w'=>e=.returned (.func (.func 277) #[] #[.pointer (some ⟨w.heap.size+1,0,none⟩),.pointer (some ⟨w.heap.size,0,none⟩)])∧w'=(w.alloc (.cells #[.string (str s)] 248)).alloc (.cells #[.int .i64 a] 3):=by
 refine callsIn_of_wp Tryz.func237 rfl trivial ?_ rfl;simp only[Tryz.ntmps237,List.size_toArray,List.length_cons,List.length_nil,Nat.reduceAdd,Nat.reduceSub,Array.replicate_succ,Array.replicate_zero,List.push_toArray,List.append_toArray,List.nil_append,List.cons_append]
 gi_wp2
 go_ret
 exact⟨rfl,rfl⟩
theorem has_any(s:List UInt8)(a m:Int)(w:World)(hs:s.length≤9223372036854775807)(ha: -9223372036854775808≤a)(ha1:a≤9223372036854775807):
  Calls Tryz.prog 236 #[.string (str s),.int .i64 a,.int .i64 m] w fun e w'=>e=.returned (.bool (decide (0≤a∧a≤s.length∧m≤s.length-a)))∧w'=w:=by
 go_enter Tryz.func236,Tryz.ntmps236
 go_wp2
 all_goals go_ret
 all_goals exact⟨bretw (by rw[Bool.eq_iff_iff];simp_all []<;>omega),rfl⟩
attribute [local go_sem] Oper.semAt_some
def NumPost(s:List UInt8)(a:Int)(b:Nat)(a0 a1:Addr)(w:World)(e:Ending)(w':World):Prop:=
 match rd s a with
 | .ok (n,z)=>e=.returned (.tuple #[.int .i64 n,.nilIface])∧w.grownBy w' (some b)∧w'.heap[b]?=some (.cells #[.string (str s),.int .i64 (a+z)] 250 (0,0))
 | .error false=>e=.returned (.tuple #[.int .i64 0,.iface 352 (.pointer (some a0))])∧Below w.heap.size w w'
 | .error true=>e=.returned (.tuple #[.int .i64 0,.iface 352 (.pointer (some a1))])∧Below w.heap.size w w'
theorem z32{w:World}{b t:Nat}{cs:Array Value}(h:w.heap[b]?=some (.cells cs t (0,0)))(i:Nat):w.cell? ⟨b,i,none⟩=cs[i]?:=by simp[World.cell?,h]
theorem blk_frozen{w:World}{b t:Nat}{cs:Array Value}(h:w.heap[b]?=some (.cells cs t (0,0)))(i:Nat):w.frozen? ⟨b,i,none⟩=false:=by simp[World.frozen?,h]
theorem rd_out{s:List UInt8}{a:Int}(h:¬(0≤a∧a<s.length)):rd s a=.error false:=by simp only[rd,if_neg h]
set_option maxRecDepth 100000 in
set_option maxHeartbeats 2000000 in
theorem number_out(s:List UInt8)(a:Int)(b:Nat)(a0 a1:Addr)(w:World)(hs:s.length<1125899906842624)(ha0: -9223372036854775808≤a)(ha1:a≤9223372036854775807)
  (hG:Glob w a0 a1) (hb:w.heap[b]?=some (.cells #[.string (str s),.int .i64 a] 250 (0,0))) (hin:¬(0≤a∧a<s.length)):
  Calls Tryz.prog 182 #[.pointer (some ⟨b,0,none⟩)] w fun e w'=>e=.returned (.tuple #[.int .i64 0,.iface 352 (.pointer (some a0))])∧Below w.heap.size w w':=by
 have hmix:Tryz.prog.follows .mixedOrders=true:=by kernel_rfl
 have hblt:=heap_lt hb;have c0:w.cell? ⟨b,0,none⟩=some (.string (str s)):=z32 hb 0;have c1:w.cell? ⟨b,0+1,none⟩=some (.int .i64 a):=z32 hb 1;have e0:=hG.e0;have g0:=z33 e0
 dsimp only at g0
 have hhas:∀W,Calls Tryz.prog 236 #[.string (str s),.int .i64 a,.int .i64 1] W fun e w'=>e=.returned (.bool false)∧w'=W:=fun W=>by
  have:=has_any s a 1 W (by omega) ha0 ha1
  rwa [decide_eq_false (by omega)]at this
 have HH:=Lib.hid hhas;clear hhas hG hb
 go_enter Tryz.func182,Tryz.ntmps182
 go_wp2_with fail
 go_step3
 go_wp2_with fail
 refine z28 9 hmix (by kernel_rfl) ?_;simp only[List.take_succ_cons,List.take_zero,List.drop_succ_cons,List.drop_zero]
 iterate 8 still_step
 still_call (HH.out _)
 refine wpStill_nil ?_
 go_wp2_with fail
 go_region
 all_goals go_wp2_with fail
 all_goals rw[Exit.noGoto_ret]
 all_goals refine bodyPost_ret (v:=.tuple #[.int .i64 0,.iface 352 (.pointer (some a0))]) (by simp[results,Tryz.results182,go_sem]) rfl ⟨rfl,by go_grown⟩
theorem from_any(s:List UInt8)(a:Int)(w:World):
  Calls Tryz.prog 237 #[.string (str s),.int .i64 a] w fun e w'=>e=.returned (.func (.func 277) #[] #[.pointer (some ⟨w.heap.size+1,0,none⟩),.pointer (some ⟨w.heap.size,0,none⟩)])∧w'=(w.alloc (.cells #[.string (str s)] 248)).alloc (.cells #[.int .i64 a] 3):=
 callsIn_wide.1 (from_in 3 s a w)
theorem from_stops(n:Nat)(Ba Bt:Nat)(s:List UInt8)(a:Nat)(ha:a≤s.length)(hs:s.length<1125899906842624)(w:World)
  (hc:w.cell? ⟨Ba,0,none⟩=some (.int .i64 a)) (hd:w.cell? ⟨Bt,0,none⟩=some (.string (str s))):
  SeqStopsK Fence.wide n Tryz.prog 277 #[.pointer (some ⟨Ba,0,none⟩),.pointer (some ⟨Bt,0,none⟩)] (fun g:Mor.Ix×UInt8=> #[Value.int .i64 g.1.val,Value.int .u8 g.2.toNat]) (Keep2 Ba Bt) (fun ys=>ys=pairs s a) (fun pre=>pre<+:pairs s a) s.length w:=fun l J Jx W hW hJ _ hY h0=>
 from1_in n l Ba Bt s a ha hs J Jx hY W ((hW.cell (p:=⟨Ba,0,none⟩) (z33 hc)).trans hc) ((hW.cell (p:=⟨Bt,0,none⟩) (z33 hd)).trans hd)
  (fun pre W1 hj=>hJ pre W1 W1.drew none hj ⟨rfl,rfl,rfl,Nat.le_refl _,fun _ _ _=>rfl⟩ (fun r e=>by cases e)) h0
theorem keep2_t{Ba Bt:Nat}{A B C:World}(h:Keep2 Ba Bt A B)(k:Keep2 Ba Bt B C):Keep2 Ba Bt A C:=⟨k.1.trans h.1,k.2.trans h.2⟩
theorem keep2_b{Ba Bt:Nat}{w:World}(ha:Ba<w.heap.size)(hb:Bt<w.heap.size)(W:World)(l:Nat)(o o':Obj)(hl:w.heap.size≤l)(_:W.heap[l]?=some o)(_:o.isCells=false)(_:o.isWalk=false):Keep2 Ba Bt W (W.putObj l o'):=
 ⟨World.putObj_heap_other (fun e=>by omega),World.putObj_heap_other (fun e=>by omega)⟩
theorem z30{A B:World}{row:Option Nat}{Bk t:Nat}{v:Value}(h:Boxed A Bk t v)(hg:A.grownBy B row)(hr:∀r,row=some r→∃o:Obj,A.heap[r]?=some o∧o.isCells=false):Boxed B Bk t v:=
 h.kept hg (fun e'=>by obtain⟨o,ho,hc⟩:=hr Bk e'.symm;rw[show A.heap[Bk]?=_ from h]at ho;cases ho;cases hc)
structure Mids(s:List UInt8)(a h:Nat)(w:World)(pre:List (Mor.Ix×UInt8))(W:World)(m sg:Int):Prop where
 bm:Boxed W (h+1+1) 247 (.int .u64 m)
 bs:Boxed W (h+1+1+1) 247 (.int .u64 sg)
 bz:Boxed W (h+1+1+1+1) 3 (.int .i64 0)
 b0:Boxed W h 3 (.int .i64 0)
 b1:Boxed W (h+1) 242 .nilIface
 m0:0≤m
 m1:m<18446744073709551616
 s0:0≤sg
 bl:Below h w W
 good:Begs s a pre→Mid s a pre m sg
def Outs(s:List UInt8)(a h:Nat)(w:World)(a1:Addr)(c:Code)(pre:List (Mor.Ix×UInt8))(W:World):Prop:=
  Below h w W∧
  ((c=.ret∧Boxed W h 3 (.int .i64 0)∧Boxed W (h+1) 242 (.iface 352 (.pointer (some a1)))∧(Begs s a pre→rdGo 0 (0,0) (s.drop a)=.error true))∨
   (c=.exit 0∧∃m sg z:Nat,Boxed W (h+1+1) 247 (.int .u64 m)∧Boxed W (h+1+1+1) 247 (.int .u64 sg)∧Boxed W (h+1+1+1+1) 3 (.int .i64 (z+1))∧Boxed W h 3 (.int .i64 0)∧Boxed W (h+1) 242 .nilIface∧z<1125899906842624∧
     (Begs s a pre→rdGo 0 (0,0) (s.drop a)=.ok (m,sg,z+1))))
theorem boxes5(w:World):Boxed (((((w.alloc (.cells #[.int .i64 0] 3)).alloc (.cells #[.nilIface] 242)).alloc (.cells #[.int .u64 0] 247)).alloc (.cells #[.int .u64 0] 247)).alloc (.cells #[.int .i64 0] 3)) w.heap.size 3 (.int .i64 0)∧Boxed (((((w.alloc (.cells #[.int .i64 0] 3)).alloc (.cells #[.nilIface] 242)).alloc (.cells #[.int .u64 0] 247)).alloc (.cells #[.int .u64 0] 247)).alloc (.cells #[.int .i64 0] 3)) (w.heap.size+1) 242 .nilIface∧Boxed (((((w.alloc (.cells #[.int .i64 0] 3)).alloc (.cells #[.nilIface] 242)).alloc (.cells #[.int .u64 0] 247)).alloc (.cells #[.int .u64 0] 247)).alloc (.cells #[.int .i64 0] 3)) (w.heap.size+2) 247 (.int .u64 0)∧Boxed (((((w.alloc (.cells #[.int .i64 0] 3)).alloc (.cells #[.nilIface] 242)).alloc (.cells #[.int .u64 0] 247)).alloc (.cells #[.int .u64 0] 247)).alloc (.cells #[.int .i64 0] 3)) (w.heap.size+3) 247 (.int .u64 0)∧Boxed (((((w.alloc (.cells #[.int .i64 0] 3)).alloc (.cells #[.nilIface] 242)).alloc (.cells #[.int .u64 0] 247)).alloc (.cells #[.int .u64 0] 247)).alloc (.cells #[.int .i64 0] 3)) (w.heap.size+4) 3 (.int .i64 0)∧(((((w.alloc (.cells #[.int .i64 0] 3)).alloc (.cells #[.nilIface] 242)).alloc (.cells #[.int .u64 0] 247)).alloc (.cells #[.int .u64 0] 247)).alloc (.cells #[.int .i64 0] 3)).heap.size=w.heap.size+5∧Below w.heap.size w (((((w.alloc (.cells #[.int .i64 0] 3)).alloc (.cells #[.nilIface] 242)).alloc (.cells #[.int .u64 0] 247)).alloc (.cells #[.int .u64 0] 247)).alloc (.cells #[.int .i64 0] 3)):=by
 refine⟨((((Boxed.new w _ _).alloc _).alloc _).alloc _).alloc _,?_,?_,?_,?_,by simp,?_⟩
 ·have:=Boxed.new (w.alloc (.cells #[.int .i64 0] 3)) 242 .nilIface;simp only[World.size_alloc]at this;exact((this.alloc _).alloc _).alloc _
 ·have:=Boxed.new ((w.alloc (.cells #[.int .i64 0] 3)).alloc (.cells #[.nilIface] 242)) 247 (.int .u64 0);simp only[World.size_alloc]at this;exact(this.alloc _).alloc _
 ·have:=Boxed.new (((w.alloc (.cells #[.int .i64 0] 3)).alloc (.cells #[.nilIface] 242)).alloc (.cells #[.int .u64 0] 247)) 247 (.int .u64 0);simp only[World.size_alloc]at this;exact this.alloc _
 ·have:=Boxed.new ((((w.alloc (.cells #[.int .i64 0] 3)).alloc (.cells #[.nilIface] 242)).alloc (.cells #[.int .u64 0] 247)).alloc (.cells #[.int .u64 0] 247)) 3 (.int .i64 0);simp only[World.size_alloc]at this;exact this
 ·go_grown
section
variable{s:List UInt8}{a H B:Nat}{w W:World}{a1:Addr}{pre q:List (Mor.Ix×UInt8)}{m sg:Int}
theorem set_keep2{Ba Bt c:Nat}(ha:Ba≠c)(hb:Bt≠c)(W:World)(v:Value):Keep2 Ba Bt W (W.setCell ⟨c,0,none⟩ v):=⟨Below.heap_setCell _ _ _ _ ha,Below.heap_setCell _ _ _ _ hb⟩
theorem closeA(h:Mids s a H w pre W m sg)(m' sg':Nat){v1 v2:Int}(e1:v1=m')(e2:v2=sg')(hg:Begs s a q→rdGo 0 (0,0) (s.drop a)=.ok (m',sg',1)):
  KeepsFrom B W (((W.setCell ⟨H+1+1,0,none⟩ (.int .u64 v1)).setCell ⟨H+1+1+1,0,none⟩ (.int .u64 v2)).setCell ⟨H+1+1+1+1,0,none⟩ (.int .i64 1))∧
  Outs s a H w a1 (.exit 0) q (((W.setCell ⟨H+1+1,0,none⟩ (.int .u64 v1)).setCell ⟨H+1+1+1,0,none⟩ (.int .u64 v2)).setCell ⟨H+1+1+1+1,0,none⟩ (.int .i64 1)):=by
 subst e1 e2;refine⟨(((KeepsOthers.setCell _ _ _).trans (KeepsOthers.setCell _ _ _)).trans (KeepsOthers.setCell _ _ _)).from _,?_,.inr ⟨rfl,m',sg',0,?_,?_,?_,?_,?_,by omega,hg⟩⟩
 ·exact((h.bl.setCell (p:=⟨H+1+1,0,none⟩) (by dsimp only;omega) _).setCell (p:=⟨H+1+1+1,0,none⟩) (by dsimp only;omega) _).setCell (p:=⟨H+1+1+1+1,0,none⟩) (by dsimp only;omega) _
 ·exact((h.bm.set _).other (by omega) _).other (by omega) _
 ·exact((h.bs.other (by omega) _).set _).other (by omega) _
 ·exact((h.bz.other (by omega) _).other (by omega) _).set _
 ·exact((h.b0.other (by omega) _).other (by omega) _).other (by omega) _
 ·exact((h.b1.other (by omega) _).other (by omega) _).other (by omega) _
theorem closeB(h:Mids s a H w pre W m sg)(m' sg':Nat){v1 v2:Int}(e1:v1=m')(e2:v2=sg')(hm:m'<64){Ba Bt:Nat}(ha:Ba=H+5+1)(hb:Bt=H+5)(hg:Begs s a q→Mid s a q m' sg'):
  KeepsFrom B W ((W.setCell ⟨H+1+1,0,none⟩ (.int .u64 v1)).setCell ⟨H+1+1+1,0,none⟩ (.int .u64 v2))∧Keep2 Ba Bt W ((W.setCell ⟨H+1+1,0,none⟩ (.int .u64 v1)).setCell ⟨H+1+1+1,0,none⟩ (.int .u64 v2))∧
  ∃m sg,Mids s a H w q ((W.setCell ⟨H+1+1,0,none⟩ (.int .u64 v1)).setCell ⟨H+1+1+1,0,none⟩ (.int .u64 v2)) m sg:=by
 subst e1 e2 ha hb;refine⟨((KeepsOthers.setCell _ _ _).trans (KeepsOthers.setCell _ _ _)).from _,keep2_t (set_keep2 (by omega) (by omega) _ _) (set_keep2 (by omega) (by omega) _ _),m',sg',?_,?_,?_,?_,?_,by omega,by omega,by omega,?_,hg⟩
 ·exact(h.bm.set _).other (by omega) _
 ·exact(h.bs.other (by omega) _).set _
 ·exact(h.bz.other (by omega) _).other (by omega) _
 ·exact(h.b0.other (by omega) _).other (by omega) _
 ·exact(h.b1.other (by omega) _).other (by omega) _
 ·exact(h.bl.setCell (p:=⟨H+1+1,0,none⟩) (by dsimp only;omega) _).setCell (p:=⟨H+1+1+1,0,none⟩) (by dsimp only;omega) _
theorem closeC(h:Mids s a H w pre W m sg){v:Int}(h0:0≤v)(h1:v<18446744073709551616){Ba Bt:Nat}(ha:Ba=H+5+1)(hb:Bt=H+5)(hg:Begs s a q→Mid s a q v sg):
  KeepsFrom B W (W.setCell ⟨H+1+1,0,none⟩ (.int .u64 v)).drew∧Keep2 Ba Bt W (W.setCell ⟨H+1+1,0,none⟩ (.int .u64 v)).drew∧
  ∃m sg,Mids s a H w q (W.setCell ⟨H+1+1,0,none⟩ (.int .u64 v)).drew m sg:=by
 subst ha hb;refine⟨((KeepsOthers.setCell _ _ _).trans (KeepsOthers.drew _)).from _,set_keep2 (by omega) (by omega) W _,v,sg,?_,?_,?_,?_,?_,h0,h1,h.s0,?_,hg⟩
 ·exact h.bm.set _
 ·exact h.bs.other (by omega) _
 ·exact h.bz.other (by omega) _
 ·exact h.b0.other (by omega) _
 ·exact h.b1.other (by omega) _
 ·exact(h.bl.setCell (p:=⟨H+1+1,0,none⟩) (by dsimp only;omega) _).drew
theorem closeD(h:Mids s a H w pre W m sg){v:Int}{k:Nat}(hk:k<1125899906842624)(h0:0≤v)(hsg:0≤sg)(hg:Begs s a q→rdGo 0 (0,0) (s.drop a)=.ok (v.toNat,sg.toNat,k+1)):
  KeepsFrom B W ((W.setCell ⟨H+1+1,0,none⟩ (.int .u64 v)).setCell ⟨H+1+1+1+1,0,none⟩ (.int .i64 ((k:Int)+1))).drew∧
  Outs s a H w a1 (.exit 0) q ((W.setCell ⟨H+1+1,0,none⟩ (.int .u64 v)).setCell ⟨H+1+1+1+1,0,none⟩ (.int .i64 ((k:Int)+1))).drew:=by
 obtain⟨v,rfl⟩:=Int.eq_ofNat_of_zero_le h0;obtain⟨sg,rfl⟩:=Int.eq_ofNat_of_zero_le hsg;refine⟨(((KeepsOthers.setCell _ _ _).trans (KeepsOthers.setCell _ _ _)).trans (KeepsOthers.drew _)).from _,?_,.inr ⟨rfl,v,sg,k,?_,?_,?_,?_,?_,hk,hg⟩⟩
 ·exact((h.bl.setCell (p:=⟨H+1+1,0,none⟩) (by dsimp only;omega) _).setCell (p:=⟨H+1+1+1+1,0,none⟩) (by dsimp only;omega) _).drew
 ·exact(h.bm.set _).other (by omega) _
 ·exact(h.bs.other (by omega) _).other (by omega) _
 ·exact(h.bz.other (by omega) _).set _
 ·exact(h.b0.other (by omega) _).other (by omega) _
 ·exact(h.b1.other (by omega) _).other (by omega) _
theorem closeE(h:Mids s a H w pre W m sg)(hg:Begs s a q→rdGo 0 (0,0) (s.drop a)=.error true){W':World}(hW:W'=((W.setCell ⟨H,0,none⟩ (.int .i64 0)).setCell ⟨H+1,0,none⟩ (.iface 352 (.pointer (some a1)))).drew):
  KeepsFrom B W W'∧Outs s a H w a1 .ret q W':=by
 subst hW;refine⟨(((KeepsOthers.setCell _ _ _).trans (KeepsOthers.setCell _ _ _)).trans (KeepsOthers.drew _)).from _,?_,.inl ⟨rfl,?_,?_,hg⟩⟩
 ·exact((h.bl.setCell (p:=⟨H,0,none⟩) (Nat.le_refl _) _).setCell (p:=⟨H+1,0,none⟩) (by dsimp only;omega) _).drew
 ·exact(h.b0.set _).other (by omega) _
 ·exact(h.b1.other (by omega) _).set _
end
theorem shl_any(P:Program)(y:UInt8)(k:Nat)(hk:k<1125899906842624)(hk0:¬k=0):∃G:Int,0≤G∧G<18446744073709551616∧Hid (G=IntKind.u64.wrap ((y.toNat:Int)%128*2 ^ min (7*k-1) 64))∧
  ∀W,(Op.shift .shl .u64 ((y.toNat:Int)%128) .i64 (IntKind.i64.wrap (IntKind.i64.wrap (7*(k:Int)) - 1))).run P W=.ok (.int .u64 G) W:=by
 refine⟨IntKind.u64.wrap ((y.toNat:Int)%128*2 ^ min (7*k-1) 64),?_,?_,rfl,fun W=> ?_⟩
 ·simp[IntKind.wrap_u64];omega
 ·simp[IntKind.wrap_u64];omega
 ·rw[IntWalk.i64_in (7*(k:Int)) (by omega),IntWalk.i64_in _ (by omega)];have h1:¬(7*(k:Int) - 1<0):=by omega
  have h2:(7*(k:Int) - 1).toNat=7*k-1:=by omega
  simp only[Op.shift,h1,if_false,h2,IntKind.bits];rfl
theorem keepObj{W W':World}{D:Nat}{o:Obj}(h:KeepsOthers W W')(hK:W.heap[D]?=some o)(ho:o.isCells=false):W'.heap[D]?=some o:=h.same D o hK ho
theorem rd_err{s:List UInt8}{a:Nat}(hin:a<s.length){e:Bool}(h:rdGo 0 (0,0) (s.drop a)=.error e):rd s a=.error e:=by
 simp only[rd,Int.toNat_natCast,h];rw[if_pos (by omega)]
theorem rd_ok{s:List UInt8}{a m sg z:Nat}(hin:a<s.length)(h:rdGo 0 (0,0) (s.drop a)=.ok (m,sg,z)):rd s a=.ok (if sg=1 then -1-(m:Int)else m,z):=by
 simp only[rd,Int.toNat_natCast,h];rw[if_pos (by omega)]
theorem closeOk{s:List UInt8}{a b D:Nat}{w W:World}{v:Int}{x:Int}(hbl:Below w.heap.size w W)(hb:W.heap[b]?=some (.cells #[.string (str s),.int .i64 a] 250 (0,0)))(hbw:b<w.heap.size)
  (hK:W.heap[D]?=some (.deferred (some []))) (hD:w.heap.size+7≤D) (bx0:Boxed W w.heap.size 3 (.int .i64 0)) (bx1:Boxed W (w.heap.size+1) 242 .nilIface) {W':World}
  (hW:W'=(((W.setCell ⟨b,1,none⟩ (.int .i64 v)).setCell ⟨w.heap.size,0,none⟩ (.int .i64 x)).setCell ⟨w.heap.size+1,0,none⟩ .nilIface).drew):
  W'.heap[D]?=some (.deferred (some []))∧(W'.putObj D (.deferred none)).cell? ⟨w.heap.size,0,none⟩=some (.int .i64 x)∧(W'.putObj D (.deferred none)).cell? ⟨w.heap.size+1,0,none⟩=some .nilIface∧
  w.grownBy (W'.putObj D (.deferred none)) (some b)∧(W'.putObj D (.deferred none)).heap[b]?=some (.cells #[.string (str s),.int .i64 v] 250 (0,0)):=by
 subst hW;have hK2:=keepObj ((((KeepsOthers.setCell W ⟨b,1,none⟩ (.int .i64 v)).trans (KeepsOthers.setCell _ ⟨w.heap.size,0,none⟩ (.int .i64 x))).trans (KeepsOthers.setCell _ ⟨w.heap.size+1,0,none⟩ .nilIface)).trans (KeepsOthers.drew _)) hK rfl;have k0:Boxed (W.setCell ⟨b,1,none⟩ (.int .i64 v)) w.heap.size 3 (.int .i64 0):=(Below.heap_setCell _ _ _ _ (by dsimp only;omega)).trans bx0;have k1:Boxed (W.setCell ⟨b,1,none⟩ (.int .i64 v)) (w.heap.size+1) 242 .nilIface:=(Below.heap_setCell _ _ _ _ (by dsimp only;omega)).trans bx1;have q0:Boxed (((W.setCell ⟨b,1,none⟩ (.int .i64 v)).setCell ⟨w.heap.size,0,none⟩ (.int .i64 x)).setCell ⟨w.heap.size+1,0,none⟩ .nilIface).drew w.heap.size 3 (.int .i64 x):=(k0.set _).other (by omega) _;have q1:Boxed (((W.setCell ⟨b,1,none⟩ (.int .i64 v)).setCell ⟨w.heap.size,0,none⟩ (.int .i64 x)).setCell ⟨w.heap.size+1,0,none⟩ .nilIface).drew (w.heap.size+1) 242 .nilIface:=(k1.other (by omega) _).set _;have hbb:(((W.setCell ⟨b,1,none⟩ (.int .i64 v)).setCell ⟨w.heap.size,0,none⟩ (.int .i64 x)).setCell ⟨w.heap.size+1,0,none⟩ .nilIface).heap[b]?=some (.cells #[.string (str s),.int .i64 v] 250 (0,0)):=by
  rw[Below.heap_setCell _ _ _ _ (by dsimp only;omega),Below.heap_setCell _ _ _ _ (by dsimp only;omega)];simp[World.setCell,Array.getElem?_modify,hb]
 refine⟨hK2,?_,?_,?_,?_⟩
 ·exact(z30 q0 (grownBy_putObj' _ D (.deferred none)) (fun r e=>by cases e;exact⟨_,hK2,rfl⟩)).cell
 ·exact(z30 q1 (grownBy_putObj' _ D (.deferred none)) (fun r e=>by cases e;exact⟨_,hK2,rfl⟩)).cell
 ·refine⟨hbl.os,hbl.tape,hbl.output,?_,fun k hk hne=> ?_⟩
  ·have:=hbl.size;have:=(grownBy_putObj' (((W.setCell ⟨b,1,none⟩ (.int .i64 v)).setCell ⟨w.heap.size,0,none⟩ (.int .i64 x)).setCell ⟨w.heap.size+1,0,none⟩ .nilIface).drew D (.deferred none)).size;simp[World.size_setCell,World.drew]at this ⊢;omega
  ·rw[World.putObj_heap_other (fun e=>by omega)];show(((W.setCell ⟨b,1,none⟩ (.int .i64 v)).setCell ⟨w.heap.size,0,none⟩ (.int .i64 x)).setCell ⟨w.heap.size+1,0,none⟩ .nilIface).heap[k]?=_;have hkb:k≠b:=fun e=>hne (by rw[e]);rw[Below.heap_setCell _ _ _ _ (by dsimp only;omega),Below.heap_setCell _ _ _ _ (by dsimp only;omega),Below.heap_setCell _ _ _ _ (by dsimp only;omega),hbl.block k hk]
 ·rw[World.putObj_heap_other (fun e=>by omega)];exact hbb
theorem begs_all(s:List UInt8)(a:Nat):Begs s a (pairs s a):=List.prefix_refl _
set_option maxRecDepth 100000 in
set_option maxHeartbeats 4000000 in
theorem number_go(s:List UInt8)(a:Nat)(b:Nat)(a0 a1:Addr)(w:World)(hs:s.length<1125899906842624)(hin:a<s.length)
  (hG:Glob w a0 a1) (hb:w.heap[b]?=some (.cells #[.string (str s),.int .i64 a] 250 (0,0))):
  Calls Tryz.prog 182 #[.pointer (some ⟨b,0,none⟩)] w (NumPost s a b a0 a1 w):=by
 have hmix:Tryz.prog.follows .mixedOrders=true:=by kernel_rfl
 have hblt:=heap_lt hb;have c0:w.cell? ⟨b,0,none⟩=some (.string (str s)):=z32 hb 0;have c1:w.cell? ⟨b,0+1,none⟩=some (.int .i64 a):=z32 hb 1;have e0:=hG.e0;have e1:=hG.e1;have g0:=z33 e0;have g1:=z33 e1
 dsimp only at g0 g1
 have hhas:∀W,Calls Tryz.prog 236 #[.string (str s),.int .i64 a,.int .i64 1] W fun e w'=>e=.returned (.bool true)∧w'=W:=fun W=>by
  have:=has_any s a 1 W (by omega) (by omega) (by omega)
  rwa [decide_eq_true (by omega)]at this
 have HH:=Lib.hid hhas;have HG:=Lib.hid hG;have HB:=Lib.hid hb;clear hhas hG hb;refine callsIn_wide.1 (callsIn_of_wp_marks (n:=9) Tryz.func182 rfl trivial (wpIn_wide.2 ?_) rfl);simp only[Tryz.ntmps182,List.size_toArray,List.length_cons,List.length_nil,Nat.reduceAdd,Nat.reduceSub,Array.replicate_succ,Array.replicate_zero,List.push_toArray,List.append_toArray,List.nil_append,List.cons_append]
 go_wp2_with fail
 go_step3
 go_wp2_with fail
 refine z28 9 hmix (by kernel_rfl) ?_;simp only[List.take_succ_cons,List.take_zero,List.drop_succ_cons,List.drop_zero]
 iterate 8 still_step
 still_call (HH.out _)
 refine wpStill_nil ?_
 go_wp2_with fail
 go_step3
 go_wp2_with fail
 obtain⟨B0,B1,B2,B3,B4,hsz,hBl⟩:=boxes5 w;obtain⟨W0,hW0⟩:∃W0,(((((w.alloc (.cells #[.int .i64 0] 3)).alloc (.cells #[.nilIface] 242)).alloc (.cells #[.int .u64 0] 247)).alloc (.cells #[.int .u64 0] 247)).alloc (.cells #[.int .i64 0] 3))=W0:=⟨_,rfl⟩
 rw[hW0]at B0 B1 B2 B3 B4 hsz hBl ⊢;clear hW0;have d0:=(hBl.cell (p:=⟨b,0,none⟩) hblt).trans c0;have d1:=(hBl.cell (p:=⟨b,0+1,none⟩) hblt).trans c1;have HS:=Lib.hid hsz;clear hsz;refine z28 8 hmix (by kernel_rfl) ?_;simp only[List.take_succ_cons,List.take_zero,List.drop_succ_cons,List.drop_zero]
 iterate 8 still_step
 refine wpStill_nil ?_
 go_wp2_with fail
 refine(from_any _ _ _).mono ?_;rintro e w' ⟨rfl,rfl⟩
 go_wp2_with fail
 have BT0:=(Boxed.new W0 248 (.string (str s))).alloc (.cells #[.int .i64 a] 3);have BA0:=Boxed.new (W0.alloc (.cells #[.string (str s)] 248)) 3 (.int .i64 a);rw[World.size_alloc]at BA0;obtain⟨W1,hW1⟩:∃W1,((W0.alloc (.cells #[.string (str s)] 248)).alloc (.cells #[.int .i64 a] 3)).drew.drew=W1:=⟨_,rfl⟩
 have BT:Boxed W1 W0.heap.size 248 (.string (str s)):=by rw[←hW1];exact BT0
 have BA:Boxed W1 (W0.heap.size+1) 3 (.int .i64 a):=by rw[←hW1];exact BA0
 have b0:Boxed W1 w.heap.size 3 (.int .i64 0):=by rw[←hW1];exact(B0.alloc _).alloc _
 have b1:Boxed W1 (w.heap.size+1) 242 .nilIface:=by rw[←hW1];exact(B1.alloc _).alloc _
 have b2:Boxed W1 (w.heap.size+1+1) 247 (.int .u64 0):=by rw[←hW1];exact(B2.alloc _).alloc _
 have b3:Boxed W1 (w.heap.size+1+1+1) 247 (.int .u64 0):=by rw[←hW1];exact(B3.alloc _).alloc _
 have b4:Boxed W1 (w.heap.size+1+1+1+1) 3 (.int .i64 0):=by rw[←hW1];exact(B4.alloc _).alloc _
 have hBl1:Below w.heap.size w W1:=by rw[←hW1];exact((((hBl).alloc hBl.size _).alloc (by have:=hBl.size;simp;omega) _).drew).drew
 have hs1:W1.heap.size=w.heap.size+7:=by rw[←hW1];simp[World.drew,HS.out]
 rw[hW1];have H0:=HS.out;clear BT0 BA0 hW1 B0 B1 B2 B3 B4 hBl d0 d1;refine(wpIn_wide (n:=9)).1 (wpIn_rangeFunc_ownG rfl (by omega) (gf:=277) (lb:= #[.pointer (some ⟨W0.heap.size+1,0,none⟩),.pointer (some ⟨W0.heap.size,0,none⟩)]) rfl trivial (enters_of Tryz.func277 (by kernel_rfl) rfl)
  (from_stops 8 (W0.heap.size+1) W0.heap.size s a (by omega) hs W1 BA.cell BT.cell) keep2_t (keep2_b (by omega) (by omega)) (Below.refl _ _) (fun _=>rfl)
  (fun pre W=>∃m sg,Mids s a w.heap.size w pre W m sg)
  (fun c pre W=>Outs s a w.heap.size w a1 c pre W) ?hI ?hIx ⟨0,0,b2,b3,b4,b0,b1,by omega,by omega,by omega,hBl1,fun _=>⟨rfl,rfl,rfl,by decide,by simp⟩⟩ ?a1 ?assign ?body ?done ?stop)
 case hI=>
  rintro pre X Y row ⟨m,sg,h⟩ hg hr;have hr':=fun r e=>(hr r e).2;exact⟨m,sg,z30 h.bm hg hr',z30 h.bs hg hr',z30 h.bz hg hr',z30 h.b0 hg hr',z30 h.b1 hg hr',h.m0,h.m1,h.s0,h.bl.grown hg h.bl.size (fun k e=>by have:=(hr k e).1;omega),h.good⟩
 case hIx=>
  rintro c pre X Y row ⟨hbl,h⟩ hg hr;have hr':=fun r e=>(hr r e).2;refine⟨hbl.grown hg hbl.size (fun k e=>by have:=(hr k e).1;omega),?_⟩;rcases h with⟨hc,h0,h1,hgd⟩|⟨hc,m,sg,z,h2,h3,h4,h0,h1,hz,hgd⟩
  ·exact .inl ⟨hc,z30 h0 hg hr',z30 h1 hg hr',hgd⟩
  ·exact .inr ⟨hc,m,sg,z,z30 h2 hg hr',z30 h3 hg hr',z30 h4 hg hr',z30 h0 hg hr',z30 h1 hg hr',hz,hgd⟩
 case assign=>
  intro l x W K hK
  gi_wp2
  exact hK
 case body=>
  rintro l pre ⟨⟨k,hk⟩,y⟩ W ⟨m,sg,h⟩ hlt
  dsimp only
  have hy:y.toNat<256:=y.toNat_lt;have hm0:=h.m0;have hm1:=h.m1;have cm:=h.bm.cell;have fm:=h.bm.frozen;have cs:=h.bs.cell;have fs:=h.bs.frozen;have cz:=h.bz.cell;have fz:=h.bz.frozen;have cr:=h.b0.cell;have fr:=h.b0.frozen;have ce:=h.b1.cell;have fe:=h.b1.frozen;have hMi:=Lib.hid h;clear h H0 BT BA b0 b1 b2 b3 b4 hBl1 hlt c0 c1 e0;have hand:bits .and .u8 (y.toNat:Int) 127=((y.toNat%128:Nat):Int):=by
   have:=(by decide+kernel:∀z:Fin 256,bits .and .u8 ((z.val:Nat):Int) 127=((z.val%128:Nat):Int)) ⟨y.toNat,hy⟩
   exact this
  obtain⟨X,hX⟩:∃X:Mor.Ix×UInt8,X=(⟨k,hk⟩,y):=⟨_,rfl⟩
  have hXk:X.1.val=k:=by rw[hX]
  have hXy:X.2=y:=by rw[hX]
  rw[←hX];have HX1:=Lib.hid hXk;have HX2:=Lib.hid hXy;clear hX hXk hXy;by_cases hk0:k=0
  ·subst hk0;by_cases hlo:y.toNat<128
   ·gi_wp2_with fail
    refine closeA hMi.out (y.toNat%128 / 2) (y.toNat%128%2) (by omega) (by omega) (fun hg=> ?_);rw[Mid.ok hs hMi.out.good (by rw[HX1.out];simp) (by rw[HX2.out];exact hlo) hg,HX1.out];simp[stepM,HX1.out,HX2.out]
   ·gi_wp2_with fail
    refine closeB hMi.out (y.toNat%128 / 2) (y.toNat%128%2) (by omega) (by omega) (by omega) (Ba:=W0.heap.size+1) (Bt:=W0.heap.size) (by have:=HS.out;omega) HS.out (fun hg=> ?_);have:=Mid.cont hs hMi.out.good (by rw[HX1.out];simp) (by rw[HX2.out];omega) hg;simpa [stepM,HX1.out,HX2.out]using this
  ·have hk1:((k:Int)==0)=false:=by simp;omega
   by_cases hbad:y.toNat=0∨k=9∧1<y.toNat
   ·have HE:Begs s a (pre++[X])→rdGo 0 (0,0) (s.drop a)=.error true:=fun hg=>Mid.err hs hMi.out.good (by rw[HX1.out];exact hk0) (by rw[HX1.out,HX2.out];exact hbad) hg;have HE':=Lib.hid HE;have ge:=(hMi.out.bl.cell (p:=⟨3,0,none⟩) g1).trans e1;clear HE;by_cases hy0:y.toNat=0
    ·have hy1:((y.toNat:Int)==0)=true:=by simp;omega
     have HY0:=Lib.hid hy0;clear hy0 hbad
     gi_wp2_with fail
     gi_region_with_o (fail)
     all_goals gi_wp2_with fail
     all_goals exact closeE hMi.out HE'.out rfl
    ·have hy1:((y.toNat:Int)==0)=false:=by simp;omega
     have hk9':((k:Int)==9)=true:=by simp;omega
     have hgt:1<(y.toNat:Int):=by omega
     have HB:=Lib.hid hbad;clear hbad
     gi_wp2_with fail
     gi_region_with_o (fail)
     all_goals gi_wp2_with fail
     all_goals exact closeE hMi.out HE'.out rfl
   ·have hy0:((y.toNat:Int)==0)=false:=by simp;omega
    have hstep:Hid (∀G:Int,G=IntKind.u64.wrap ((y.toNat:Int)%128*2 ^ min (7*k-1) 64)→Begs s a (pre++[X])→bits .or .u64 m G=((stepM (stM pre) X).1:Nat)∧sg=((stepM (stM pre) X).2:Nat)):=
     fun G hG hg=>or_step hs hMi.out.good (by rw[HX1.out];exact hk0) (by rw[HX1.out,HX2.out];exact hbad) (by rw[HX1.out,HX2.out];exact hG) hg
    have hnb:Hid (¬(X.1.val≠0∧(X.2.toNat=0∨X.1.val=9∧1<X.2.toNat))):=by
     show ¬_;rw[HX1.out,HX2.out];exact fun hc=>hbad hc.2
    obtain⟨G,hG0,hG1,HGe,hsh⟩:=shl_any Tryz.prog y k hk hk0;have HSH:=Lib.hid hsh;clear hsh;obtain⟨M,hM⟩:∃M,bits .or .u64 m G=M:=⟨_,rfl⟩
    have hMb:0≤M∧M<18446744073709551616:=by
     obtain⟨m,rfl⟩:=Int.eq_ofNat_of_zero_le hm0;obtain⟨G,rfl⟩:=Int.eq_ofNat_of_zero_le hG0;have:=Nat.or_lt_two_pow (n:=64) (x:=m) (y:=G) (by omega) (by omega);rw[←hM,u64_or_nat _ _ (by omega) (by omega)];omega
    obtain⟨hM0,hM1⟩:=hMb;have HM:=Lib.hid hM;clear hM;by_cases hk9:k=9
    ·have hk9':((k:Int)==9)=true:=by simp;omega
     have hgt:¬(1<(y.toNat:Int)):=by omega
     have hHk:=Lib.hid hk9;clear hk9
     gi_wp2_with fail
     have hsh:=HSH.out;have hM:=HM.out;refine z56 (open_round l) 7 hmix (by kernel_rfl) ?_;simp only[List.take_succ_cons,List.take_zero,List.drop_succ_cons,List.drop_zero]
     iterate 7 still_step
     refine wpStill_nil ?_;clear hsh hM
     gi_wp2_with fail
     refine closeD hMi.out hk hM0 hMi.out.s0 (fun hg=> ?_);obtain⟨q1,q2⟩:=hstep.out G HGe.out hg;rw[HM.out]at q1;have hlo:y.toNat<128:=by omega
     rw[q1,q2];simpa [HX1.out]using Mid.ok hs hMi.out.good hnb.out (by rw[HX2.out];exact hlo) hg
    ·have hk9':((k:Int)==9)=false:=by simp;omega
     gi_wp2_with fail
     have hsh:=HSH.out;have hM:=HM.out;refine z56 (open_round l) 7 hmix (by kernel_rfl) ?_;simp only[List.take_succ_cons,List.take_zero,List.drop_succ_cons,List.drop_zero]
     iterate 7 still_step
     refine wpStill_nil ?_;clear hsh hM
     gi_wp2_with fail
     ·refine closeD hMi.out hk hM0 hMi.out.s0 (fun hg=> ?_);obtain⟨q1,q2⟩:=hstep.out G HGe.out hg;rw[HM.out]at q1;have hlo:y.toNat<128:=by omega
      rw[q1,q2];simpa [HX1.out]using Mid.ok hs hMi.out.good hnb.out (by rw[HX2.out];exact hlo) hg
     ·refine closeC hMi.out hM0 hM1 (Ba:=W0.heap.size+1) (Bt:=W0.heap.size) (by have:=HS.out;omega) HS.out (fun hg=> ?_);obtain⟨q1,q2⟩:=hstep.out G HGe.out hg;rw[HM.out]at q1;have hlo:128≤y.toNat:=by omega
      rw[q1,q2];exact Mid.cont hs hMi.out.good hnb.out (by rw[HX2.out];exact hlo) hg
 case done=>
  rintro D ys W hD rfl ⟨m,sg,h⟩ hK;have cz:=h.bz.cell;have cr:=h.b0.cell;have fr:=h.b0.frozen;have ce:=h.b1.cell;have fe:=h.b1.frozen;have ge:=(h.bl.cell (p:=⟨2,0,none⟩) g0).trans e0;have hMi:=Lib.hid h;have HK:=Lib.hid hK;clear h H0 BT BA b0 b1 b2 b3 b4 hBl1 c0 c1 e0 e1 hK
  go_wp2_with fail
  go_region
  all_goals go_wp2_with fail
  all_goals
   rw[Exit.noGoto_ret];have bx0:Boxed ((W.setCell ⟨w.heap.size,0,none⟩ (.int .i64 0)).setCell ⟨w.heap.size+1,0,none⟩ (.iface 352 (.pointer (some a0)))).drew w.heap.size 3 (.int .i64 0):=(hMi.out.b0.set (.int .i64 0)).other (show w.heap.size≠w.heap.size+1 by omega) (.iface 352 (.pointer (some a0)));have bx1:Boxed ((W.setCell ⟨w.heap.size,0,none⟩ (.int .i64 0)).setCell ⟨w.heap.size+1,0,none⟩ (.iface 352 (.pointer (some a0)))).drew (w.heap.size+1) 242 (.iface 352 (.pointer (some a0))):=(hMi.out.b1.other (show w.heap.size+1≠w.heap.size by omega) (.int .i64 0)).set (.iface 352 (.pointer (some a0)));have hK2:=keepObj (((KeepsOthers.setCell W ⟨w.heap.size,0,none⟩ (.int .i64 0)).trans (KeepsOthers.setCell _ ⟨w.heap.size+1,0,none⟩ (.iface 352 (.pointer (some a0))))).trans (KeepsOthers.drew _)) HK.out rfl;refine⟨by simp,.inl ⟨_,_,rfl,run_takeDeferred hK2,?_⟩⟩;have r0:=(z30 bx0 (grownBy_putObj' _ D (.deferred none)) (fun r e=>by cases e;exact⟨_,hK2,rfl⟩)).cell;have r1:=(z30 bx1 (grownBy_putObj' _ D (.deferred none)) (fun r e=>by cases e;exact⟨_,hK2,rfl⟩)).cell;refine⟨.tuple #[.int .i64 0,.iface 352 (.pointer (some a0))],by simp[results,Tryz.results182,go_sem,r0,r1],?_⟩
   have hgo:=(hMi.out.good (begs_all s a)).go;rw[z106,show a+(s.length-a)=s.length by omega,List.drop_length]at hgo;unfold NumPost;rw[rd_err hin hgo];exact⟨rfl,(((hMi.out.bl.setCell (p:=⟨w.heap.size,0,none⟩) (Nat.le_refl _) _).setCell (p:=⟨w.heap.size+1,0,none⟩) (by dsimp only;omega) _).drew).trans (belowK_b (w:=w) (Nat.le_refl _) _ D _ _ (by omega) hK2 rfl rfl)⟩
 case stop=>
  rintro D c pre W hD hSp ⟨hbl,hO⟩ hK;have HK:=Lib.hid hK;have HL:=Lib.hid hbl;rcases hO with⟨rfl,bx0,bx1,hgd⟩|⟨rfl,m,sg,z,bm,bs,bz,bx0,bx1,hz,hgd⟩
  ·refine wpIn_wide.2 ?_;have hgo:=hgd hSp;clear H0 BT BA b0 b1 b2 b3 b4 hBl1 c0 c1 e0 e1 hK hgd hbl
   go_wp2_with fail
   rw[Exit.noGoto_ret];have hK2:=HK.out;refine⟨by simp,.inl ⟨_,_,rfl,run_takeDeferred hK2,?_⟩⟩;have r0:=(z30 bx0 (grownBy_putObj' _ D (.deferred none)) (fun r e=>by cases e;exact⟨_,hK2,rfl⟩)).cell;have r1:=(z30 bx1 (grownBy_putObj' _ D (.deferred none)) (fun r e=>by cases e;exact⟨_,hK2,rfl⟩)).cell;refine⟨.tuple #[.int .i64 0,.iface 352 (.pointer (some a1))],by simp[results,Tryz.results182,go_sem,r0,r1],?_⟩;unfold NumPost;rw[rd_err hin hgo];exact⟨rfl,HL.out.trans (belowK_b (w:=w) (Nat.le_refl _) _ D _ _ (by omega) hK2 rfl rfl)⟩
  ·have HR:=Lib.hid (rd_ok hin (hgd hSp));have hb2:W.heap[b]?=some (.cells #[.string (str s),.int .i64 a] 250 (0,0)):=(hbl.block b hblt).trans HB.out;have d0:W.cell? ⟨b,0,none⟩=some (.string (str s)):=z32 hb2 0;have d1:W.cell? ⟨b,0+1,none⟩=some (.int .i64 a):=z32 hb2 1;have d2:W.frozen? ⟨b,0+1,none⟩=false:=blk_frozen hb2 1;have cm:=bm.cell;have cs:=bs.cell;have cz:=bz.cell;have cr:=bx0.cell;have fr:=bx0.frozen;have ce:=bx1.cell;have fe:=bx1.frozen;have hHB:=Lib.hid hb2;have hlz:(((z:Int)+1)==0)=false:=by simp;omega
   obtain⟨hm63,hsg1,hz0,hz10,hzl⟩:=rdGo_bound (s.drop a) 0 (0,0) (by omega) (by decide) (.inl rfl) (hgd hSp);have hm63':(m:Int)<9223372036854775808:=by omega
   simp only[List.length_drop]at hzl;clear H0 BT BA b0 b1 b2 b3 b4 hBl1 c0 c1 e0 e1 hK hgd hbl hb2;refine wpIn_wide.2 ?_;by_cases hsg:sg=1;all_goals
    first
     |have hsgB:((sg:Int)==1)=true:=by simp;omega
     |have hsgB:((sg:Int)==1)=false:=by simp;omega
    have HSG:=Lib.hid hsg;clear hsg
    go_wp2_with fail
    have hw1:IntKind.i64.wrap ((a:Int)+((z:Int)+1))=(a:Int)+((z:Int)+1):=IntWalk.i64_in _ (by omega);refine z28 8 hmix (by kernel_rfl) ?_;simp only[List.take_succ_cons,List.take_zero,List.drop_succ_cons,List.drop_zero]
    iterate 8 still_step
    refine wpStill_nil ?_;clear hw1
    go_wp2_with fail
    rw[Exit.noGoto_ret];obtain⟨hK2,r0,r1,hgr,hbk⟩:=closeOk HL.out hHB.out hblt HK.out (by omega) bx0 bx1 rfl;refine⟨by simp,.inl ⟨_,_,rfl,run_takeDeferred hK2,?_⟩⟩;refine⟨_,by simp[results,Tryz.results182,go_sem,r0,r1];rfl,?_⟩;unfold NumPost;rw[HR.out];first
     |(rw[if_pos HSG.out];exact⟨rfl,hgr,hbk⟩)
     |(rw[if_neg HSG.out];exact⟨rfl,hgr,hbk⟩)
theorem number_any(s:List UInt8)(a:Int)(b:Nat)(a0 a1:Addr)(w:World)(hs:s.length<1125899906842624)(ha0: -9223372036854775808≤a)(ha1:a≤9223372036854775807)
  (hG:Glob w a0 a1) (hb:w.heap[b]?=some (.cells #[.string (str s),.int .i64 a] 250 (0,0))):
  Calls Tryz.prog 182 #[.pointer (some ⟨b,0,none⟩)] w (NumPost s a b a0 a1 w):=by
 by_cases hin:0≤a∧a<s.length
 ·obtain⟨a,rfl⟩:=Int.eq_ofNat_of_zero_le hin.1;exact number_go s a b a0 a1 w hs (by omega) hG hb
 ·refine(number_out s a b a0 a1 w hs ha0 ha1 hG hb hin).mono ?_;rintro e w' ⟨rfl,hbl⟩;unfold NumPost;rw[rd_out hin];exact⟨rfl,hbl⟩
theorem blk_new(w:World)(t:TypeId)(cs:Array Value):(w.alloc (.cells cs t)).heap[w.heap.size]?=some (.cells cs t (0,0)):=World.alloc_heap_new w _
theorem below_new{w w':World}{o:Obj}(hg:(w.alloc o).grownBy w' (some w.heap.size)):Below w.heap.size w w':=
 ((Below.refl w.heap.size w).alloc (Nat.le_refl _) o).grown hg (by simp) (fun k e=>by cases e;exact Nat.le_refl _)
set_option maxRecDepth 10000 in
theorem ReadNum_any(s:List UInt8)(a:Int)(a0 a1:Addr)(w:World)(hs:s.length<1125899906842624)(ha0: -9223372036854775808≤a)(ha1:a≤9223372036854775807)(hG:Glob w a0 a1):
  Calls Tryz.prog 124 #[.string (str s),.int .i64 a] w fun e w'=>
   e=.returned (numRes (z35 s a))∧Below w.heap.size w w':=by
 have hmix:Tryz.prog.follows .mixedOrders=true:=by kernel_rfl
 have hB1:Below w.heap.size w (w.alloc (.cells #[.string (str s),.int .i64 a] 250)):=(Below.refl _ _).alloc (Nat.le_refl _) _;have hG1:=hG.ext hB1;have HN:=Lib.hid (number_any s a w.heap.size a0 a1 _ hs ha0 ha1 hG1 (blk_new w 250 #[.string (str s),.int .i64 a]));have HG:=Lib.hid hG;clear hG hG1
 go_enter Tryz.func124,Tryz.ntmps124
 go_wp2_with fail
 refine HN.out.mono ?_;intro e w' hp;unfold NumPost at hp;cases hr:rd s a with
 |error t=>
  rw[hr]at hp;have hrn:z35 s a=none:=by simp[z35,hr]
  have HRN:=Lib.hid hrn;clear hr hrn;cases t
  ·obtain⟨rfl,hbl⟩:=hp;have hbl':=hB1.trans (hbl.mono (by simp));have HW:=Lib.hid (wrong_end w' a0 a1 (HG.out.ext hbl'))
   go_wp2_with fail
   refine HW.out.mono ?_;rintro e w2 ⟨rfl,rfl⟩
   go_wp2_with fail
   go_ret3
   exact⟨by rw[HRN.out];rfl,hbl'⟩
  ·obtain⟨rfl,hbl⟩:=hp;have hbl':=hB1.trans (hbl.mono (by simp));have HW:=Lib.hid (wrong_form w' a0 a1 (HG.out.ext hbl'))
   go_wp2_with fail
   refine HW.out.mono ?_;rintro e w2 ⟨rfl,rfl⟩
   go_wp2_with fail
   go_ret3
   exact⟨by rw[HRN.out];rfl,hbl'⟩
 |ok p=>
  obtain⟨n,z⟩:=p;rw[hr]at hp;have hrn:z35 s a=some (n,a+z):=by simp[z35,hr]
  have HRN:=Lib.hid hrn;clear hr hrn;obtain⟨rfl,hgr,hbk⟩:=hp;have hbl':=below_new hgr;have HW:=Lib.hid (wrong_nil w' a0 a1 (HG.out.ext hbl'));have c1:w'.cell? ⟨w.heap.size,0+1,none⟩=some (.int .i64 (a+z)):=z32 hbk 1
  go_wp2_with fail
  refine HW.out.mono ?_;rintro e w2 ⟨rfl,rfl⟩
  go_wp2_with fail
  refine z28 5 hmix (by kernel_rfl) ?_;simp only[List.take_succ_cons,List.take_zero,List.drop_succ_cons,List.drop_zero]
  iterate 5 still_step
  refine wpStill_nil ?_
  go_wp2_with fail
  go_ret3
  exact⟨by rw[HRN.out];rfl,hbl'.drew⟩
theorem Text_any(s:List UInt8)(w:World)(hs:s.length≤9223372036854775807):
  Calls Tryz.prog 93 #[.string (str s)] w fun e w'=>
   e=.returned (textRes s)∧Below w.heap.size w w':=by
 by_cases hl:s.length≤10000
 ·have hnl:=z16 (s.length:Int)
  go_enter Tryz.func93,Tryz.ntmps93
  go_wp2_with fail
  refine(Num_any _ (by omega) (by omega) _).mono ?_;rintro e w2 ⟨rfl,hb2⟩
  go_wp2_with fail
  go_ret2
  exact⟨by rw[textRes,if_pos hl];rfl,hb2⟩
 ·go_enter Tryz.func93,Tryz.ntmps93
  go_wp2_with fail
  go_ret2
  exact⟨by rw[textRes,if_neg hl];rfl,Below.refl _ _⟩
def z58(s:List UInt8)(a:Int)(b:Nat)(a0 a1:Addr)(w:World)(e:Ending)(w':World):Prop:=
 match rdW s a with
 | .ok (t,z)=>e=.returned (.tuple #[.string (str t),.nilIface])∧w.grownBy w' (some b)∧w'.heap[b]?=some (.cells #[.string (str s),.int .i64 z] 250 (0,0))
 | .error false=>e=.returned (.tuple #[.string (str []),.iface 352 (.pointer (some a0))])∧w.grownBy w' (some b)
 | .error true=>e=.returned (.tuple #[.string (str []),.iface 352 (.pointer (some a1))])∧w.grownBy w' (some b)
theorem z125{w w':World}{r:Option Nat}(h:Below w.heap.size w w'):w.grownBy w' r:=⟨h.os,h.tape,h.output,h.size,fun k hk _=>h.block k hk⟩
theorem z85{w w':World}{r:Option Nat}(h:w.grownBy w' r):w.grownBy w'.drew r:=⟨h.os,h.tape,h.output,h.size,h.block⟩
theorem grown_trans{w w' w2:World}{r:Option Nat}(h:w.grownBy w' r)(h2:w'.grownBy w2 r):w.grownBy w2 r:=
 ⟨h2.os.trans h.os,h2.tape.trans h.tape,h2.output.trans h.output,Nat.le_trans h.size h2.size,fun k hk hn=>(h2.block k (Nat.lt_of_lt_of_le hk h.size) hn).trans (h.block k hk hn)⟩
set_option maxHeartbeats 1000000 in
set_option maxRecDepth 100000 in
theorem words_any(s:List UInt8)(a:Int)(b:Nat)(a0 a1:Addr)(w:World)(hs:s.length<1125899906842624)(ha0: -9223372036854775808≤a)(ha1:a≤9223372036854775807)
  (hG:Glob w a0 a1) (hb:w.heap[b]?=some (.cells #[.string (str s),.int .i64 a] 250 (0,0))) (hbG:2≠b∧3≠b):
  Calls Tryz.prog 184 #[.pointer (some ⟨b,0,none⟩)] w (z58 s a b a0 a1 w):=by
 have hmix:Tryz.prog.follows .mixedOrders=true:=by kernel_rfl
 have HN:=Lib.hid (number_any s a b a0 a1 w hs ha0 ha1 hG hb);have HG:=Lib.hid hG;have HB:=Lib.hid hb;clear hG hb
 go_enter Tryz.func184,Tryz.ntmps184
 go_wp2_with fail
 refine HN.out.mono ?_;intro e w' hp;unfold NumPost at hp;cases hr:rd s a with
 |error t=>
  rw[hr]at hp;have hrn:rdW s a=.error t:=by simp[rdW,hr]
  have HRN:=Lib.hid hrn;clear hr hrn;cases t
  ·obtain⟨rfl,hbl⟩:=hp
   go_wp2_with fail
   go_ret2
   unfold z58;rw[HRN.out];exact⟨rfl,z125 hbl⟩
  ·obtain⟨rfl,hbl⟩:=hp
   go_wp2_with fail
   go_ret2
   unfold z58;rw[HRN.out];exact⟨rfl,z125 hbl⟩
 |ok p=>
  obtain⟨n,z⟩:=p;rw[hr]at hp;have hbd:=rd_bound hr;have HR:=Lib.hid hr;clear hr;obtain⟨rfl,hgr,hbk⟩:=hp;have e0:=(World.cell?_of_block (w:=w) (a:=⟨2,0,none⟩) (hgr.block 2 (z33 HG.out.e0) (by simpa using hbG.1))).trans HG.out.e0;have e1:=(World.cell?_of_block (w:=w) (a:=⟨3,0,none⟩) (hgr.block 3 (z33 HG.out.e1) (by simpa using hbG.2))).trans HG.out.e1;have d0:w'.cell? ⟨b,0,none⟩=some (.string (str s)):=z32 hbk 0;have d1:w'.cell? ⟨b,0+1,none⟩=some (.int .i64 (a+z)):=z32 hbk 1;have d2:w'.frozen? ⟨b,0+1,none⟩=false:=blk_frozen hbk 1;have HBK:=Lib.hid hbk;clear hbk;by_cases hbad:n<0∨10000<n
  ·have HRN:Hid (rdW s a=.error true):=by show _=_;unfold rdW;rw[HR.out];exact if_pos hbad
   have HBD:=Lib.hid hbad;clear hbad;by_cases hn0:n<0
   ·go_wp2_with fail
    go_region
    go_wp2_with fail
    go_ret2
    unfold z58;rw[HRN.out];exact⟨rfl,z85 hgr⟩
   ·have hn1:10000<n:=by have:=HBD.out;omega
    go_wp2_with fail
    go_region
    go_wp2_with fail
    go_ret2
    unfold z58;rw[HRN.out];exact⟨rfl,z85 hgr⟩
  ·have hn0:0≤n:=by omega
   have hn1:n≤10000:=by omega
   clear hbad;by_cases hfit:(s.length:Int) - (a+z)<n
   ·have HRN:Hid (rdW s a=.error false):=by
     show _=_;unfold rdW;rw[HR.out];dsimp only;rw[if_neg (by omega),if_pos hfit]
    have hhas:∀W,Calls Tryz.prog 236 #[.string (str s),.int .i64 (a+z),.int .i64 n] W fun e w'=>e=.returned (.bool false)∧w'=W:=fun W=>by
     have:=has_any s (a+z) n W (by omega) (by omega) (by omega)
     rwa [decide_eq_false (by omega)]at this
    have HH:=Lib.hid hhas;clear hhas
    go_wp2_with fail
    refine z28 10 hmix (by kernel_rfl) ?_;simp only[List.take_succ_cons,List.take_zero,List.drop_succ_cons,List.drop_zero]
    iterate 9 still_step
    still_call (HH.out _)
    refine wpStill_nil ?_
    go_wp2_with fail
    go_region
    all_goals go_wp2_with fail
    all_goals go_ret2
    all_goals unfold z58
    all_goals rw[HRN.out]
    all_goals exact⟨rfl,z85 (z85 hgr)⟩
   ·have HRN:Hid (rdW s a=.ok ((s.drop (a+z).toNat).take n.toNat,a+z+n)):=by
     show _=_;unfold rdW;rw[HR.out];dsimp only;rw[if_neg (by omega),if_neg hfit]
    have hhas:∀W,Calls Tryz.prog 236 #[.string (str s),.int .i64 (a+z),.int .i64 n] W fun e w'=>e=.returned (.bool true)∧w'=W:=fun W=>by
     have:=has_any s (a+z) n W (by omega) (by omega) (by omega)
     rwa [decide_eq_true (by omega)]at this
    have HH:=Lib.hid hhas;clear hhas
    go_wp2_with fail
    refine z28 10 hmix (by kernel_rfl) ?_;simp only[List.take_succ_cons,List.take_zero,List.drop_succ_cons,List.drop_zero]
    iterate 9 still_step
    still_call (HH.out _)
    refine wpStill_nil ?_
    go_wp2_with fail
    have hb3:(w'.setCell ⟨b,1,none⟩ (.int .i64 (a+z+n))).heap[b]?=some (.cells #[.string (str s),.int .i64 (a+z+n)] 250 (0,0)):=by
     have:=HBK.out;simp[World.setCell,Array.getElem?_modify,this]
    have hg3:w.grownBy (w'.setCell ⟨b,1,none⟩ (.int .i64 (a+z+n))) (some b):=grown_trans hgr ⟨rfl,rfl,rfl,by simp,fun k _ hk=>Below.heap_setCell _ _ _ k (fun e=>hk (by rw[e]))⟩;obtain⟨W3,hW3⟩:∃W3,(w'.setCell ⟨b,1,none⟩ (.int .i64 (a+z+n)))=W3:=⟨_,rfl⟩
    rw[hW3]at hb3 hg3 ⊢;clear hW3 d0 d1 d2 hgr e0 e1;have d0:W3.cell? ⟨b,0,none⟩=some (.string (str s)):=z32 hb3 0;have d1:W3.cell? ⟨b,0+1,none⟩=some (.int .i64 (a+z+n)):=z32 hb3 1;have HB3:=Lib.hid hb3;clear hb3;have hw1:IntKind.i64.wrap (a+z)=a+z:=IntWalk.i64_in _ (by omega);have hw5:(0:Int)≤a+z+n:=by omega
    have hw2:(0:Int)≤a+z:=by omega
    have hw3:a+z≤a+z+n:=by omega
    have hw4:a+z+n≤s.length:=by omega
    refine z28 16 hmix (by kernel_rfl) ?_;simp only[List.take_succ_cons,List.take_zero,List.drop_succ_cons,List.drop_zero]
    iterate 16 still_step
    refine wpStill_nil ?_;clear hw1
    go_wp2_with fail
    go_ret2
    unfold z58;rw[HRN.out];refine⟨?_,z85 (z85 hg3),HB3.out⟩;have e1:(a+z+n).toNat-(a+z).toNat=n.toNat:=by omega
    simp[e1]
theorem glob_lt{w:World}{a0 a1:Addr}(hG:Glob w a0 a1):2≠w.heap.size∧3≠w.heap.size:=by
 have h0:=z33 hG.e0;have h1:=z33 hG.e1
 dsimp only at h0 h1
 omega
set_option maxRecDepth 10000 in
theorem ReadText_any(s:List UInt8)(a:Int)(a0 a1:Addr)(w:World)(hs:s.length<1125899906842624)(ha0: -9223372036854775808≤a)(ha1:a≤9223372036854775807)(hG:Glob w a0 a1):
  Calls Tryz.prog 125 #[.string (str s),.int .i64 a] w fun e w'=>e=.returned (readRes (z29 s a))∧Below w.heap.size w w':=by
 have hmix:Tryz.prog.follows .mixedOrders=true:=by kernel_rfl
 have hB1:Below w.heap.size w (w.alloc (.cells #[.string (str s),.int .i64 a] 250)):=(Below.refl _ _).alloc (Nat.le_refl _) _;have hG1:=hG.ext hB1;have HN:=Lib.hid (words_any s a w.heap.size a0 a1 _ hs ha0 ha1 hG1 (blk_new w 250 #[.string (str s),.int .i64 a]) (glob_lt hG));have HG:=Lib.hid hG;clear hG hG1
 go_enter Tryz.func125,Tryz.ntmps125
 go_wp2_with fail
 refine HN.out.mono ?_;intro e w' hp;unfold z58 at hp;cases hr:rdW s a with
 |error t=>
  rw[hr]at hp;have hrn:z29 s a=none:=by simp[z29,hr]
  have HRN:=Lib.hid hrn;clear hr hrn;cases t
  ·obtain⟨rfl,hgr⟩:=hp;have hbl':=below_new hgr;have HW:=Lib.hid (wrong_end w' a0 a1 (HG.out.ext hbl'))
   go_wp2_with fail
   refine HW.out.mono ?_;rintro e w2 ⟨rfl,rfl⟩
   go_wp2_with fail
   go_ret3
   exact⟨by rw[HRN.out];rfl,hbl'⟩
  ·obtain⟨rfl,hgr⟩:=hp;have hbl':=below_new hgr;have HW:=Lib.hid (wrong_form w' a0 a1 (HG.out.ext hbl'))
   go_wp2_with fail
   refine HW.out.mono ?_;rintro e w2 ⟨rfl,rfl⟩
   go_wp2_with fail
   go_ret3
   exact⟨by rw[HRN.out];rfl,hbl'⟩
 |ok p=>
  obtain⟨t,z⟩:=p;rw[hr]at hp;have hrn:z29 s a=some (t,z):=by simp[z29,hr]
  have HRN:=Lib.hid hrn;clear hr hrn;obtain⟨rfl,hgr,hbk⟩:=hp;have hbl':=below_new hgr;have HW:=Lib.hid (wrong_nil w' a0 a1 (HG.out.ext hbl'));have c1:w'.cell? ⟨w.heap.size,0+1,none⟩=some (.int .i64 z):=z32 hbk 1
  go_wp2_with fail
  refine HW.out.mono ?_;rintro e w2 ⟨rfl,rfl⟩
  go_wp2_with fail
  refine z28 5 hmix (by kernel_rfl) ?_;simp only[List.take_succ_cons,List.take_zero,List.drop_succ_cons,List.drop_zero]
  iterate 5 still_step
  refine wpStill_nil ?_
  go_wp2_with fail
  go_ret3
  exact⟨by rw[HRN.out];rfl,hbl'.drew⟩
end Go.Proofs.YtcpaleaajdilgaaGreatDoor
end

section
namespace Go.Proofs.YtcpaleaajdilgaaGreatDoor
open Go Go.RowKit Go.Mor Go.Sh
structure GlobN(a0 a1:Addr)(n:Nat)(w:World):Prop where
 g:Glob w a0 a1
 sz:n≤w.heap.size
 h0:a0.block<n
 h1:a1.block<n
 hv:10≤n
def gl(a0 a1:Addr)(n:Nat):Sh.Glob where
 G:=GlobN a0 a1 n
 n:=n
 st:=fun w w' h hk=>by
  have hv:=h.hv;refine⟨⟨globU_st h.hv h.g.toGlobU hk,?_,?_,h.g.ne,?_,?_⟩,size_st h.sz hk,h.h0,h.h1,h.hv⟩
  ·rw[World.cell?_of_block (w:=w) (hk _ (show 2<n by omega))];exact h.g.e0
  ·rw[World.cell?_of_block (w:=w) (hk _ (show 3<n by omega))];exact h.g.e1
  ·rw[hk _ h.h0];exact h.g.b0
  ·rw[hk _ h.h1];exact h.g.b1
 le:=fun w h=>h.sz
theorem sc_up{a0 a1:Addr}{m f:Nat}{xs:List TV}{os:List MO}{y:TV}{os':List MO}(h:SCalls Tryz.prog (gl0 m) f xs os y os'):SCalls Tryz.prog (gl a0 a1 m) f xs os y os':=
 sc_of (g:=gl0 m) (g':=gl a0 a1 m) rfl (fun w (hG:GlobN a0 a1 m w)=>(⟨hG.g.toGlobU,hG.sz,hG.hv⟩:GlobN0 m w)) h
def numTV(r:Option (Int×Int)):TV:=match r with|some (n,b)=> .tuple [I n,I b,I 0]|none=> .tuple [I 0,I 0,I 10]
def readTV(r:Option (List UInt8×Int)):TV:=match r with|some (t,b)=> .tuple [S (str t),I b,I 0]|none=> .tuple [S (str []),I 0,I 10]
def textTV(s:List UInt8):TV:=if s.length≤10000 then .tuple [S (str (text s)),I 0] else .tuple [S (str []),I 10]
def prim1:Oracle:=fun f xs os=>
 if Nat.beq f 64 then match xs,os with
  |[.pv (.v (.int .i64 x))],[]=>if in64 x then some (S (str (num x)),[])else none
  |_,_=>none
 else if Nat.beq f 124 then match xs,os with
  |[.pv (.v (.string s)),.pv (.v (.int .i64 a))],[]=>if in64 a&&decide ((bl s).length<1125899906842624)then some (numTV (z35 (bl s) a),[])else none
  |_,_=>none
 else if Nat.beq f 93 then match xs,os with
  |[.pv (.v (.string s))],[]=>if decide ((bl s).length≤9223372036854775807)then some (textTV (bl s),[])else none
  |_,_=>none
 else if Nat.beq f 125 then match xs,os with
  |[.pv (.v (.string s)),.pv (.v (.int .i64 a))],[]=>if in64 a&&decide ((bl s).length<1125899906842624)then some (readTV (z29 (bl s) a),[])else none
  |_,_=>none
 else prim0 f xs os
theorem z91(a0 a1:Addr)(n:Nat):SoundC Tryz.prog (gl a0 a1 n) prim1:=by
 intro f xs os y os' h;unfold prim1 at h;split at h
 ·rename_i hf;obtain rfl:=Nat.eq_of_beq_eq_true hf;split at h<;>try(cases h;done)
  rename_i x;split at h<;>try(cases h;done)
  rename_i hx;cases h;obtain⟨h1,h2⟩:=in64_spec hx;exact z59 (vs:=[.int .i64 x]) (z80 (by kernel_rfl)) (fun w E r=> .pv (.v _)) (fun w _=>Num_any x h1 h2 w)
 split at h
 ·rename_i hf;obtain rfl:=Nat.eq_of_beq_eq_true hf;split at h<;>try(cases h;done)
  rename_i s a;split at h<;>try(cases h;done)
  rename_i hx;cases h;rw[Bool.and_eq_true]at hx;obtain⟨h1,h2⟩:=in64_spec hx.1;refine z59 (vs:=[.string s,.int .i64 a]) (v:=numRes (z35 (bl s) a)) (z80 (by kernel_rfl)) (fun w E r=> ?_) (fun w hG=> ?_)
  ·generalize z35 (bl s) a=q;cases q with
   |none=>exact z99 [_,_,_]
   |some p=>exact z99 [_,_,_]
  ·have:=ReadNum_any (bl s) a a0 a1 w (by simpa using hx.2) h1 h2 hG.g;rw[str_bl]at this;exact this
 split at h
 ·rename_i hf;obtain rfl:=Nat.eq_of_beq_eq_true hf;split at h<;>try(cases h;done)
  rename_i s;split at h<;>try(cases h;done)
  rename_i hx;cases h;refine z59 (vs:=[.string s]) (v:=textRes (bl s)) (z80 (by kernel_rfl)) (fun w E r=> ?_) (fun w hG=> ?_)
  ·unfold textRes textTV;split<;>exact z99 [_,_]
  ·have:=Text_any (bl s) w (by simpa using hx);rw[str_bl]at this;exact this
 split at h
 ·rename_i hf;obtain rfl:=Nat.eq_of_beq_eq_true hf;split at h<;>try(cases h;done)
  rename_i s a;split at h<;>try(cases h;done)
  rename_i hx;cases h;rw[Bool.and_eq_true]at hx;obtain⟨h1,h2⟩:=in64_spec hx.1;refine z59 (vs:=[.string s,.int .i64 a]) (v:=readRes (z29 (bl s) a)) (z80 (by kernel_rfl)) (fun w E r=> ?_) (fun w hG=> ?_)
  ·generalize z29 (bl s) a=q;cases q with
   |none=>exact z99 [_,_,_]
   |some p=>exact z99 [_,_,_]
  ·have:=ReadText_any (bl s) a a0 a1 w (by simpa using hx.2) h1 h2 hG.g;rw[str_bl]at this;exact this
 exact sc_up (prim0_sound n _ _ _ _ _ h)
structure GlobNA(a0 a1:Addr)(n:Nat)(w:World):Prop extends GlobN a0 a1 n w where
 t:GlobT w
def glA(a0 a1:Addr)(n:Nat):Sh.Glob where
 G:=GlobNA a0 a1 n
 n:=n
 st:=fun w w' h hk=>⟨(gl a0 a1 n).st w w' h.toGlobN hk,globT_st h.hv h.t hk⟩
 le:=fun w h=>h.sz
theorem sc_1A{a0 a1:Addr}{m f:Nat}{xs:List TV}{os:List MO}{y:TV}{os':List MO}(h:SCalls Tryz.prog (gl a0 a1 m) f xs os y os'):SCalls Tryz.prog (glA a0 a1 m) f xs os y os':=
 sc_of (g:=gl a0 a1 m) (g':=glA a0 a1 m) rfl (fun w (hG:GlobNA a0 a1 m w)=>hG.toGlobN) h
theorem sc_TA{a0 a1:Addr}{m f:Nat}{xs:List TV}{os:List MO}{y:TV}{os':List MO}(h:SCalls Tryz.prog (glT m) f xs os y os'):SCalls Tryz.prog (glA a0 a1 m) f xs os y os':=
 sc_of (g:=glT m) (g':=glA a0 a1 m) rfl (fun w (hG:GlobNA a0 a1 m w)=>(⟨⟨hG.g.toGlobU,hG.sz,hG.hv⟩,hG.t⟩:GlobNT m w)) h
end Go.Proofs.YtcpaleaajdilgaaGreatDoor
end

section
namespace Go.Proofs.YtcpaleaajdilgaaGreatDoor
open Go.ChangeShapes Go.WideShapes Go.ChangeAt Go.RowKit Go.Lib Go.Mor Go.Deep
open Go.ChangeMaps (open_string shut_string)
abbrev laidLUTW:List (String×DataW Unit):=[("math/bits.deBruijn32tab",Rows.laid_math_bits_deBruijn32tab),("math/bits.deBruijn64tab",Rows.laid_math_bits_deBruijn64tab),("internal/strconv.uint64pow10",Rows.laid_internal_strconv_uint64pow10),("unicode/utf8.acceptRanges",Rows.laid_unicode_utf8_acceptRanges),("moraine/wire.errEnd",Rows.laid_moraine_wire_errEnd),("moraine/wire.errForm",Rows.laid_moraine_wire_errForm),("unicode/utf8.first",Rows.laid_unicode_utf8_first)]
theorem pow_eq:(Rows.laid_internal_strconv_uint64pow10:DataW Unit)=Lib.tabData .u64 Lib.pow10Tab:=by kernel_rfl
theorem mx_of{W:World}(h:W.ShapedOpen Tryz.prog):∃k,W.cell? ⟨4,0,none⟩=some (.int .i64 k):=
 cell_of_shapedOpen_int (zero:= #[.int .i64 0]) (t:=3) h (of_decide_eq_true (by kernel_rfl)) (by kernel_rfl) rfl (by kernel_rfl) (by kernel_rfl) Tryz.underlying3
theorem star: "*" ++ "errors.errorString" = "*errors.errorString" :=by decide
theorem rowErr(u:TypeId)(h:Tryz.prog.typeName? 3 u=some "*errors.errorString"):u=352:=
 typeName_ptr_named (nm:= "errors.errorString") (by rw[star];kernel_rfl) (by kernel_rfl) (by decide) u (by rw[star];exact h)
theorem glob_of_laidUTW{W:World}(hL:laidMetH Tryz.prog laidLUTW W)(hsh:W.ShapedOpen Tryz.prog):∃a0 a1,(glA a0 a1 W.heap.size).G W:=by
 have hL':laidMet Tryz.prog laidLUTW W:=hL;have hU:=globU_of hL' (.tail _ (.tail _ (.tail _ (.tail _ (.tail _ (.tail _ (.head _))))))) (.tail _ (.tail _ (.tail _ (.head _))));have hv:=hv_of hsh;have hT:GlobT W:=⟨Lib.tabIs_of_head pow10_named (t:=326) (by kernel_rfl) Tryz.underlying326 Tryz.underlying247 (by kernel_rfl) (by kernel_rfl) (by have h:=hL'.tail.tail;rw[pow_eq]at h;exact h),mx_of hsh⟩
 obtain⟨a0,a1,s0,s1,c0,c1,t0,t1,hv0,hv1,_,_,_,_,_,_,hne,hb0,hb1⟩:=laid_sentinels2 (g0:=2) (g1:=3) (ti:=242) (tp:=352) (te:=354) (ts:=9) hL'.tail.tail.tail.tail (by kernel_rfl) (by kernel_rfl) (by kernel_rfl) (by kernel_rfl)
  Tryz.underlying242 rowErr Tryz.underlying352 Tryz.underlying354 rfl rfl Tryz.underlying9 (by kernel_rfl) (by kernel_rfl)
 have hG:Glob W a0 a1:=by
  refine⟨hU,?_,?_,hne,⟨c0,t0,hb0⟩,⟨c1,t1,hb1⟩⟩
  ·have:=World.var?_cell (g:=2) (by kernel_rfl) hv0 0;simpa using this
  ·have:=World.var?_cell (g:=3) (by kernel_rfl) hv1 0;simpa using this
 have hN:GlobN a0 a1 W.heap.size W:=⟨hG,Nat.le_refl _,heap_lt hb0,heap_lt hb1,hv⟩
 exact⟨a0,a1,(⟨hN,hT⟩:GlobNA a0 a1 W.heap.size W)⟩
theorem laid_metUTW(os:Os)(args:Array Value):laidMet Tryz.prog laidLUTW ((laidWorld os).forCall (fun _ _=>0) ⟨#[],args,[]⟩).memory:=
 (LaidIn.of_run [8,9,5,1,2,N0,3,N0+1,0] 8 (by kernel_rfl) (by kernel_rfl) (by kernel_rfl) (by kernel_rfl)).met
end Go.Proofs.YtcpaleaajdilgaaGreatDoor
end

section
namespace Go.Sh.Cd4
open Go Go.Sh
set_option maxRecDepth 100000
abbrev c_24_0:=kV [2] [kO 2 0,kT 4 false] [0,4]
abbrev c_24_1:=kV [2124,2125,2126,2127] [oD 31 (.call 11 0 []),oM 5 31] [31]
abbrev c_24_2:=kR [oM 32 5,kN 33 32] [32]
abbrev c_24_3:=kR [kT 4 false] [1,2,5,33]
abbrev c_24_4:=kV [2140,2141,2142,2143,6] [oL 34 true 2 2,kC 35 12 0 34,oD 6 (.new [(.string ⟨#[]⟩),(.slice none 0 0)]),kS 2 6 35] [2,4,33,34,35]
abbrev c_24_5:=kV [2152,2153,2154,2155] [oL 36 true 2 6,oM 37 1,oD 38 (.call 13 0 [.tmp 36,.tmp 37,vI 6]),oM 7 38] [1,36,37,38]
abbrev c_24_6:=kR [oD 8 (.mov (.val (.string ⟨#[]⟩)))] []
abbrev c_24_7:=kR [kI 9 0] []
abbrev c_24_8:=kR [oM 39 9,oM 40 7,kZ 41 40,kB 42 .lss 3 39 41] [39,40,41]
abbrev c_24_9:=kV [2200,2201,2202,2203] [oM 46 7,oM 47 9,kX 48 4 46 47,oL 49 true 4 48,kC 50 14 0 49,oM 45 50,kY 51 45 0,kY 52 45 1,oM 10 51,oM 11 52] [42,45,46,47,48,49,50,51,52]
abbrev c_24_10:=kR [oM 53 11,kK 54 .neq 33 53 0] [11,53]
abbrev c_24_11:=kR [kT 4 false] [5,6,7,8,9,10,54]
abbrev c_24_12:=kR [oM 55 8,oM 56 10,kB 57 .add 9 55 56,oM 8 57] [4,10,54,55,56,57]
abbrev c_24_13:=kR [oM 43 9,kK 44 .add 3 43 1,oM 9 44] [43,44]
abbrev c_24_14:SCode:=(.seq (.seq c_24_8 (.cond (.tmp 42) .skip (.exit 0))) (.seq (.block 1 (.seq c_24_9 (.seq (.seq c_24_10 (.cond (.tmp 54) (.seq c_24_11 .ret) .skip)) c_24_12))) c_24_13))
abbrev c_24_15:=kR [oD 12 (.mov (.val (.slice none 0 0)))] [9]
abbrev c_24_16:=kR [oD 13 (.mov (.val (.slice none 0 0)))] []
abbrev c_24_17:=kR [kI 14 0] []
abbrev c_24_18:=kR [kI 15 0] []
abbrev c_24_19:=kR [oM 58 15,oM 59 7,kZ 60 59,kB 61 .lss 3 58 60] [58,59,60]
abbrev c_24_20:=kV [2268,2269,2270,2271,16] [oM 65 8,oM 66 14,kD 67 15 0 65 66,oM 64 67,kY 68 64 0,kY 69 64 1,kY 70 64 2,oD 16 (.new zV),kS 4 16 68,oM 17 69,oM 18 70] [14,61,64,65,66,67,68,69,70]
abbrev c_24_21:=kV [2304,2305,2306,2307] [oM 72 7,oM 73 15,kX 74 4 72 73,oL 75 true 4 74,kC 76 16 0 75,oM 71 76,kY 77 71 0,kY 78 71 1,oM 19 77,oM 20 78] [71,72,73,74,75,76,77,78]
abbrev c_24_22:=kV [2328,2329,2330,2331,21] [oM 80 19,oD 81 (.bin .add 9 (.val (.string ⟨#[91,32]⟩)) (.tmp 80)),oD 82 (.call 17 0 [.tmp 81,vI 2]),oM 79 82,kY 83 79 0,kY 84 79 1,kY 85 79 2,oD 21 (.new zV),kS 4 21 83,oM 22 84,oM 23 85] [79,80,81,82,83,84,85]
abbrev c_24_23:=kV [2436,2437,2438,2439] [oM 86 18,kK 87 .neq 33 86 0,oM 88 87,oH 89 88 false 20,kG 90 88 false .neq 33 89 0,oQ 91 88 90 true,oM 92 91,oH 93 92 false 23,kG 94 92 false .neq 33 93 0,oQ 95 92 94 true,oM 96 95,oH 97 96 false 22,oH 98 96 false 19,oG 99 96 false (.slen (.tmp 98)),oG 100 96 false (.bin .add 3 (vI 2) (.tmp 99)),kH 101 96 false .neq 3 97 100,oQ 102 96 101 true,oM 103 102,kL 104 103 false true 4 16,oH 105 103 false 7,oH 106 103 false 15,oG 107 103 false (.idxA 4 (.tmp 105) (.tmp 106)),kL 108 103 false true 4 107,oG 109 103 false (.call 18 0 [.tmp 104,.tmp 108]),oG 110 103 false (.un .not (.tmp 109)),oQ 111 103 110 true] [18,19,20,22,23,86,87,88,89,90,91,92,93,94,95,96,97,98,99,100,101,102,103,104,105,106,107,108,109,110]
abbrev c_24_24:=kR [kT 4 false] [5,6,7,8,12,13,15,16,17,21,111]
abbrev c_24_25:=kR [oM 112 17,oM 14 112] [4,17,111,112]
abbrev c_24_26:SCode:=.reg [([],[oM 113 12,oL 114 true 4 16,oD 115 (.bsl 4 [.tmp 114]),oD 116 (.app 37 4 56 (.tmp 113) (.tmp 115)),oM 12 116]),([116],[oM 113 12,oL 114 true 4 16,oD 115 (.bsl 4 [.tmp 114]),oD 116 (.appN 37 4 56 (.tmp 113) (.tmp 115)),oM 12 116])] [16,113,114,115,116]
abbrev c_24_27:SCode:=.reg [([],[oM 117 13,oL 118 true 4 21,oD 119 (.bsl 4 [.tmp 118]),oD 120 (.app 37 4 56 (.tmp 117) (.tmp 119)),oM 13 120]),([120],[oM 117 13,oL 118 true 4 21,oD 119 (.bsl 4 [.tmp 118]),oD 120 (.appN 37 4 56 (.tmp 117) (.tmp 119)),oM 13 120])] [21,117,118,119,120]
abbrev c_24_28:=kR [oM 62 15,kK 63 .add 3 62 1,oM 15 63] [62,63]
abbrev c_24_29:SCode:=(.seq (.seq c_24_19 (.cond (.tmp 61) .skip (.exit 2))) (.seq (.block 3 (.seq c_24_20 (.seq c_24_21 (.seq c_24_22 (.seq (.seq c_24_23 (.cond (.tmp 111) (.seq c_24_24 .ret) .skip)) (.seq c_24_25 (.seq c_24_26 c_24_27))))))) c_24_28))
abbrev c_24_30:=kV [2496,2497,2498,2499] [oL 122 true 2 6,oM 123 12,kD 124 19 0 122 123,oM 121 124,kY 125 121 0,kY 126 121 1,oM 24 125,oM 25 126] [12,15,24,121,122,123,124,125,126]
abbrev c_24_31:=kV [2520,2521,2522,2523] [oL 128 true 2 6,oM 129 13,kD 130 19 0 128 129,oM 127 130,kY 131 127 0,kY 132 127 1,oM 26 131,oM 27 132] [6,26,127,128,129,130,131,132]
abbrev c_24_32:=kR [kI 28 0] []
abbrev c_24_33:=kR [oM 133 28,oM 134 13,kZ 135 134,kB 136 .lss 3 133 135] [133,134,135]
abbrev c_24_34:=kV [2572,2573,2574,2575] [oM 139 13,oM 140 28,kX 141 4 139 140,oL 142 true 4 141,kC 143 20 0 142,oM 29 143] [136,139,140,141,142,143]
abbrev c_24_35:=kV [2592,2593,2594,2595] [oM 144 7,oM 145 28,kX 146 4 144 145,oL 147 true 4 146,kC 148 20 0 147,oM 30 148] [144,145,146,147,148]
abbrev c_24_36:=kV [2636,2637,2638,2639,2660,2661,2662,2663] [oM 149 29,kZ 150 149,oM 151 30,kZ 152 151,kB 153 .neq 3 150 152,oM 154 153,oH 155 154 false 13,oH 156 154 false 28,oG 157 154 false (.idxA 4 (.tmp 155) (.tmp 156)),kL 158 154 false true 4 157,oG 159 154 false (.call 21 0 [.tmp 158]),oG 160 154 false (.len (.tmp 159)),oH 161 154 false 7,oH 162 154 false 28,oG 163 154 false (.idxA 4 (.tmp 161) (.tmp 162)),kL 164 154 false true 4 163,oG 165 154 false (.call 21 0 [.tmp 164]),oG 166 154 false (.len (.tmp 165)),kH 167 154 false .neq 3 160 166,oQ 168 154 167 true] [29,30,149,150,151,152,153,154,155,156,157,158,159,160,161,162,163,164,165,166,167]
abbrev c_24_37:=kR [kT 4 false] [5,7,8,13,14,25,27,28,168]
abbrev c_24_38:=kR [oM 137 28,kK 138 .add 3 137 1,oM 28 138] [4,137,138,168]
abbrev c_24_39:SCode:=(.seq (.seq c_24_33 (.cond (.tmp 136) .skip (.exit 4))) (.seq (.block 5 (.seq c_24_34 (.seq c_24_35 (.seq c_24_36 (.cond (.tmp 168) (.seq c_24_37 .ret) .skip))))) c_24_38))
abbrev c_24_40:=kR [oM 169 5,oM 170 169,oH 171 170 true 14,oH 172 170 true 8,oG 173 170 true (.slen (.tmp 172)),kH 174 170 true .eql 3 171 173,oP 175 170 174 false,oM 176 175,oH 177 176 true 25,kG 178 176 true .eql 33 177 0,oP 179 176 178 false,oM 180 179,oH 181 180 true 27,kG 182 180 true .eql 33 181 0,oP 183 180 182 false,oM 4 183] [5,7,8,13,14,25,27,28,169,170,171,172,173,174,175,176,177,178,179,180,181,182,183]
abbrev F_24:SFunc:=⟨184,(.seq c_24_0 (.seq c_24_1 (.seq (.seq c_24_2 (.cond (.tmp 33) (.seq c_24_3 .ret) .skip)) (.seq c_24_4 (.seq c_24_5 (.seq c_24_6 (.seq (.seq c_24_7 (.block 0 (.loop c_24_14))) (.seq c_24_15 (.seq c_24_16 (.seq c_24_17 (.seq (.seq c_24_18 (.block 2 (.loop c_24_29))) (.seq c_24_30 (.seq c_24_31 (.seq (.seq c_24_32 (.block 4 (.loop c_24_39))) (.seq c_24_40 .ret))))))))))))))),[.tmp 4],false⟩
theorem tf_24:z6 Go.Proofs.Tryz.prog 3 (hintT [(31,0),(35,0),(38,0),(50,0),(67,0),(76,0),(82,0),(109,0),(115,0),(119,0),(124,0),(130,0),(143,0),(148,0),(159,0),(165,0)]) (fpT []) (killT [(0,[0,4]),(1,[31]),(2,[32]),(3,[1,2,5,33]),(4,[2,4,33,34,35]),(5,[1,36,37,38]),(8,[39,40,41]),(10,[42,45,46,47,48,49,50,51,52]),(11,[11,53]),(12,[5,6,7,8,9,10,54]),(13,[4,10,54,55,56,57]),(9,[43,44]),(14,[9]),(18,[58,59,60]),(20,[14,61,64,65,66,67,68,69,70]),(21,[71,72,73,74,75,76,77,78]),(22,[79,80,81,82,83,84,85]),(23,[18,19,20,22,23,86,87,88,89,90,91,92,93,94,95,96,97,98,99,100,101,102,103,104,105,106,107,108,109,110]),(24,[5,6,7,8,12,13,15,16,17,21,111]),(25,[4,17,111,112]),(26,[16,113,114,115,116]),(27,[21,117,118,119,120]),(19,[62,63]),(28,[12,15,24,121,122,123,124,125,126]),(29,[6,26,127,128,129,130,131,132]),(31,[133,134,135]),(33,[136,139,140,141,142,143]),(34,[144,145,146,147,148]),(35,[29,30,149,150,151,152,153,154,155,156,157,158,159,160,161,162,163,164,165,166,167]),(36,[5,7,8,13,14,25,27,28,168]),(32,[4,137,138,168]),(37,[5,7,8,13,14,25,27,28,169,170,171,172,173,174,175,176,177,178,179,180,181,182,183])]) false=some F_24:=by kernel_rfl
abbrev c_27_0:=kR [kT 0 false] [0]
abbrev c_27_1:=kV [1] [oD 23 (.build [(.int .i64 0),(.int .i64 0)] [(0,1,(vI 1))]),oD 24 (.build [(.string ⟨#[]⟩),(.int .i64 0),(.int .i64 0),(.bool false)] [(0,1,(.val (.string ⟨#[97]⟩))),(1,2,(.tmp 23)),(3,1,(.val (.bool true)))]),oD 25 (.build [(.int .i64 0),(.int .i64 0)] [(0,1,(vI 3))]),oD 26 (.build [(.string ⟨#[]⟩),(.int .i64 0),(.int .i64 0),(.bool false)] [(0,1,(.val (.string ⟨#[98]⟩))),(1,2,(.tmp 25))]),oD 27 (.bsl 4 [.tmp 24,.tmp 26]),oD 28 (.build [(.string ⟨#[]⟩),(.slice none 0 0)] [(0,1,(.val (.string ⟨#[110]⟩))),(1,1,(.tmp 27))]),oD 1 (.new [(.string ⟨#[]⟩),(.slice none 0 0)]),kS 2 1 28] [23,24,25,26,27,28]
abbrev c_27_2:=kV [2] [oD 29 (.build zV [(0,1,(vI 1)),(1,1,(vI 5))]),oD 2 (.new zV),kS 4 2 29] [29]
abbrev c_27_3:=kV [2140,2141,2142,2143] [oL 31 true 2 1,oL 32 true 4 2,oD 33 (.build zV [(0,1,(vI 3)),(1,1,(vI 3))]),oD 34 (.bsl 4 [.tmp 32,.tmp 33]),kD 35 19 0 31 34,oM 30 35,kY 36 30 0,kY 37 30 1,oM 3 36,oM 4 37] [3,30,31,32,33,34,35,36,37]
abbrev c_27_4:=kV [2172,2173,2174,2175] [oL 39 true 2 1,oL 40 true 4 2,oD 41 (.build zV []),oD 42 (.bsl 4 [.tmp 40,.tmp 41]),kD 43 19 0 39 42,oM 38 43,kY 44 38 0,kY 45 38 1,oM 5 44,oM 6 45] [5,38,39,40,41,42,43,44,45]
abbrev c_27_5:=kV [2200,2201,2202,2203] [oL 47 true 2 1,oL 48 true 4 2,oD 49 (.bsl 4 [.tmp 48]),kD 50 19 0 47 49,oM 46 50,kY 51 46 0,kY 52 46 1,oM 7 51,oM 8 52] [46,47,48,49,50,51,52]
abbrev c_27_6:=kV [2232,2233,2234,2235] [oL 54 true 2 1,oL 55 true 4 2,oL 56 true 4 2,oD 57 (.bsl 4 [.tmp 55,.tmp 56]),kD 58 19 0 54 57,oM 53 58,kY 59 53 0,kY 60 53 1,oM 9 59,oM 10 60] [2,53,54,55,56,57,58,59,60]
abbrev c_27_7:=kV [2252,2253,2254,2255] [oL 62 true 2 1,kC 63 41 0 62,oM 61 63,kY 64 61 0,kY 65 61 1,oM 11 64,oM 12 65] [61,62,63,64,65]
abbrev c_27_8:=kV [2280,2281,2282,2283,13] [oM 67 11,oD 68 (.bin .add 9 (.val (.string ⟨#[120]⟩)) (.tmp 67)),oD 69 (.bin .add 9 (.tmp 68) (.val (.string ⟨#[121]⟩))),oD 70 (.call 42 0 [.tmp 69,vI 1]),oM 66 70,kY 71 66 0,kY 72 66 1,kY 73 66 2,oD 13 (.new [(.string ⟨#[]⟩),(.slice none 0 0)]),kS 2 13 71,oM 14 72,oM 15 73] [66,67,68,69,70,71,72,73]
abbrev c_27_9:=kV [2304,2305,2306,2307,16] [oM 75 11,oD 76 (.call 42 0 [.tmp 75,vI 1]),oM 74 76,kY 77 74 0,kY 78 74 1,kY 79 74 2,oD 16 (.new [(.string ⟨#[]⟩),(.slice none 0 0)]),kS 2 16 77,oM 17 78,oM 18 79] [16,17,74,75,76,77,78,79]
abbrev c_27_10:=kV [2328,2329,2330,2331] [oL 81 true 2 1,oD 82 (.call 34 0 [.tmp 81,.val (.string ⟨#[98]⟩)]),oM 80 82,kY 83 80 0,kY 84 80 1,oM 19 83,oM 20 84] [80,81,82,83,84]
abbrev c_27_11:=kV [2348,2349,2350,2351] [oL 86 true 2 1,oD 87 (.call 34 0 [.tmp 86,.val (.string ⟨#[99]⟩)]),oM 85 87,kY 88 85 0,kY 89 85 1,oM 21 88,oM 22 89] [21,85,86,87,88,89]
abbrev c_27_12:=kV [2476,2477,2478,2479,2596,2597,2598,2599,2612,2613,2614,2615,2632,2633,2634,2635,2648,2649,2650,2651,2672,2673,2674,2675,2692,2693,2694,2695] [oM 90 4,kK 91 .eql 33 90 0,oM 92 91,oH 93 92 true 6,kG 94 92 true .eql 33 93 0,oP 95 92 94 false,oM 96 95,oH 97 96 true 7,kG 98 96 true .eql 3 97 1,oP 99 96 98 false,oM 100 99,oH 101 100 true 8,kG 102 100 true .eql 33 101 42,oP 103 100 102 false,oM 104 103,oH 105 104 true 9,kG 106 104 true .eql 3 105 1,oP 107 104 106 false,oM 108 107,oH 109 108 true 10,kG 110 108 true .eql 33 109 42,oP 111 108 110 false,oM 112 111,oH 113 112 true 12,kG 114 112 true .eql 33 113 0,oP 115 112 114 false,oM 116 115,kL 117 116 true true 2 1,kL 118 116 true true 2 13,oG 119 116 true (.call 43 0 [.tmp 117,.tmp 118]),oP 120 116 119 false,oM 121 120,oH 122 121 true 14,oH 123 121 true 11,oG 124 121 true (.slen (.tmp 123)),oG 125 121 true (.bin .add 3 (vI 1) (.tmp 124)),kH 126 121 true .eql 3 122 125,oP 127 121 126 false,oM 128 127,oH 129 128 true 15,kG 130 128 true .eql 33 129 0,oP 131 128 130 false,oM 132 131,oH 133 132 true 18,kG 134 132 true .eql 33 133 10,oP 135 132 134 false,oM 136 135,oH 137 136 true 19,kG 138 136 true .eql 3 137 1,oP 139 136 138 false,oM 140 139,oH 141 140 true 20,oP 142 140 141 false,oM 143 142,oH 144 143 true 22,oG 145 143 true (.un .not (.tmp 144)),oP 146 143 145 false,oM 147 146,kL 148 147 true true 2 1,oG 149 147 true (.call 33 0 [.tmp 148]),oP 150 147 149 false,oM 151 150,oG 152 151 true (.build [(.string ⟨#[]⟩),(.slice none 0 0)] []),oG 153 151 true (.call 33 0 [.tmp 152]),oG 154 151 true (.un .not (.tmp 153)),oP 155 151 154 false,oM 156 155,oG 157 156 true (.build [(.int .i64 0),(.int .i64 0)] [(0,1,(vI 5)),(1,1,(vI 4))]),oG 158 156 true (.call 44 0 [.tmp 157]),oP 159 156 158 false,oM 160 159,oG 161 160 true (.build [(.int .i64 0),(.int .i64 0)] [(0,1,(vI 5))]),oG 162 160 true (.call 44 0 [.tmp 161]),oG 163 160 true (.un .not (.tmp 162)),oP 164 160 163 false,oM 165 164,kL 166 165 true true 2 1,kL 167 165 true true 2 1,oG 168 165 true (.call 38 0 [.tmp 166,.tmp 167]),oP 169 165 168 false,oM 170 169,kL 171 170 true true 2 1,oG 172 170 true (.build [(.string ⟨#[]⟩),(.slice none 0 0)] []),oG 173 170 true (.call 38 0 [.tmp 171,.tmp 172]),oG 174 170 true (.un .not (.tmp 173)),oP 175 170 174 false,oM 0 175] [1,4,6,7,8,9,10,11,12,13,14,15,18,19,20,22,90,91,92,93,94,95,96,97,98,99,100,101,102,103,104,105,106,107,108,109,110,111,112,113,114,115,116,117,118,119,120,121,122,123,124,125,126,127,128,129,130,131,132,133,134,135,136,137,138,139,140,141,142,143,144,145,146,147,148,149,150,151,152,153,154,155,156,157,158,159,160,161,162,163,164,165,166,167,168,169,170,171,172,173,174,175]
abbrev F_27:SFunc:=⟨176,(.seq c_27_0 (.seq c_27_1 (.seq c_27_2 (.seq c_27_3 (.seq c_27_4 (.seq c_27_5 (.seq c_27_6 (.seq c_27_7 (.seq c_27_8 (.seq c_27_9 (.seq c_27_10 (.seq c_27_11 (.seq c_27_12 .ret))))))))))))),[.tmp 0],false⟩
theorem tf_27:kU 11 [(27,0),(34,0),(35,0),(42,0),(43,0),(49,0),(50,0),(57,0),(58,0),(63,0),(70,0),(76,0),(82,0),(87,0),(119,0),(149,0),(153,0),(158,0),(162,0),(168,0),(173,0)] [] F_27:=by unfold kU;kernel_rfl
abbrev c_23_0:=kV [1,2] [kO 1 0,oD 2 (.new [(.string ⟨#[]⟩),(.slice none 0 0)])] [0]
abbrev c_23_1:=kR [oD 10 (.bsl 1 [.val (.string ⟨#[97]⟩),.val (.string ⟨#[98,50]⟩),.val (.string ⟨#[110,97,109,101]⟩),.val (.string ⟨#[110,101,120,116,95,111,110,101]⟩),.val (.string ⟨#[107,105,100,115]⟩),.val (.string ⟨#[120]⟩)]),oM 3 10] [10]
abbrev c_23_2:=kV [2056,2057,2058,2059,4] [oD 11 (.bsl 1 [.val (.string ⟨#[110,111,100,101]⟩),.val (.string ⟨#[105,116,101,109]⟩),.val (.string ⟨#[117,115,101,114]⟩),.val (.string ⟨#[112,97,103,101,95,49]⟩),.val (.string ⟨#[108,101,97,102]⟩),.val (.string ⟨#[113]⟩)]),kA 12 0 1,oL 13 false 1 12,oD 14 (.call 45 0 [.tmp 13,vI 6]),kX 15 1 11 14,oL 16 false 1 15,oD 17 (.build [(.string ⟨#[]⟩),(.slice none 0 0)] [(0,1,(.tmp 16))]),oD 4 (.new [(.string ⟨#[]⟩),(.slice none 0 0)]),kS 2 4 17] [11,12,13,14,15,16,17]
abbrev c_23_3:=kR [kI 5 0] []
abbrev c_23_4:=kR [oM 18 5,kA 19 1 1,oL 20 false 1 19,kZ 21 20,kB 22 .lss 3 18 21,oM 23 22,oH 24 23 true 5,kG 25 23 true .lss 3 24 6,oP 26 23 25 false] [18,19,20,21,22,23,24,25]
abbrev c_23_5:=kV [6] [kA 29 1 1,oL 30 false 1 29,oM 31 5,kX 32 4 30 31,oL 33 true 4 32,oD 6 (.new [(.int .i64 0),(.int .i64 0),(.int .i64 0),(.bool false)]),kS 4 6 33] [26,29,30,31,32,33]
abbrev c_23_6:=kV [2148,2149,2150,2151,2168,2169,2170,2171,7] [oM 34 3,kA 35 0 6,oL 36 false 1 35,oD 37 (.call 45 0 [.tmp 36,vI 6]),kX 38 1 34 37,oL 39 false 1 38,kA 40 1 6,oL 41 false 1 40,oD 42 (.call 45 0 [.tmp 41,vI 5]),oD 43 (.bin .add 3 (vI 1) (.tmp 42)),oD 44 (.build [(.int .i64 0),(.int .i64 0)] [(0,1,(.tmp 43))]),oD 45 (.build [(.string ⟨#[]⟩),(.int .i64 0),(.int .i64 0),(.bool false)] [(0,1,(.tmp 39)),(1,2,(.tmp 44))]),oD 7 (.new [(.string ⟨#[]⟩),(.int .i64 0),(.int .i64 0),(.bool false)]),kS 4 7 45] [34,35,36,37,38,39,40,41,42,43,44,45]
abbrev c_23_7:=kR [kA 46 1 7,kA 47 0 46,oL 48 false 1 47,kK 49 .eql 3 48 5] [46,47,48]
abbrev c_23_8:=kV [2208,2209,2210,2211] [kA 50 2 6,oL 51 false 1 50,oD 52 (.call 45 0 [.tmp 51,vI 4]),oD 53 (.bin .add 3 (vI 1) (.tmp 52)),kA 54 1 7,kA 55 1 54,kS 1 55 53] [49,50,51,52,53,54,55]
abbrev c_23_9:=kR [kA 56 3 6,oL 57 false 1 56,oM 58 57,kF 59 58 true 1 7,kF 60 58 true 0 59,kL 61 58 true false 1 60,kG 62 58 true .leq 3 61 3,oP 63 58 62 false,kA 64 3 7,kS 1 64 63] [6,49,56,57,58,59,60,61,62,63,64]
abbrev c_23_10:=kV [2276,2277,2278,2279] [oL 66 true 2 4,kA 67 0 7,oL 68 false 1 67,kD 69 46 0 66 68,oM 65 69,kY 70 65 0,kY 71 65 1,oM 8 70,oM 9 71] [8,65,66,67,68,69,70,71]
abbrev c_23_11:=kR [oM 72 9,kN 73 72] [9,72]
abbrev c_23_12:SCode:=.reg [([],[kA 74 1 4,oL 75 false 1 74,oL 76 true 4 7,oD 77 (.bsl 4 [.tmp 76]),oD 78 (.app 55 4 40 (.tmp 75) (.tmp 77)),kA 79 1 4,kS 1 79 78]),([78],[kA 74 1 4,oL 75 false 1 74,oL 76 true 4 7,oD 77 (.bsl 4 [.tmp 76]),oD 78 (.appN 55 4 40 (.tmp 75) (.tmp 77)),kA 79 1 4,kS 1 79 78])] [7,73,74,75,76,77,78,79]
abbrev c_23_13:=kR [oM 27 5,kK 28 .add 3 27 1,oM 5 28] [7,27,28,73]
abbrev c_23_14:SCode:=(.seq (.seq c_23_4 (.cond (.tmp 26) .skip (.exit 0))) (.seq (.block 1 (.seq c_23_5 (.seq c_23_6 (.seq (.seq c_23_7 (.cond (.tmp 49) c_23_8 .skip)) (.seq c_23_9 (.seq c_23_10 (.seq c_23_11 (.cond (.tmp 73) c_23_12 .skip)))))))) c_23_13))
abbrev c_23_15:=kR [oL 80 true 2 4,kS 2 2 80] [1,3,4,5,80]
abbrev F_23:SFunc:=⟨81,(.seq c_23_0 (.seq c_23_1 (.seq c_23_2 (.seq (.seq c_23_3 (.block 0 (.loop c_23_14))) (.seq c_23_15 .ret))))),[.cell true 2 2],false⟩
theorem tf_23:z6 Go.Proofs.Tryz.prog 12 (hintT [(10,0),(11,0),(14,0),(37,0),(42,0),(52,0),(69,0),(77,0)]) (fpT []) (killT [(0,[0]),(1,[10]),(2,[11,12,13,14,15,16,17]),(4,[18,19,20,21,22,23,24,25]),(6,[26,29,30,31,32,33]),(7,[34,35,36,37,38,39,40,41,42,43,44,45]),(8,[46,47,48]),(9,[49,50,51,52,53,54,55]),(10,[6,49,56,57,58,59,60,61,62,63,64]),(11,[8,65,66,67,68,69,70,71]),(12,[9,72]),(13,[7,73,74,75,76,77,78,79]),(5,[7,27,28,73]),(14,[1,3,4,5,80])]) false=some F_23:=by kernel_rfl
abbrev c_26_0:=kV [3] [kO 3 0,oD 6 (.mov (.val (.slice none 0 0)))] [0,6]
abbrev c_26_1:=kR [oD 7 (.mov (.val (.slice none 0 0)))] []
abbrev c_26_2:=kR [kI 8 0] []
abbrev c_26_3:=kR [oM 10 8,kA 11 1 3,oL 12 false 1 11,kZ 13 12,kB 14 .lss 3 10 13] [10,11,12,13]
abbrev c_26_4:=kR [oM 17 8,oM 9 17] [14,17]
abbrev c_26_5:=kR [oM 18 1,kZ 19 18,kK 20 .gtr 3 19 0] [18,19]
abbrev c_26_6:=kR [oM 21 1,oM 22 8,oM 23 1,kZ 24 23,kB 25 .rem 3 22 24,kX 26 1 21 25,oL 27 false 1 26,oM 28 8,kB 29 .add 3 27 28,oM 9 29] [20,21,22,23,24,25,26,27,28,29]
abbrev c_26_7:SCode:=.reg [([2156,2157,2158,2159],[oM 30 7,kA 31 1 3,oL 32 false 1 31,oM 33 8,kX 34 4 32 33,kA 35 1 34,oL 36 true 2 35,oM 37 9,oM 38 2,kE 39 47 0 36 37 38,oD 40 (.bsl 4 [.tmp 39]),oD 41 (.app 37 4 56 (.tmp 30) (.tmp 40)),oM 7 41]),([2156,2157,2158,2159,41],[oM 30 7,kA 31 1 3,oL 32 false 1 31,oM 33 8,kX 34 4 32 33,kA 35 1 34,oL 36 true 2 35,oM 37 9,oM 38 2,kE 39 47 0 36 37 38,oD 40 (.bsl 4 [.tmp 39]),oD 41 (.appN 37 4 56 (.tmp 30) (.tmp 40)),oM 7 41])] [9,20,30,31,32,33,34,35,36,37,38,39,40,41]
abbrev c_26_8:=kR [oM 15 8,kK 16 .add 3 15 1,oM 8 16] [15,16]
abbrev c_26_9:SCode:=(.seq (.seq c_26_3 (.cond (.tmp 14) .skip (.exit 0))) (.seq (.block 1 (.seq c_26_4 (.seq (.seq c_26_5 (.cond (.tmp 20) c_26_6 .skip)) c_26_7))) c_26_8))
abbrev c_26_10:=kR [oM 42 7,oM 6 42] [1,2,3,7,8,42]
abbrev F_26:SFunc:=⟨43,(.seq c_26_0 (.seq c_26_1 (.seq (.seq c_26_2 (.block 0 (.loop c_26_9))) (.seq c_26_10 .ret)))),[.tmp 6],false⟩
theorem tf_26:z6 Go.Proofs.Tryz.prog 13 (hintT [(39,0),(40,0)]) (fpT []) (killT [(0,[0,6]),(3,[10,11,12,13]),(5,[14,17]),(6,[18,19]),(7,[20,21,22,23,24,25,26,27,28,29]),(8,[9,20,30,31,32,33,34,35,36,37,38,39,40,41]),(4,[15,16]),(9,[1,2,3,7,8,42])]) false=some F_26:=by kernel_rfl
abbrev c_6_0:=kV [2] [kO 2 0,kI 4 0,kI 5 0] [0,4,5]
abbrev c_6_1:=kV [2036,2037,2038,2039] [oL 8 true 2 2,kC 9 33 0 8,kN 10 9] [8,9]
abbrev c_6_2:=kR [kI 4 0,kI 5 40] [1,2,10]
abbrev c_6_3:=kR [oM 11 1,kZ 12 11,kA 13 1 2,oL 14 false 1 13,kZ 15 14,kB 16 .neq 3 12 15] [4,5,10,11,12,13,14,15]
abbrev c_6_4:=kR [oM 17 1,kZ 18 17,kA 19 1 2,oL 20 false 1 19,kZ 21 20,oD 22 (.imm false (.tmp 18) (.tmp 21)),oM 4 22,kI 5 42] [1,2,16,17,18,19,20,21,22]
abbrev c_6_5:=kR [kA 23 1 2,oL 24 false 1 23,kZ 25 24,kI 26 0] [2,4,5,16,23]
abbrev c_6_6:=kR [kB 27 .lss 3 26 25] []
abbrev c_6_7:=kV [7] [oM 28 26,kX 29 4 24 26,oL 30 true 4 29,oD 7 (.new [(.string ⟨#[]⟩),(.int .i64 0),(.int .i64 0),(.bool false)]),oM 6 28,kS 4 7 30] [27,28,29,30]
abbrev c_6_8:=kV [2148,2149,2150,2151] [oM 31 1,oM 32 6,kX 33 4 31 32,oL 34 true 4 33,kA 35 1 7,oL 36 true 2 35,kD 37 56 0 34 36,kN 38 37] [7,31,32,33,34,35,36,37]
abbrev c_6_9:=kR [oM 39 6,oM 4 39,kI 5 42] [1,6,24,25,26,38,39]
abbrev c_6_10:=kR [kK 40 .add 3 26 1,oM 26 40] [4,5,6,38,40]
abbrev c_6_11:SCode:=(.seq c_6_6 (.seq (.cond (.tmp 27) .skip (.exit 0)) (.seq (.block 1 (.seq c_6_7 (.seq c_6_8 (.cond (.tmp 38) (.seq c_6_9 .ret) .skip)))) c_6_10)))
abbrev c_6_12:=kR [kI 4 0,kI 5 0] [1,24,25,26]
abbrev F_6:SFunc:=⟨41,(.seq c_6_0 (.seq (.seq c_6_1 (.cond (.tmp 10) (.seq c_6_2 .ret) .skip)) (.seq (.seq c_6_3 (.cond (.tmp 16) (.seq c_6_4 .ret) .skip)) (.seq (.seq c_6_5 (.block 0 (.loop c_6_11))) (.seq c_6_12 .ret))))),[.tmp 4,.tmp 5],false⟩
theorem tf_6:kU 19 [(9,0),(37,0)] [] F_6:=by unfold kU;kernel_rfl
abbrev c_11_0:=kV [1] [kO 1 0,kT 2 false] [0,2]
abbrev c_11_1:=kV [2036,2037,2038,2039] [kA 7 0 1,oL 8 false 1 7,kC 9 69 0 8,kN 10 9,oM 11 10,kF 12 11 false 1 1,kL 13 11 false false 1 12,oG 14 11 false (.len (.tmp 13)),kG 15 11 false .gtr 3 14 8,oQ 16 11 15 true] [7,8,9,10,11,12,13,14,15]
abbrev c_11_2:=kR [kT 2 false] [1,16]
abbrev c_11_3:=kR [kA 17 1 1,oL 18 false 1 17,kZ 19 18,kI 20 0] [2,16,17]
abbrev c_11_4:=kR [kB 21 .lss 3 20 19] []
abbrev c_11_5:=kV [4] [oM 22 20,kX 23 4 18 20,oL 24 true 4 23,oD 4 (.new [(.string ⟨#[]⟩),(.int .i64 0),(.int .i64 0),(.bool false)]),oM 3 22,kS 4 4 24] [21,22,23,24]
abbrev c_11_6:=kV [2104,2105,2106,2107] [oL 25 true 4 4,kC 26 70 0 25,kN 27 26] [25,26]
abbrev c_11_7:=kR [kT 2 false] [1,3,4,18,19,20,27]
abbrev c_11_8:=kV [2128,2129,2130,2131] [oL 29 true 2 1,kA 30 0 4,oL 31 false 1 30,kD 32 34 0 29 31,oM 28 32,kY 33 28 0,kY 34 28 1,oM 5 33,oM 6 34] [2,4,6,27,28,29,30,31,32,33,34]
abbrev c_11_9:=kR [oM 35 5,oM 36 3,kB 37 .neq 3 35 36] [3,5,35,36]
abbrev c_11_10:=kR [kT 2 false] [1,18,19,20,37]
abbrev c_11_11:=kR [kK 38 .add 3 20 1,oM 20 38] [2,37,38]
abbrev c_11_12:SCode:=(.seq c_11_4 (.seq (.cond (.tmp 21) .skip (.exit 0)) (.seq (.block 1 (.seq c_11_5 (.seq (.seq c_11_6 (.cond (.tmp 27) (.seq c_11_7 .ret) .skip)) (.seq c_11_8 (.seq c_11_9 (.cond (.tmp 37) (.seq c_11_10 .ret) .skip)))))) c_11_11)))
abbrev c_11_13:=kR [kT 2 true] [1,18,19,20]
abbrev F_11:SFunc:=⟨39,(.seq c_11_0 (.seq (.seq c_11_1 (.cond (.tmp 16) (.seq c_11_2 .ret) .skip)) (.seq (.seq c_11_3 (.block 0 (.loop c_11_12))) (.seq c_11_13 .ret)))),[.tmp 2],false⟩
theorem tf_11:kU 33 [(9,0),(26,0),(32,0)] [] F_11:=by unfold kU;kernel_rfl
abbrev c_9_0:=kV [2,3] [kO 2 0,kO 3 1,kI 4 0,kT 5 false] [0,1,4,5]
abbrev c_9_1:=kV [2040,2041,2042,2043] [kA 7 1 2,oL 8 false 1 7,oD 9 (.mkf (.func 72) [] [.tmp 3]),kD 10 71 1 8 9,oM 6 10] [2,3,7,8,9,10]
abbrev c_9_2:=kR [oM 11 6,kK 12 .lss 3 11 0] [11]
abbrev c_9_3:=kR [kI 4 0,kT 5 false] [6,12]
abbrev c_9_4:=kR [oM 13 6,oM 4 13,kT 5 true] [6,12,13]
abbrev F_9:SFunc:=⟨14,(.seq c_9_0 (.seq c_9_1 (.seq (.seq c_9_2 (.cond (.tmp 12) (.seq c_9_3 .ret) .skip)) (.seq c_9_4 .ret)))),[.tmp 4,.tmp 5],false⟩
theorem tf_9:kU 34 [(10,1)] [] F_9:=by unfold kU;kernel_rfl
abbrev c_13_0:=kV [2,3] [kO 2 0,kO 3 1,kT 4 false] [0,1,4]
abbrev c_13_1:=kV [2060,2061,2062,2063] [kA 5 0 2,oL 6 false 1 5,kA 7 0 3,oL 8 false 1 7,kB 9 .eql 9 6 8,oM 10 9,kF 11 10 true 1 2,kL 12 10 true false 1 11,kF 13 10 true 1 3,kL 14 10 true false 1 13,oG 15 10 true (.call 81 0 [.tmp 12,.tmp 14]),oP 16 10 15 false,oM 4 16] [2,3,5,6,7,8,9,10,11,12,13,14,15,16]
abbrev F_13:SFunc:=⟨17,(.seq c_13_0 (.seq c_13_1 .ret)),[.tmp 4],false⟩
theorem tf_13:kU 38 [(15,0)] [] F_13:=by unfold kU;kernel_rfl
abbrev c_8_0:=kV [1] [kO 1 0,oD 2 (.mov (.val (.string ⟨#[]⟩))),kI 3 0] [0,2,3]
abbrev c_8_1:=kV [2032,2033,2034,2035] [oL 7 true 2 1,kC 8 33 0 7,kN 9 8] [7,8]
abbrev c_8_2:=kR [oD 2 (.mov (.val (.string ⟨#[]⟩))),kI 3 40] [1,9]
abbrev c_8_3:=kV [2048,2049,2050,2051] [kA 10 0 1,oL 11 false 1 10,oD 12 (.call 84 2 [.val (.slice none 0 0),.tmp 11]),oM 4 12] [2,3,9,10,11,12]
abbrev c_8_4:SCode:=.reg [([2068,2069,2070,2071],[oM 13 4,kA 14 1 1,oL 15 false 1 14,kZ 16 15,kC 17 64 0 16,oD 18 (.appS 5 1 (.tmp 13) (.tmp 17)),oM 4 18]),([2068,2069,2070,2071,18],[oM 13 4,kA 14 1 1,oL 15 false 1 14,kZ 16 15,kC 17 64 0 16,oD 18 (.appNS 5 1 (.tmp 13) (.tmp 17)),oM 4 18])] [13,14,15,16,17,18]
abbrev c_8_5:=kR [kA 19 1 1,oL 20 false 1 19,kZ 21 20,kI 22 0] [1,19]
abbrev c_8_6:=kR [kB 23 .lss 3 22 21] []
abbrev c_8_7:=kV [6] [kX 24 4 20 22,oL 25 true 4 24,oD 6 (.new [(.string ⟨#[]⟩),(.int .i64 0),(.int .i64 0),(.bool false)]),kS 4 6 25] [23,24,25]
abbrev c_8_8:=kV [2116,2117,2118,2119] [oM 26 4,kA 27 0 6,oL 28 false 1 27,kD 29 84 2 26 28,oM 4 29] [26,27,28,29]
abbrev c_8_9:SCode:=.reg [([2136,2137,2138,2139],[oM 30 4,kA 31 1 6,kA 32 0 31,oL 33 false 1 32,kC 34 64 0 33,oD 35 (.appS 5 1 (.tmp 30) (.tmp 34)),oM 4 35]),([2136,2137,2138,2139,35],[oM 30 4,kA 31 1 6,kA 32 0 31,oL 33 false 1 32,kC 34 64 0 33,oD 35 (.appNS 5 1 (.tmp 30) (.tmp 34)),oM 4 35])] [30,31,32,33,34,35]
abbrev c_8_10:SCode:=.reg [([2160,2161,2162,2163],[oM 36 4,kA 37 1 6,kA 38 1 37,oL 39 false 1 38,kC 40 64 0 39,oD 41 (.appS 5 1 (.tmp 36) (.tmp 40)),oM 4 41]),([2160,2161,2162,2163,41],[oM 36 4,kA 37 1 6,kA 38 1 37,oL 39 false 1 38,kC 40 64 0 39,oD 41 (.appNS 5 1 (.tmp 36) (.tmp 40)),oM 4 41])] [36,37,38,39,40,41]
abbrev c_8_11:=kR [kA 42 3 6,oL 43 false 1 42] [6,42]
abbrev c_8_12:SCode:=.reg [([2180,2181,2182,2183],[oM 44 4,oD 45 (.call 64 0 [vI 1]),oD 46 (.appS 5 1 (.tmp 44) (.tmp 45)),oM 4 46]),([2180,2181,2182,2183,46],[oM 44 4,oD 45 (.call 64 0 [vI 1]),oD 46 (.appNS 5 1 (.tmp 44) (.tmp 45)),oM 4 46])] [43,44,45,46]
abbrev c_8_13:SCode:=.reg [([2192,2193,2194,2195],[oM 47 4,oD 48 (.call 64 0 [vI 0]),oD 49 (.appS 5 1 (.tmp 47) (.tmp 48)),oM 4 49]),([2192,2193,2194,2195,49],[oM 47 4,oD 48 (.call 64 0 [vI 0]),oD 49 (.appNS 5 1 (.tmp 47) (.tmp 48)),oM 4 49])] [43,47,48,49]
abbrev c_8_14:=kR [kK 50 .add 3 22 1,oM 22 50] [50]
abbrev c_8_15:SCode:=(.seq c_8_6 (.seq (.cond (.tmp 23) .skip (.exit 0)) (.seq (.block 1 (.seq c_8_7 (.seq c_8_8 (.seq c_8_9 (.seq c_8_10 (.seq c_8_11 (.cond (.tmp 43) c_8_12 c_8_13))))))) c_8_14)))
abbrev c_8_16:=kR [oM 51 4,oD 52 (.b2s (.tmp 51)),oM 2 52,kI 3 0] [4,20,21,22,51,52]
abbrev F_8:SFunc:=⟨53,(.seq c_8_0 (.seq (.seq c_8_1 (.cond (.tmp 9) (.seq c_8_2 .ret) .skip)) (.seq c_8_3 (.seq c_8_4 (.seq (.seq c_8_5 (.block 0 (.loop c_8_15))) (.seq c_8_16 .ret)))))),[.tmp 2,.tmp 3],false⟩
theorem tf_8:kU 41 [(8,0),(12,2),(17,0),(29,2),(34,0),(40,0),(45,0),(48,0)] [] F_8:=by unfold kU;kernel_rfl
abbrev c_7_0:=kV [4] [oD 4 (.new [(.string ⟨#[]⟩),(.slice none 0 0)]),kI 5 0,kI 6 0] [5,6]
abbrev c_7_1:=kV [7] [oM 12 0,oM 13 1,oD 14 (.build [(.string ⟨#[]⟩),(.int .i64 0),(.bool false)] [(0,1,(.tmp 12)),(1,1,(.tmp 13))]),oD 7 (.new [(.string ⟨#[]⟩),(.int .i64 0),(.bool false)]),kS 3 7 14] [0,1,12,13,14]
abbrev c_7_2:=kV [2060,2061,2062,2063,8] [kC 15 85 1 7,oD 16 (.build [(.string ⟨#[]⟩),(.slice none 0 0)] [(0,1,(.tmp 15))]),oD 8 (.new [(.string ⟨#[]⟩),(.slice none 0 0)]),kS 2 8 16] [15,16]
abbrev c_7_3:=kV [2068,2069,2070,2071] [kC 17 86 1 7,oM 9 17] [17]
abbrev c_7_4:=kR [oM 18 9,kK 19 .lss 3 18 0,oM 20 19,oH 21 20 false 9,kG 22 20 false .gtr 3 21 8,oQ 23 20 22 true] [18,19,20,21,22]
abbrev c_7_5:=kR [oD 24 (.build [(.string ⟨#[]⟩),(.slice none 0 0)] []),kS 2 4 24,kI 5 0,kI 6 10] [7,8,9,23,24]
abbrev c_7_6:=kR [oM 25 9,kI 26 0] [5,6,9,23]
abbrev c_7_7:=kR [kB 27 .lss 3 26 25] []
abbrev c_7_8:=kV [2124,2125,2126,2127,10] [oD 29 (.mkf (.func 85) [.tmp 7] []),oD 30 (.mkf (.func 86) [.tmp 7] []),kD 31 87 1 29 30,oM 28 31,kY 32 28 0,kY 33 28 1,oD 10 (.new [(.string ⟨#[]⟩),(.int .i64 0),(.int .i64 0),(.bool false)]),kS 4 10 32,oM 11 33] [27,28,29,30,31,32,33]
abbrev c_7_9:=kR [oM 34 11,kN 35 34] [11,34]
abbrev c_7_10:=kR [oD 36 (.build [(.string ⟨#[]⟩),(.slice none 0 0)] []),kS 2 4 36,kI 5 0,kI 6 10] [7,8,10,25,26,35,36]
abbrev c_7_11:SCode:=.reg [([],[kA 37 1 8,oL 38 false 1 37,oL 39 true 4 10,oD 40 (.bsl 4 [.tmp 39]),oD 41 (.app 55 4 40 (.tmp 38) (.tmp 40)),kA 42 1 8,kS 1 42 41]),([41],[kA 37 1 8,oL 38 false 1 37,oL 39 true 4 10,oD 40 (.bsl 4 [.tmp 39]),oD 41 (.appN 55 4 40 (.tmp 38) (.tmp 40)),kA 42 1 8,kS 1 42 41])] [5,6,10,35,37,38,39,40,41,42]
abbrev c_7_12:=kR [kK 43 .add 3 26 1,oM 26 43] [43]
abbrev c_7_13:SCode:=(.seq c_7_7 (.seq (.cond (.tmp 27) .skip (.exit 0)) (.seq (.block 1 (.seq c_7_8 (.seq (.seq c_7_9 (.cond (.tmp 35) (.seq c_7_10 .ret) .skip)) c_7_11))) c_7_12)))
abbrev c_7_14:=kV [2192,2193,2194,2195] [kA 44 2 7,oL 45 false 1 44,oM 46 45,kL 47 46 false true 2 8,oG 48 46 false (.call 33 0 [.tmp 47]),oG 49 46 false (.un .not (.tmp 48)),oQ 50 46 49 true] [25,26,44,45,46,47,48,49]
abbrev c_7_15:=kR [oD 51 (.build [(.string ⟨#[]⟩),(.slice none 0 0)] []),kS 2 4 51,kI 5 0,kI 6 10] [7,8,50,51]
abbrev c_7_16:=kR [⟨(some 52),none,(some 8),.ld true 2 (.tmp 8)⟩,kA 53 1 7,⟨(some 54),none,(some 7),.ld false 1 (.tmp 53)⟩,⟨none,none,(some 4),.st 2 (.tmp 4) (.tmp 52)⟩,oM 5 54,kI 6 0] [7,8,50,52,53,54]
abbrev F_7:SFunc:=⟨55,(.seq c_7_0 (.seq c_7_1 (.seq c_7_2 (.seq c_7_3 (.seq (.seq c_7_4 (.cond (.tmp 23) (.seq c_7_5 .ret) .skip)) (.seq (.seq c_7_6 (.block 0 (.loop c_7_13))) (.seq (.seq c_7_14 (.cond (.tmp 50) (.seq c_7_15 .ret) .skip)) (.seq c_7_16 .ret)))))))),[.cell true 2 4,.tmp 5,.tmp 6],false⟩
theorem tf_7:kU 42 [(15,1),(17,1),(31,1),(40,0),(48,0)] [(15,[[(0,8),(2,7),(3,4)]])] F_7:=by unfold kU;kernel_rfl
abbrev c_30_0:=kV [2,3] [kO 2 0,kO 3 1,kT 4 false] [0,1,4]
abbrev c_30_1:=kR [kA 6 0 2,oL 7 false 1 6,kA 8 0 3,oL 9 false 1 8,kB 10 .neq 9 7 9,oM 11 10,kF 12 11 false 1 2,kL 13 11 false false 1 12,oG 14 11 false (.len (.tmp 13)),kF 15 11 false 1 3,kL 16 11 false false 1 15,oG 17 11 false (.len (.tmp 16)),kH 18 11 false .neq 3 14 17,oQ 19 11 18 true] [6,7,8,9,10,11,12,13,14,15,16,17,18]
abbrev c_30_2:=kR [kT 4 false] [2,3,19]
abbrev c_30_3:=kR [kI 5 0] [4,19]
abbrev c_30_4:=kR [oM 20 5,kA 21 1 2,oL 22 false 1 21,kZ 23 22,kB 24 .lss 3 20 23] [20,21,22,23]
abbrev c_30_5:=kR [kA 27 1 2,oL 28 false 1 27,oM 29 5,kX 30 4 28 29,oL 31 true 4 30,kA 32 1 3,oL 33 false 1 32,oM 34 5,kX 35 4 33 34,oL 36 true 4 35,kB 37 .neq 55 31 36] [24,27,28,29,30,31,32,33,34,35,36]
abbrev c_30_6:=kR [kT 4 false] [2,3,5,37]
abbrev c_30_7:=kR [oM 25 5,kK 26 .add 3 25 1,oM 5 26] [4,25,26,37]
abbrev c_30_8:SCode:=(.seq (.seq c_30_4 (.cond (.tmp 24) .skip (.exit 0))) (.seq (.block 1 (.seq c_30_5 (.cond (.tmp 37) (.seq c_30_6 .ret) .skip))) c_30_7))
abbrev c_30_9:=kR [kT 4 true] [2,3,5]
abbrev F_30:SFunc:=⟨38,(.seq c_30_0 (.seq (.seq c_30_1 (.cond (.tmp 19) (.seq c_30_2 .ret) .skip)) (.seq (.seq c_30_3 (.block 0 (.loop c_30_8))) (.seq c_30_9 .ret)))),[.tmp 4],false⟩
theorem tf_30:z6 Go.Proofs.Tryz.prog 43 (hintT []) (fpT []) (killT [(0,[0,1,4]),(1,[6,7,8,9,10,11,12,13,14,15,16,17,18]),(2,[2,3,19]),(3,[4,19]),(4,[20,21,22,23]),(6,[24,27,28,29,30,31,32,33,34,35,36]),(7,[2,3,5,37]),(5,[4,25,26,37]),(8,[2,3,5])]) false=some F_30:=by kernel_rfl
abbrev c_12_0:=kV [1] [kO 1 0,kT 2 false] [0,2]
abbrev c_12_1:=kR [kA 3 0 1,oL 4 false 1 3,kK 5 .eql 3 4 5] [3,4]
abbrev c_12_2:=kR [kA 6 1 1,oL 7 false 1 6,kK 8 .geq 3 7 1,oM 9 8,kF 10 9 true 1 1,kL 11 9 true false 1 10,kG 12 9 true .leq 3 11 4,oP 13 9 12 false,oM 2 13] [1,5,6,7,8,9,10,11,12,13]
abbrev c_12_3:=kR [kA 14 0 1,oL 15 false 1 14,kK 16 .geq 3 15 1,oM 17 16,kF 18 17 true 0 1,kL 19 17 true false 1 18,kG 20 17 true .leq 3 19 4,oP 21 17 20 false,oM 22 21,kF 23 22 true 1 1,kL 24 22 true false 1 23,kG 25 22 true .eql 3 24 0,oP 26 22 25 false,oM 2 26] [1,5,14,15,16,17,18,19,20,21,22,23,24,25,26]
abbrev F_12:SFunc:=⟨27,(.seq c_12_0 (.seq (.seq c_12_1 (.cond (.tmp 5) (.seq c_12_2 .ret) .skip)) (.seq c_12_3 .ret))),[.tmp 2],false⟩
theorem tf_12:kU 44 [] [] F_12:=by unfold kU;kernel_rfl
abbrev c_28_0:=kR [kI 4 0] [4]
abbrev c_28_1:=kR [oM 5 0,kK 6 .lss 3 5 0] [5]
abbrev c_28_2:=kR [oM 7 0,kK 8 .add 3 7 1,oD 9 (.un .neg (.tmp 8)),oM 0 9] [6,7,8,9]
abbrev c_28_3:=kR [oM 10 0,oM 11 1,kB 12 .rem 3 10 11,oM 4 12] [0,1,6,10,11,12]
abbrev F_28:SFunc:=⟨13,(.seq c_28_0 (.seq (.seq c_28_1 (.cond (.tmp 6) c_28_2 .skip)) (.seq c_28_3 .ret))),[.tmp 4],false⟩
theorem tf_28:kU 45 [] [] F_28:=by unfold kU;kernel_rfl
abbrev c_29_0:=kV [2] [kO 2 0,kI 4 0,kT 5 false] [0,4,5]
abbrev c_29_1:=kR [kI 6 0] []
abbrev c_29_2:=kR [oM 7 6,kA 8 1 2,oL 9 false 1 8,kZ 10 9,kB 11 .lss 3 7 10] [7,8,9,10]
abbrev c_29_3:=kR [kA 14 1 2,oL 15 false 1 14,oM 16 6,kX 17 4 15 16,kA 18 0 17,oL 19 false 1 18,oM 20 1,kB 21 .eql 9 19 20] [11,14,15,16,17,18,19,20]
abbrev c_29_4:=kR [oM 22 6,oM 4 22,kT 5 true] [1,2,6,21,22]
abbrev c_29_5:=kR [oM 12 6,kK 13 .add 3 12 1,oM 6 13] [4,5,12,13,21]
abbrev c_29_6:SCode:=(.seq (.seq c_29_2 (.cond (.tmp 11) .skip (.exit 0))) (.seq (.block 1 (.seq c_29_3 (.cond (.tmp 21) (.seq c_29_4 .ret) .skip))) c_29_5))
abbrev c_29_7:=kR [kI 4 0,kT 5 false] [1,2,6]
abbrev F_29:SFunc:=⟨23,(.seq c_29_0 (.seq (.seq c_29_1 (.block 0 (.loop c_29_6))) (.seq c_29_7 .ret))),[.tmp 4,.tmp 5],false⟩
theorem tf_29:z6 Go.Proofs.Tryz.prog 46 (hintT []) (fpT []) (killT [(0,[0,4,5]),(2,[7,8,9,10]),(4,[11,14,15,16,17,18,19,20]),(5,[1,2,6,21,22]),(3,[4,5,12,13,21]),(6,[1,2,6])]) false=some F_29:=by kernel_rfl
abbrev c_25_0:=kV [3,6] [kO 3 0,oD 6 (.new zV)] [0]
abbrev c_25_1:=kR [oD 10 (.bsl 1 [.val (.string ⟨#[]⟩),.val (.string ⟨#[97]⟩),.val (.string ⟨#[98,99]⟩),.val (.string ⟨#[195,169,116,195,169]⟩),.val (.string ⟨#[97,32,98]⟩),.val (.string ⟨#[122,122,32,116,111,112]⟩),.val (.string ⟨#[48]⟩),.val (.string ⟨#[45,55]⟩)]),oM 7 10] [10]
abbrev c_25_2:=kR [kA 11 0 3,oL 12 false 1 11] [11]
abbrev c_25_3:=kR [kK 14 .eql 3 12 1,oM 13 14] [14]
abbrev c_25_4:=kV [2064,2065,2066,2067] [oM 15 1,oD 16 (.call 45 0 [.tmp 15,vI 41]),kK 17 .sub 3 16 20,oD 18 (.build zV [(0,1,(vI 1)),(1,1,(.tmp 17))]),kS 4 6 18] [1,2,3,7,12,13,15,16,17,18]
abbrev c_25_5:=kR [kK 20 .eql 3 12 2,oM 19 20] [13,20]
abbrev c_25_6:=kV [2092,2093,2094,2095] [oM 21 7,oM 22 1,oD 23 (.call 45 0 [.tmp 22,vI 8]),kX 24 1 21 23,oL 25 false 1 24,oD 26 (.build zV [(0,1,(vI 2)),(2,1,(.tmp 25))]),kS 4 6 26] [1,2,3,7,12,19,21,22,23,24,25,26]
abbrev c_25_7:=kR [kK 28 .eql 3 12 3,oM 27 28] [7,19,28]
abbrev c_25_8:=kR [kK 29 .eql 3 12 4,oM 27 29] [12,29]
abbrev c_25_9:=kV [2136,2137,2138,2139] [oM 30 2,kK 31 .lss 3 30 1,oM 32 31,oH 33 32 false 1,oG 34 32 false (.call 45 0 [.tmp 33,vI 5]),kG 35 32 false .eql 3 34 4,oQ 36 32 35 true] [12,27,30,31,32,33,34,35]
abbrev c_25_10:=kR [oD 37 (.build zV []),kS 4 6 37] [1,2,3,36,37]
abbrev c_25_11:=kV [2168,2169,2170,2171] [kA 38 0 3,oL 39 false 1 38,oM 40 1,oM 41 2,kD 42 45 0 40 41,oD 43 (.bin .add 3 (vI 1) (.tmp 42)),oD 44 (.build zV [(0,1,(.tmp 39)),(1,1,(.tmp 43))]),kS 4 6 44] [1,2,3,36,38,39,40,41,42,43,44]
abbrev c_25_12:=kV [8] [oD 45 (.build zV [(0,1,(vI 5))]),oD 8 (.new zV),kS 4 8 45] [12,27,45]
abbrev c_25_13:=kR [kI 9 0] []
abbrev c_25_14:=kV [2192,2193,2194,2195] [oM 46 9,oM 47 1,oD 48 (.call 45 0 [.tmp 47,vI 4]),kB 49 .lss 3 46 48] [46,47,48]
abbrev c_25_15:SCode:=.reg [([2248,2249,2250,2251],[kA 52 3 8,oL 53 false 1 52,kA 54 1 3,oL 55 false 1 54,oD 56 (.build [(.int .i64 0),(.int .i64 0)] [(0,1,(.tmp 55))]),oM 57 1,kK 58 .quo 3 57 4,oM 59 9,kB 60 .add 3 58 59,oM 61 2,kE 62 47 0 56 60 61,oD 63 (.bsl 4 [.tmp 62]),oD 64 (.app 37 4 56 (.tmp 53) (.tmp 63)),kA 65 3 8,kS 1 65 64]),([2248,2249,2250,2251,64],[kA 52 3 8,oL 53 false 1 52,kA 54 1 3,oL 55 false 1 54,oD 56 (.build [(.int .i64 0),(.int .i64 0)] [(0,1,(.tmp 55))]),oM 57 1,kK 58 .quo 3 57 4,oM 59 9,kB 60 .add 3 58 59,oM 61 2,kE 62 47 0 56 60 61,oD 63 (.bsl 4 [.tmp 62]),oD 64 (.appN 37 4 56 (.tmp 53) (.tmp 63)),kA 65 3 8,kS 1 65 64])] [49,52,53,54,55,56,57,58,59,60,61,62,63,64,65]
abbrev c_25_16:=kR [oM 50 9,kK 51 .add 3 50 1,oM 9 51] [50,51]
abbrev c_25_17:SCode:=(.seq (.seq c_25_14 (.cond (.tmp 49) .skip (.exit 1))) (.seq (.block 2 c_25_15) c_25_16))
abbrev c_25_18:=kR [oL 66 true 4 8,kS 4 6 66] [1,2,3,8,9,66]
abbrev F_25:SFunc:=⟨67,(.seq c_25_0 (.seq c_25_1 (.seq (.seq c_25_2 (.block 0 (.seq c_25_3 (.cond (.tmp 13) (.seq c_25_4 .ret) (.seq c_25_5 (.cond (.tmp 19) (.seq c_25_6 .ret) (.seq (.seq c_25_7 (.cond (.tmp 27) .skip c_25_8)) (.cond (.tmp 27) (.seq (.seq c_25_9 (.cond (.tmp 36) (.seq c_25_10 .ret) .skip)) (.seq c_25_11 .ret)) .skip)))))))) (.seq c_25_12 (.seq (.seq c_25_13 (.block 1 (.loop c_25_17))) (.seq c_25_18 .ret)))))),[.cell true 4 6],false⟩
theorem tf_25:z6 Go.Proofs.Tryz.prog 47 (hintT [(10,0),(16,0),(23,0),(34,0),(42,0),(48,0),(62,0),(63,0)]) (fpT []) (killT [(0,[0]),(1,[10]),(2,[11]),(3,[14]),(4,[1,2,3,7,12,13,15,16,17,18]),(5,[13,20]),(6,[1,2,3,7,12,19,21,22,23,24,25,26]),(7,[7,19,28]),(8,[12,29]),(9,[12,27,30,31,32,33,34,35]),(10,[1,2,3,36,37]),(11,[1,2,3,36,38,39,40,41,42,43,44]),(12,[12,27,45]),(14,[46,47,48]),(16,[49,52,53,54,55,56,57,58,59,60,61,62,63,64,65]),(15,[50,51]),(17,[1,2,3,8,9,66])]) false=some F_25:=by kernel_rfl
abbrev c_17_0:=kR [kT 2 false] [2]
abbrev c_17_1:=kV [2060,2061,2062,2063] [oM 4 0,oD 5 (.slen (.tmp 4)),kK 6 .lss 3 5 1,oM 7 6,oH 8 7 false 0,oG 9 7 false (.slen (.tmp 8)),kG 10 7 false .gtr 3 9 20,oQ 11 7 10 true,oM 12 11,oH 13 12 false 0,oG 14 12 false (.sidx (.tmp 13) (vI 0)),oG 15 12 false (.call 128 0 [.tmp 14]),oG 16 12 false (.un .not (.tmp 15)),oQ 17 12 16 true] [4,5,6,7,8,9,10,11,12,13,14,15,16]
abbrev c_17_2:=kR [kT 2 false] [0,17]
abbrev c_17_3:=kR [oM 18 0,oD 19 (.slen (.tmp 18)),kI 20 0] [2,17,18]
abbrev c_17_4:=kR [kB 21 .lss 3 20 19] []
abbrev c_17_5:=kR [oM 22 20,oM 3 22] [21,22]
abbrev c_17_6:=kV [2104,2105,2106,2107] [oM 23 0,oM 24 3,oD 25 (.sidx (.tmp 23) (.tmp 24)),kC 26 128 0 25,kN 27 26,oM 28 27,oH 29 28 true 0,oH 30 28 true 3,oG 31 28 true (.sidx (.tmp 29) (.tmp 30)),oG 32 28 true (.bin .lss 5 (.tmp 31) (.val (.int .u8 48))),oH 33 28 true 32,oH 34 33 false 0,oH 35 33 false 3,oG 36 33 false (.sidx (.tmp 34) (.tmp 35)),oG 37 33 false (.bin .gtr 5 (.tmp 36) (.val (.int .u8 57))),oG 38 28 true (.pick (.tmp 33) (.val (.bool true)) (.tmp 37)),oP 39 28 38 false,oM 40 39,oH 41 40 true 0,oH 42 40 true 3,oG 43 40 true (.sidx (.tmp 41) (.tmp 42)),oG 44 40 true (.bin .neq 5 (.tmp 43) (.val (.int .u8 95))),oP 45 40 44 false] [3,23,24,25,26,27,28,29,30,31,32,33,34,35,36,37,38,39,40,41,42,43,44]
abbrev c_17_7:=kR [kT 2 false] [0,19,20,45]
abbrev c_17_8:=kR [kK 46 .add 3 20 1,oM 20 46] [2,45,46]
abbrev c_17_9:SCode:=(.seq c_17_4 (.seq (.cond (.tmp 21) .skip (.exit 0)) (.seq (.block 1 (.seq c_17_5 (.seq c_17_6 (.cond (.tmp 45) (.seq c_17_7 .ret) .skip)))) c_17_8)))
abbrev c_17_10:=kR [kT 2 true] [0,19,20]
abbrev F_17:SFunc:=⟨47,(.seq c_17_0 (.seq (.seq c_17_1 (.cond (.tmp 17) (.seq c_17_2 .ret) .skip)) (.seq (.seq c_17_3 (.block 0 (.loop c_17_9))) (.seq c_17_10 .ret)))),[.tmp 2],false⟩
theorem tf_17:kU 69 [(15,0),(26,0)] [] F_17:=by unfold kU;kernel_rfl
abbrev c_16_0:=kV [1] [kO 1 0,kT 2 false] [0,2]
abbrev c_16_1:=kV [2020,2021,2022,2023,2040,2041,2042,2043] [kA 3 0 1,oL 4 false 1 3,kC 5 69 0 4,kN 6 5,oM 7 6,kF 8 7 false 1 1,kL 9 7 false true 2 8,oG 10 7 false (.call 44 0 [.tmp 9]),oG 11 7 false (.un .not (.tmp 10)),oQ 12 7 11 true] [3,4,5,6,7,8,9,10,11]
abbrev c_16_2:=kR [kT 2 false] [1,12]
abbrev c_16_3:=kR [kA 13 3 1,oL 14 false 1 13,kN 15 14,oM 16 15,kF 17 16 false 1 1,kF 18 16 false 0 17,kL 19 16 false false 1 18,kG 20 16 false .leq 3 19 3,oQ 21 16 20 true,oM 2 21] [1,12,13,14,15,16,17,18,19,20,21]
abbrev F_16:SFunc:=⟨22,(.seq c_16_0 (.seq (.seq c_16_1 (.cond (.tmp 12) (.seq c_16_2 .ret) .skip)) (.seq c_16_3 .ret))),[.tmp 2],false⟩
theorem tf_16:kU 70 [(5,0),(10,0)] [] F_16:=by unfold kU;kernel_rfl
abbrev c_33_0:=kR [kI 4 0] [4]
abbrev c_33_1:=kR [oM 6 0,kZ 7 6,kI 8 0] [6]
abbrev c_33_2:=kR [kB 9 .lss 3 8 7] []
abbrev c_33_3:=kR [oM 10 8,oM 5 10] [9,10]
abbrev c_33_4:=kV [2064,2065,2066,2067] [oM 11 1,oM 12 0,oM 13 5,kX 14 4 12 13,oL 15 true 4 14,oD 16 (.callv (.tmp 11) 1 [.tmp 15])] [11,12,13,14,15]
abbrev c_33_5:=kR [oM 17 5,oM 4 17] [0,1,5,7,8,16,17]
abbrev c_33_6:=kR [kK 18 .add 3 8 1,oM 8 18] [4,5,16,18]
abbrev c_33_7:SCode:=(.seq c_33_2 (.seq (.cond (.tmp 9) .skip (.exit 0)) (.seq (.block 1 (.seq c_33_3 (.seq c_33_4 (.cond (.tmp 16) (.seq c_33_5 .ret) .skip)))) c_33_6)))
abbrev c_33_8:=kR [oD 4 (.mov (.val (.int .i64 (-1))))] [0,1,7,8]
abbrev F_33:SFunc:=⟨19,(.seq c_33_0 (.seq (.seq c_33_1 (.block 0 (.loop c_33_7))) (.seq c_33_8 .ret))),[.tmp 4],false⟩
theorem tf_33:kU 71 [(16,1)] [] F_33:=by unfold kU;kernel_rfl
abbrev c_10_0:=kV [2] [kO 2 0,kT 3 false] [0,3]
abbrev c_10_1:=kR [kA 4 0 2,oL 5 false 1 4,oL 6 false 1 1,kB 7 .eql 9 5 6,oM 3 7] [1,2,4,5,6,7]
abbrev F_10:SFunc:=⟨8,(.seq c_10_0 (.seq c_10_1 .ret)),[.tmp 3],false⟩
theorem tf_10:kU 72 [] [] F_10:=by unfold kU;kernel_rfl
abbrev c_32_0:=kR [kT 4 false] [4]
abbrev c_32_1:=kR [oM 6 0,kZ 7 6,oM 8 1,kZ 9 8,kB 10 .neq 3 7 9] [6,7,8,9]
abbrev c_32_2:=kR [kT 4 false] [0,1,10]
abbrev c_32_3:=kR [oM 11 0,kZ 12 11,kI 13 0] [4,10,11]
abbrev c_32_4:=kR [kB 14 .lss 3 13 12] []
abbrev c_32_5:=kR [oM 15 13,oM 5 15] [14,15]
abbrev c_32_6:=kR [oM 16 0,oM 17 5,kX 18 4 16 17,oL 19 true 4 18,oM 20 1,oM 21 5,kX 22 4 20 21,oL 23 true 4 22,kB 24 .neq 55 19 23] [5,16,17,18,19,20,21,22,23]
abbrev c_32_7:=kR [kT 4 false] [0,1,12,13,24]
abbrev c_32_8:=kR [kK 25 .add 3 13 1,oM 13 25] [4,24,25]
abbrev c_32_9:SCode:=(.seq c_32_4 (.seq (.cond (.tmp 14) .skip (.exit 0)) (.seq (.block 1 (.seq c_32_5 (.seq c_32_6 (.cond (.tmp 24) (.seq c_32_7 .ret) .skip)))) c_32_8)))
abbrev c_32_10:=kR [kT 4 true] [0,1,12,13]
abbrev F_32:SFunc:=⟨26,(.seq c_32_0 (.seq (.seq c_32_1 (.cond (.tmp 10) (.seq c_32_2 .ret) .skip)) (.seq (.seq c_32_3 (.block 0 (.loop c_32_9))) (.seq c_32_10 .ret)))),[.tmp 4],false⟩
theorem tf_32:kU 81 [] [] F_32:=by unfold kU;kernel_rfl
abbrev c_15_0:=kR [oD 4 (.mov (.val (.slice none 0 0)))] [4]
abbrev c_15_1:=kV [2036,2037,2038,2039] [oM 8 1,kC 9 93 0 8,oM 7 9,kY 10 7 0,kY 11 7 1,oM 5 10,oM 6 11] [1,6,7,8,9,10,11]
abbrev c_15_2:SCode:=.reg [([],[oM 12 0,oM 13 5,oD 14 (.appS 5 1 (.tmp 12) (.tmp 13)),oM 4 14]),([14],[oM 12 0,oM 13 5,oD 14 (.appNS 5 1 (.tmp 12) (.tmp 13)),oM 4 14])] [0,5,12,13,14]
abbrev F_15:SFunc:=⟨15,(.seq c_15_0 (.seq c_15_1 (.seq c_15_2 .ret))),[.tmp 4],true⟩
theorem tf_15:z6 Go.Proofs.Tryz.prog 84 (hintT [(9,0)]) (fpT []) (killT (klN 0 F_15.code.kl)) true=some F_15:=by kernel_rfl
abbrev c_1_0:=kR [oD 2 (.mov (.val (.string ⟨#[]⟩)))] [2]
abbrev c_1_1:=kV [2060,2061,2062,2063] [oM 7 0,kQ 8 7,kA 9 0 8,oL 10 false 1 9,oM 11 0,kQ 12 11,kA 13 1 12,oL 14 false 1 13,kD 15 125 0 10 14,oM 6 15,kY 16 6 0,kY 17 6 1,kY 18 6 2,oM 3 16,oM 4 17,oM 5 18] [6,7,8,9,10,11,12,13,14,15,16,17,18]
abbrev c_1_2:=kR [oM 19 0,kQ 20 19,kA 21 2 20,oL 22 false 1 21,oM 23 22,oH 24 23 false 5,kG 25 23 false .neq 33 24 0,oQ 26 23 25 true] [5,19,20,21,22,23,24,25]
abbrev c_1_3:=kR [oM 27 0,kQ 28 27,kA 29 2 28,oN (.st 1 (.tmp 29) (.val (.bool true)))] [0,3,4,26,27,28,29]
abbrev c_1_4:=kR [oD 2 (.mov (.val (.string ⟨#[]⟩)))] []
abbrev c_1_5:=kR [oM 30 0,oM 31 4,kQ 32 30,kA 33 1 32,kS 1 33 31] [0,2,4,26,30,31,32,33]
abbrev c_1_6:=kR [oM 34 3,oM 2 34] [3,34]
abbrev F_1:SFunc:=⟨35,(.seq c_1_0 (.seq c_1_1 (.seq (.seq c_1_2 (.cond (.tmp 26) (.seq c_1_3 (.seq c_1_4 .ret)) .skip)) (.seq c_1_5 (.seq c_1_6 .ret))))),[.tmp 2],false⟩
theorem tf_1:kU 85 [(15,0)] [] F_1:=by unfold kU;kernel_rfl
abbrev c_0_0:=kR [kI 2 0] [2]
abbrev c_0_1:=kV [2060,2061,2062,2063] [oM 7 0,kQ 8 7,kA 9 0 8,oL 10 false 1 9,oM 11 0,kQ 12 11,kA 13 1 12,oL 14 false 1 13,kD 15 124 0 10 14,oM 6 15,kY 16 6 0,kY 17 6 1,kY 18 6 2,oM 3 16,oM 4 17,oM 5 18] [6,7,8,9,10,11,12,13,14,15,16,17,18]
abbrev c_0_2:=kR [oM 19 0,kQ 20 19,kA 21 2 20,oL 22 false 1 21,oM 23 22,oH 24 23 false 5,kG 25 23 false .neq 33 24 0,oQ 26 23 25 true] [5,19,20,21,22,23,24,25]
abbrev c_0_3:=kR [oM 27 0,kQ 28 27,kA 29 2 28,oN (.st 1 (.tmp 29) (.val (.bool true)))] [0,3,4,26,27,28,29]
abbrev c_0_4:=kR [kI 2 0] []
abbrev c_0_5:=kR [oM 30 0,oM 31 4,kQ 32 30,kA 33 1 32,kS 1 33 31] [0,2,4,26,30,31,32,33]
abbrev c_0_6:=kR [oM 34 3,oM 2 34] [3,34]
abbrev F_0:SFunc:=⟨35,(.seq c_0_0 (.seq c_0_1 (.seq (.seq c_0_2 (.cond (.tmp 26) (.seq c_0_3 (.seq c_0_4 .ret)) .skip)) (.seq c_0_5 (.seq c_0_6 .ret))))),[.tmp 2],false⟩
theorem tf_0:kU 86 [(15,0)] [] F_0:=by unfold kU;kernel_rfl
abbrev c_14_0:=kV [4] [oD 4 (.new [(.string ⟨#[]⟩),(.int .i64 0),(.int .i64 0),(.bool false)]),kT 5 false] [5]
abbrev c_14_1:=kV [2036,2037,2038,2039,6] [oM 8 0,oD 9 (.callv (.tmp 8) 1 []),oD 10 (.build [(.string ⟨#[]⟩),(.int .i64 0),(.int .i64 0),(.bool false)] [(0,1,(.tmp 9))]),oD 6 (.new [(.string ⟨#[]⟩),(.int .i64 0),(.int .i64 0),(.bool false)]),kS 4 6 10] [0,8,9,10]
abbrev c_14_2:=kV [2048,2049,2050,2051] [oM 11 1,oD 12 (.callv (.tmp 11) 1 []),kA 13 1 6,kA 14 0 13,kS 1 14 12] [11,12,13,14]
abbrev c_14_3:=kV [2064,2065,2066,2067] [oM 15 1,oD 16 (.callv (.tmp 15) 1 []),kA 17 1 6,kA 18 1 17,kS 1 18 16] [15,16,17,18]
abbrev c_14_4:=kV [2080,2081,2082,2083] [oM 19 1,oD 20 (.callv (.tmp 19) 1 []),oM 7 20] [1,19,20]
abbrev c_14_5:=kR [oM 21 7,kK 22 .eql 3 21 1,kA 23 3 6,kS 1 23 22] [21,22,23]
abbrev c_14_6:=kR [oL 24 true 4 6,oM 25 7,kK 26 .eql 3 25 0,oM 27 26,oH 28 27 false 7,kG 29 27 false .eql 3 28 1,oQ 30 27 29 true,kS 4 4 24,oM 5 30] [6,7,24,25,26,27,28,29,30]
abbrev F_14:SFunc:=⟨31,(.seq c_14_0 (.seq c_14_1 (.seq c_14_2 (.seq c_14_3 (.seq c_14_4 (.seq c_14_5 (.seq c_14_6 .ret))))))),[.cell true 4 4,.tmp 5],false⟩
theorem tf_14:kU 87 [(9,1),(12,1),(16,1),(20,1)] [] F_14:=by unfold kU;kernel_rfl
abbrev c_18_0:=kR [kT 2 false] [2]
abbrev c_18_1:=kR [oM 3 0,oD 4 (.bin .geq 5 (.tmp 3) (.val (.int .u8 97))),oM 5 4,oH 6 5 true 0,oG 7 5 true (.bin .leq 5 (.tmp 6) (.val (.int .u8 122))),oP 8 5 7 false,oM 2 8] [0,3,4,5,6,7,8]
abbrev F_18:SFunc:=⟨9,(.seq c_18_0 (.seq c_18_1 .ret)),[.tmp 2],false⟩
theorem tf_18:kU 128 [] [] F_18:=by unfold kU;kernel_rfl
def funcs:Nat→Option SFunc
 |11=>some F_27
 |19=>some F_6
 |33=>some F_11
 |34=>some F_9
 |38=>some F_13
 |41=>some F_8
 |42=>some F_7
 |43=>some F_30
 |44=>some F_12
 |69=>some F_17
 |70=>some F_16
 |71=>some F_33
 |72=>some F_10
 |81=>some F_32
 |84=>some F_15
 |85=>some F_1
 |86=>some F_0
 |87=>some F_14
 |128=>some F_18
 |_=>none
end Go.Sh.Cd4
end

section
namespace Go.Proofs.YtcpaleaajdilgaaGreatDoor
open Go Go.RowKit Go.Mor Go.Sh
set_option maxRecDepth 100000
set_option maxHeartbeats 8000000
def ex4F:Nat→Option SFunc
 |11=>some Cd4.F_27
 |19=>some Cd4.F_6
 |48=>some Cd1.F_42
 |56=>some Cd1.F_38
 |41=>some Cd4.F_8
 |42=>some Cd4.F_7
 |34=>some Cd4.F_9
 |43=>some Cd4.F_30
 |33=>some Cd4.F_11
 |44=>some Cd4.F_12
 |38=>some Cd4.F_13
 |88=>some Cd1.F_46
 |89=>some Cd1.F_61
 |90=>some Cd1.F_60
 |91=>some Cd1.F_31
 |73=>some Cd1.F_62
 |109=>some Cd1.F_54
 |110=>some Cd1.F_39
 |84=>some Cd4.F_15
 |85=>some Cd4.F_1
 |86=>some Cd4.F_0
 |87=>some Cd4.F_14
 |71=>some Cd4.F_33
 |72=>some Cd4.F_10
 |69=>some Cd4.F_17
 |70=>some Cd4.F_16
 |81=>some Cd4.F_32
 |159=>some Cd1.F_55
 |160=>some Cd1.F_34
 |128=>some Cd4.F_18
 |_=>none
theorem ex4F_ok:FuncsOk Tryz.prog ex4F:=by
 intro f G h;unfold ex4F at h;split at h
 ·cases h;exact⟨_,_,_,_,Cd4.tf_27⟩
 ·cases h;exact⟨_,_,_,_,Cd4.tf_6⟩
 ·cases h;exact⟨_,_,_,_,Cd1.tf_42⟩
 ·cases h;exact⟨_,_,_,_,Cd1.tf_38⟩
 ·cases h;exact⟨_,_,_,_,Cd4.tf_8⟩
 ·cases h;exact⟨_,_,_,_,Cd4.tf_7⟩
 ·cases h;exact⟨_,_,_,_,Cd4.tf_9⟩
 ·cases h;exact⟨_,_,_,_,Cd4.tf_30⟩
 ·cases h;exact⟨_,_,_,_,Cd4.tf_11⟩
 ·cases h;exact⟨_,_,_,_,Cd4.tf_12⟩
 ·cases h;exact⟨_,_,_,_,Cd4.tf_13⟩
 ·cases h;exact⟨_,_,_,_,Cd1.tf_46⟩
 ·cases h;exact⟨_,_,_,_,Cd1.tf_61⟩
 ·cases h;exact⟨_,_,_,_,Cd1.tf_60⟩
 ·cases h;exact⟨_,_,_,_,Cd1.tf_31⟩
 ·cases h;exact⟨_,_,_,_,Cd1.tf_62⟩
 ·cases h;exact⟨_,_,_,_,Cd1.tf_54⟩
 ·cases h;exact⟨_,_,_,_,Cd1.tf_39⟩
 ·cases h;exact⟨_,_,_,_,Cd4.tf_15⟩
 ·cases h;exact⟨_,_,_,_,Cd4.tf_1⟩
 ·cases h;exact⟨_,_,_,_,Cd4.tf_0⟩
 ·cases h;exact⟨_,_,_,_,Cd4.tf_14⟩
 ·cases h;exact⟨_,_,_,_,Cd4.tf_33⟩
 ·cases h;exact⟨_,_,_,_,Cd4.tf_10⟩
 ·cases h;exact⟨_,_,_,_,Cd4.tf_17⟩
 ·cases h;exact⟨_,_,_,_,Cd4.tf_16⟩
 ·cases h;exact⟨_,_,_,_,Cd4.tf_32⟩
 ·cases h;exact⟨_,_,_,_,Cd1.tf_55⟩
 ·cases h;exact⟨_,_,_,_,Cd1.tf_34⟩
 ·cases h;exact⟨_,_,_,_,Cd4.tf_18⟩
 ·cases h
theorem ex4_run:callF Tryz.prog ex4F prim1 100 14 11 [] []=some (.pv (.v (.bool true)),[]):=by kernel_rfl
theorem ex4_ok(a0 a1:Addr)(n:Nat):SCalls Tryz.prog (gl a0 a1 n) 11 [] [] (.pv (.v (.bool true))) []:=
 callF_sound (by kernel_rfl) ex4F_ok (z91 a0 a1 n) 14 _ _ _ _ _ ex4_run
end Go.Proofs.YtcpaleaajdilgaaGreatDoor
end

section
namespace Go.Sh
open Go Go.RowKit
set_option maxHeartbeats 2000000
structure MapTurn(b:Nat)(w w':World):Prop where
 os:w'.os=w.os
 tape:w'.tape=w.tape
 output:w'.output=w.output
 size:w'.heap.size=w.heap.size
 block:∀k,k≠b→w'.heap[k]?=w.heap[k]?
theorem MapTurn.refl(b:Nat)(w:World):MapTurn b w w:=⟨rfl,rfl,rfl,rfl,fun _ _=>rfl⟩
theorem MapTurn.trans{b:Nat}{w w' w'':World}(h:MapTurn b w w')(h':MapTurn b w' w''):MapTurn b w w'':=
 ⟨h'.os.trans h.os,h'.tape.trans h.tape,h'.output.trans h.output,h'.size.trans h.size,fun k hk=>(h'.block k hk).trans (h.block k hk)⟩
section
variable{P:Program}{ops:Array Oper}{Q:Exit→Act→World→Prop}{a:Act}{w:World}{t kt et:TypeId}{text:Bool}{m b:Nat}
end
end Go.Sh
end

section
namespace Go.Proofs.YtcpaleaajdilgaaGreatDoor
open Go Go.RowKit Go.Mor Go.Sh Go.Sh.Cd1
set_option maxRecDepth 100000
set_option maxHeartbeats 4000000
theorem e0:(⟨#[]⟩:ByteArray)=str []:=rfl
theorem decode_str(l:List UInt8)(p:Nat):Utf8.decode (str l) p=Lib.decodeL (l.drop p):=by rw[←Lib.decodeL_drop,str_toList]
def B(b:Bool):TV:=.pv (.v (.bool b))
theorem plain_ok(g:Sh.Glob)(r:Nat):SCalls Tryz.prog g 159 [.pv (.v (.int .i32 (r:Int)))] [] (B (plainR r)) []:=by
 refine z8 hmix tf_55 rfl ?_;have h1:decide ((32:Int)≤(r:Int))=decide (32≤r):=by rw[Bool.eq_iff_iff];simp;omega
 have h2:decide ((r:Int)=127)=(r==127):=by rw[Bool.eq_iff_iff];simp;omega
 unfold plainR B;by_cases h:32≤r
 ·have d1:(32:Int)≤(r:Int):=by omega
  simp only[vcA,seval,vV,d1,h2,h];rfl
 ·have d1:¬(32:Int)≤(r:Int):=by omega
  simp only[vcA,seval,vV,d1,h]
theorem validString_ok(m:Nat)(l:List UInt8)(hl:l.length≤9223372036854775807):SCalls Tryz.prog (gl0 m) 158 [S (str l)] [] (B (Lib.validD l)) []:=by
 have:=prim0_sound m 158 [S (str l)] [] (B (Lib.validD l)) [] (by simp[prim0,S,B,Nat.beq,str_size',hl,str_toList]);exact this
theorem rightText_ok0(m:Nat)(l:List UInt8)(hl:l.length≤9223372036854775807):SCalls Tryz.prog (gl0 m) 89 [S (str l)] [] (B (z15 l)) []:=by
 refine z8 hmix tf_61 rfl ?_;have HV:=validString_ok m l hl;unfold z15 B at*;by_cases h60:(l.length:Int)≤60
 ·have d1:¬(60:Int)<(l.length:Int):=by omega
  have h60':l.length≤60:=by omega
  simp only[vcA,seval,vV,d1];(with_reducible apply v_call);exact kv;rfl;exact HV;exact km;exact kv;cases hv:Lib.validD l
  ·simp only[vcA,seval,vV]
  simp only[vcA,seval,vV];refine v_loop (σ:={p:Nat // p≤l.length∧plainD l=plainD (l.drop p)}) (fun p=>⟨[(14,.it 14)],[],[],[(14,(str l,p.1))]⟩) (fun p=>l.length-p.1) ⟨0,Nat.zero_le _,rfl⟩ (lw_eq rfl) ?_;rintro⟨p,hp,hd⟩;by_cases hlt:p<l.length
  ·have hne:l.drop p≠[]:=by rw[Ne,List.drop_eq_nil_iff];omega
   rw[plainD_step _ hne]at hd;have hle:=Lib.decodeL_le (l.drop p) hne;have hw:=Lib.decodeL_width (l.drop p);rw[List.length_drop]at hle;have HP:=plain_ok (gl0 m) (Lib.decodeL (l.drop p)).1;unfold B at HP;simp only[vcA,seval,vV,hlt,decode_str];(with_reducible apply v_call);exact kv;rfl;exact HP;exact km;exact kv;cases hr:plainR (Lib.decodeL (l.drop p)).1
   ·rw[hr]at hd;simp only[vcA,seval,vV];simp[hd]
   ·simp only[vcA,seval,vV];rw[hr,Bool.true_and,List.drop_drop]at hd;refine z11 ⟨p+(Lib.decodeL (l.drop p)).2,by omega,hd⟩ (by show l.length-(p+_)<l.length-p;omega) ?_;apply lw_of<;>simp[leL,lk,sv,Nat.beq,I,S,ES.kill,has,drp,nilT]
  ·simp only[vcA,seval,vV,hlt,h60'];have hnil:l.drop p=[]:=List.drop_eq_nil_of_le (by omega);rw[hnil]at hd;rw[hd];rfl
 ·have d1:(60:Int)<(l.length:Int):=by omega
  have h60':¬l.length≤60:=by omega
  simp only[vcA,seval,vV,d1];simp[h60']
theorem bare_ok(g:Sh.Glob)(x:V):SCalls Tryz.prog g 88 [tv x] [] (B (bare x)) []:=by
 refine z8 hmix tf_46 rfl ?_;have h1:decide ((x.l.length:Int)=0)=(x.l.length==0):=by rw[Bool.eq_iff_iff];simp
 unfold bare B;cases h:x.s==[]
 ·simp only[vcA,seval,vV,e0,h]
 ·simp only[vcA,seval,vV,e0,h,h1]
theorem rightID_ok(g:Sh.Glob)(n:Int):SCalls Tryz.prog g 90 [I n] [] (B (z71 n)) []:=by
 refine z8 hmix tf_60 rfl ?_;unfold B;simp only[vcA,seval,vV];unfold z71
 repeat' (first|(apply And.intro)|(intro _))
 all_goals(first|rfl|(simp;omega)|(simp_all;done)|(simp_all;omega))
theorem right1_mk(k n:Int)(s:List UInt8)(l:List V):right1 (.mk k n s l)=if k=0 then bare (.mk k n s l)&&n==0
 else if k=1 then bare (.mk k n s l)&&decide (-1000000000000000≤n)&&decide (n≤1000000000000000)
 else if k=2 then n==0&&l.length==0&&z15 s
 else if k=3∨k=4 then bare (.mk k n s l)&&z71 n
 else false:=rfl
theorem right1_ok0(m:Nat)(x:V)(hs:TextsOk x)(h5:x.k≠5):SCalls Tryz.prog (gl0 m) 48 [tv x] [] (B (right1 x)) []:=by
 obtain⟨k,n,s,l⟩:=x;have HB:=bare_ok (gl0 m) (.mk k n s l);have HI:=rightID_ok (gl0 m) n;have HT:=rightText_ok0 m s hs;have hln:decide ((l.length:Int)=0)=(l.length==0):=by rw[Bool.eq_iff_iff];simp
 have k5:¬k=5:=h5;clear h5 hs;rw[right1_mk];generalize bare (.mk k n s l)=b at HB ⊢;refine z8 hmix tf_42 rfl ?_;unfold B at*;by_cases k0:k=0
 ·subst k0;have hn0:decide (n=0)=(n==0):=by rw[Bool.eq_iff_iff];simp
  simp only[vcA,seval,vV];(with_reducible apply v_call);exact kv;rfl;exact HB;exact km;exact kv;cases b<;>simp only[vcA,seval,vV,hn0]
 rw[if_neg k0];by_cases k1:k=1
 ·subst k1;simp only[vcA,seval,vV];(with_reducible apply v_call);exact kv;rfl;exact HB;exact km;exact kv;cases b
  ·simp only[vcA,seval,vV]
  ·by_cases q1: -1000000000000000≤n<;>by_cases q2:n≤1000000000000000<;>simp only[vcA,seval,vV,q1,q2]
 rw[if_neg k1];by_cases k2:k=2
 ·subst k2;by_cases n0:n=0
  ·subst n0;cases hl:l.length==0
   ·simp only[vcA,seval,vV,hln,hl]
   ·simp only[vcA,seval,vV,hln,hl];(with_reducible apply v_call);exact kv;rfl;exact HT;exact km;exact kv;simp only[vcA,seval,vV]
  ·have hn0:(n==0)=false:=by simpa using n0
   simp only[vcA,seval,vV,n0,hn0]
 rw[if_neg k2];by_cases k3:k=3
 ·subst k3;simp only[vcA,seval,vV];(with_reducible apply v_call);exact kv;rfl;exact HB;exact km;exact kv;cases b
  ·simp only[vcA,seval,vV]
  ·simp only[vcA,seval,vV];(with_reducible apply v_call);exact kv;rfl;exact HI;exact km;exact kv;simp only[vcA,seval,vV]
 by_cases k4:k=4
 ·subst k4;simp only[vcA,seval,vV];(with_reducible apply v_call);exact kv;rfl;exact HB;exact km;exact kv;cases b
  ·simp only[vcA,seval,vV]
  ·simp only[vcA,seval,vV];(with_reducible apply v_call);exact kv;rfl;exact HI;exact km;exact kv;simp only[vcA,seval,vV]
 simp only[vcA,seval,vV,k0,k1,k2,k3,k4,k5]
theorem noItem_ok0(m:Nat)(x:V)(hs:TextsOk x):SCalls Tryz.prog (gl0 m) 92 [tv x] [] (B (noItem x)) []:=by
 refine z8 hmix tf_51 rfl ?_;unfold noItem B;by_cases k5:x.k=5
 ·have h:(x.k==5)=true:=by simp[k5]
  have d:decide (x.k=5)=true:=by simp[k5]
  simp only[vcA,seval,vV,d,h];rfl
 ·have HR:=right1_ok0 m x hs k5;have h:(x.k==5)=false:=by simpa using k5
  unfold B at HR;simp only[vcA,seval,vV,k5,h];(with_reducible apply v_call);exact kv;rfl;exact HR;exact km;exact kv;simp only[vcA,seval,vV]
theorem z74{α:Type}(p:α→Bool):∀(l:List α) (i:Nat),(∀j x,j<i→l[j]?=some x→p x=false)→∀x,l[i]?=some x→p x=true→z40 p l=i
 |[],i,_,x,hx,_=>by simp at hx
 |a::l,0,_,x,hx,hp=>by simp at hx;subst hx;simp[z40,List.findIdx?_cons,hp]
 |a::l,i+1,h,x,hx,hp=>by
  have h0:=h 0 a (by omega) rfl;have:=z74 p l i (fun j y hj hy=>h (j+1) y (by omega) (by simpa using hy)) x (by simpa using hx) hp;unfold z40 at this ⊢;rw[List.findIdx?_cons,h0];cases hf:l.findIdx? p with
  |none=>rw[hf]at this;simp only at this;omega
  |some q=>rw[hf]at this;simp only at this ⊢;simp;omega
theorem z77{α:Type}(p:α→Bool)(l:List α)(h:∀x∈l,p x=false):z40 p l= -1:=by
 have:l.findIdx? p=none:=List.findIdx?_eq_none_iff.2 h;unfold z40;rw[this]
theorem firstAt_any{α:Type}(p:α→Bool)(l:List α):decide (0≤z40 p l)=l.any p:=by
 rw[Bool.eq_iff_iff,decide_eq_true_eq,List.any_eq_true];constructor
 ·intro h;by_cases hn:∀x∈l,p x=false
  ·rw[z77 p l hn]at h;omega
  ·obtain⟨x,hx⟩:=Classical.not_forall.1 hn;obtain⟨hx,hp⟩:=Classical.not_imp.1 hx;exact⟨x,hx,by simpa using hp⟩
 ·rintro⟨x,hx,hp⟩;unfold z40;cases hf:l.findIdx? p with
  |none=>rw[List.findIdx?_eq_none_iff.1 hf x hx]at hp;cases hp
  |some i=>simp
theorem indexNo_ok(m:Nat)(l:List V)(hl:l.length≤maxLen)(hs:∀x∈l,TextsOk x):SCalls Tryz.prog (gl0 m) 160 [.pv (.sl 4 (V.rows l)),.pv (.v (.func (.func 92) #[] #[]))] [] (I (z40 noItem l)) []:=by
 refine z8 hmix tf_34 rfl ?_;have hm:maxLen=9223372036854775807:=rfl;simp only[vcA,seval,vV];refine v_loop (σ:={i:Nat // i≤l.length∧∀j x,j<i→l[j]?=some x→noItem x=false}) (fun i=>⟨[(0,.pv (.sl 4 (V.rows l))),(1,.pv (.v (.func (.func 92) #[] #[]))),(7,I (l.length:Int)),(8,I (i.1:Int))],[],[],[]⟩) (fun i=>l.length-i.1) ⟨0,Nat.zero_le _,fun j x hj=>by omega⟩ (lw_eq (by simp[I])) ?_;rintro⟨i,hi,hno⟩;by_cases hlt:i<l.length
 ·have d1:(i:Int)<(l.length:Int):=by omega
  obtain⟨x,ex⟩:∃x,l[i]?=some x:=⟨_,gE hlt⟩
  have HN:=noItem_ok0 m x (hs x (gM ex));have w1:IntKind.i64.wrap ((i:Int)+1)=((i+1:Nat):Int):=by rw[wrap64 (by omega) (by omega)];omega
  unfold tv B at HN;simp only[vcA,seval,vV,d1,ex];(with_reducible apply z41);exact kv;exact HN;rfl;exact kv;cases hp:noItem x
  ·simp only[vcA,seval,vV,w1];refine z11 ⟨i+1,by omega,fun j y hj hy=> ?_⟩ (by show l.length-(i+1)<l.length-i;omega) ?_
   ·by_cases hji:j=i
    ·subst hji;rw[ex]at hy;cases hy;exact hp
    ·exact hno j y (by omega) hy
   ·apply lw_of<;>simp[leL,lk,sv,Nat.beq,I,S,ES.kill,has,drp,nilT]
  ·simp only[vcA,seval,vV];rw[z74 noItem l i hno x ex hp]
 ·have d1:¬(i:Int)<(l.length:Int):=by omega
  simp only[vcA,seval,vV,d1];rw[z77 noItem l (fun x hx=>by
   obtain⟨j,hj⟩:=List.getElem?_of_mem hx;exact hno j x (by have:=(gJ hj).1;omega) hj)]
theorem containsNo_ok(m:Nat)(l:List V)(hl:l.length≤maxLen)(hs:∀x∈l,TextsOk x):SCalls Tryz.prog (gl0 m) 91 [.pv (.sl 4 (V.rows l)),.pv (.v (.func (.func 92) #[] #[]))] [] (B (l.any noItem)) []:=by
 refine z8 hmix tf_31 rfl ?_;have HI:=indexNo_ok m l hl hs;rw[←firstAt_any];unfold B;simp only[vcA,seval,vV];(with_reducible apply v_call);exact kv;rfl;exact HI;exact km;exact kv;simp only[vcA,seval,vV]
theorem z121(m:Nat)(x:V)(hx:VOk x):SCalls Tryz.prog (gl0 m) 48 [tv x] [] (B (rightV x)) []:=by
 unfold rightV;by_cases k5:x.k=5
 ·rw[if_pos k5];obtain⟨k,n,s,l⟩:=x;simp only[Vk]at k5;subst k5;simp only[Vn,Vs,Vl];refine z8 hmix tf_42 rfl ?_;unfold B;by_cases n0:n=0
  ·subst n0;cases hs:s==[]
   ·simp only[vcA,seval,vV,e0,hs]
   ·by_cases h12:l.length≤12
    ·have d1:(l.length:Int)≤12:=by omega
     have HC:=containsNo_ok m l (by unfold maxLen;omega) (fun y hy=>hx.2 y hy);unfold B at HC;simp only[vcA,seval,vV,e0,hs,d1,h12];(with_reducible apply v_call);exact kv;rfl;exact HC;exact km;exact kv;simp only[vcA,seval,vV]
    ·have d1:¬(l.length:Int)≤12:=by omega
     simp only[vcA,seval,vV,e0,hs,d1,h12]
  ·have hn0:(n==0)=false:=by simpa using n0
   simp only[vcA,seval,vV,n0,hn0]
 ·rw[if_neg k5];exact right1_ok0 m x hx.1 k5
theorem rightType_ok(g:Sh.Glob)(t:Ty):SCalls Tryz.prog g 73 [tyT t] [] (B (z24 t)) []:=by
 refine z8 hmix tf_62 rfl ?_;obtain⟨k,o⟩:=t;unfold B;simp only[vcA,seval,vV];unfold z24
 repeat' (first|(apply And.intro)|(intro _))
 all_goals(first|(simp_all;done)|(simp_all;omega))
theorem ofKind_ok(g:Sh.Glob)(x:V)(k:Int):SCalls Tryz.prog g 109 [tv x,I k] [] (B (ofKind x k)) []:=by
 refine z8 hmix tf_54 rfl ?_;unfold B;simp only[vcA,seval,vV];unfold ofKind
 repeat' (first|(apply And.intro)|(intro _))
 all_goals(first|(simp_all;done)|(simp only[Option.some.injEq,TV.pv.injEq,PV.v.injEq,Value.bool.injEq];rw[Bool.eq_iff_iff];simp_all;done)|(simp only[Option.some.injEq,TV.pv.injEq,PV.v.injEq,Value.bool.injEq];rw[Bool.eq_iff_iff];simp_all;omega))
theorem fits1_ok(g:Sh.Glob)(x:V)(t:Ty):SCalls Tryz.prog g 110 [tv x,.ptr 1000 0] [.box [I t.k,I t.o]] (B (!ofKind x t.o)) [.box [I t.k,I t.o]]:=by
 refine z25 hmix tf_39 rfl rfl rfl ?_;have HK:=ofKind_ok g x t.o;unfold B at*;simp only[vcA,seval,vV];(with_reducible apply v_call);exact kv;rfl;exact HK;exact km;exact kv;simp only[vcA,seval,vV]
theorem indexFits_ok(g:Sh.Glob)(l:List V)(t:Ty)(hl:l.length≤maxLen):SCalls Tryz.prog g 160 [.pv (.sl 4 (V.rows l)),.fn (.func 110) [] [.ptr 1000 0]] [.box [I t.k,I t.o]] (I (z40 (fun y=> !ofKind y t.o) l)) [.box [I t.k,I t.o]]:=by
 refine z25 hmix tf_34 rfl rfl rfl ?_;have hm:maxLen=9223372036854775807:=rfl;simp only[vcA,seval,vV];refine v_loop (σ:={i:Nat // i≤l.length∧∀j x,j<i→l[j]?=some x→(!ofKind x t.o)=false}) (fun i=>⟨[(0,.pv (.sl 4 (V.rows l))),(1,.fn (.func 110) [] [.ptr 1000 0]),(7,I (l.length:Int)),(8,I (i.1:Int))],[(1000,[I t.k,I t.o])],[],[]⟩) (fun i=>l.length-i.1) ⟨0,Nat.zero_le _,fun j x hj=>by omega⟩ (lw_eq (by simp[I])) ?_;rintro⟨i,hi,hno⟩;by_cases hlt:i<l.length
 ·have d1:(i:Int)<(l.length:Int):=by omega
  obtain⟨x,ex⟩:∃x,l[i]?=some x:=⟨_,gE hlt⟩
  have HN:=fits1_ok g x t;have w1:IntKind.i64.wrap ((i:Int)+1)=((i+1:Nat):Int):=by rw[wrap64 (by omega) (by omega)];omega
  unfold tv B at HN;simp only[vcA,seval,vV,d1,ex];(with_reducible apply z41);exact kv;exact HN;rfl;exact kv;cases hp:ofKind x t.o
  ·simp only[vcA,seval,vV];rw[z74 (fun y=> !ofKind y t.o) l i hno x ex (by simp[hp])]
  ·simp only[vcA,seval,vV,w1];refine z11 ⟨i+1,by omega,fun j y hj hy=> ?_⟩ (by show l.length-(i+1)<l.length-i;omega) ?_
   ·by_cases hji:j=i
    ·subst hji;rw[ex]at hy;cases hy;simp[hp]
    ·exact hno j y (by omega) hy
   ·apply lw_of<;>simp[leL,lk,sv,Nat.beq,I,S,ES.kill,has,drp,nilT]
 ·have d1:¬(i:Int)<(l.length:Int):=by omega
  simp only[vcA,seval,vV,d1];rw[z77 (fun y=> !ofKind y t.o) l (fun x hx=>by
   obtain⟨j,hj⟩:=List.getElem?_of_mem hx;exact hno j x (by have:=(gJ hj).1;omega) hj)]
theorem containsFits_ok(g:Sh.Glob)(l:List V)(t:Ty)(hl:l.length≤maxLen):SCalls Tryz.prog g 91 [.pv (.sl 4 (V.rows l)),.fn (.func 110) [] [.ptr 1000 0]] [.box [I t.k,I t.o]] (B (l.any fun y=> !ofKind y t.o)) [.box [I t.k,I t.o]]:=by
 refine z25 hmix tf_31 rfl rfl rfl ?_;have HI:=indexFits_ok g l t hl;rw[←firstAt_any];unfold B;simp only[vcA,seval,vV];(with_reducible apply v_call);exact kv;rfl;exact HI;exact km;exact kv;simp only[vcA,seval,vV]
theorem fits_ok0(m:Nat)(x:V)(t:Ty)(hx:VOk x)(hl:x.l.length≤maxLen):SCalls Tryz.prog (gl0 m) 56 [tv x,tyT t] [] (B (fitsV x t)) []:=by
 refine z8 hmix tf_38 rfl ?_;have HR:=z121 m x hx;have HT:=rightType_ok (gl0 m) t;have HK:=ofKind_ok (gl0 m) x t.k;have HC:=containsFits_ok (gl0 m) x.l t hl;unfold fitsV B at*;simp only[vcA,seval,vV];(with_reducible apply v_call);exact kv;rfl;exact HR;exact km;exact kv;cases rightV x
 ·simp only[vcA,seval,vV]
 simp only[vcA,seval,vV];(with_reducible apply v_call);exact kv;rfl;exact HT;exact km;exact kv;cases z24 t
 ·simp only[vcA,seval,vV]
 simp only[vcA,seval,vV];(with_reducible apply v_call);exact kv;rfl;exact HK;exact km;exact kv;cases ofKind x t.k
 ·simp only[vcA,seval,vV]
 simp only[vcA,seval,vV];(with_reducible apply v_call);exact kv;rfl;exact HC;exact km;exact kv;simp only[vcA,seval,vV]
end Go.Proofs.YtcpaleaajdilgaaGreatDoor
end

section
namespace Go.Mor
open Go
structure Pc where
 k:Int
 n:Int
 s:List UInt8
 p:Nat
def digB(b:UInt8):Bool:=decide (48≤b.toNat∧b.toNat≤57)
def numG:List UInt8→Int→Nat→Int×Nat
 |[],n,z=>(n,z)
 |b::r,n,z=>if digB b then numG r (min (10*n+((b.toNat:Int) - 48)) 1000000000000001) (z+1)else(n,z)
def nameZ:List UInt8→Nat
 |[]=>0
 |b::r=>if nameB b then nameZ r+1 else 0
def quoG:List UInt8→List UInt8→Nat→Option (List UInt8×Nat)
 |[],_,_=>none
 |b::r,acc,k=>if b=34 then(if z15 acc then some (acc,k+1)else none)
  else if b=92 then(match r with
   |[]=>none
   |c::r'=>if c=34∨c=92 then quoG r' (acc++[c]) (k+2)else none)
  else quoG r (acc++[b]) (k+1)
def signP:List UInt8→List UInt8
 |[]=>[]
 |b::r=>if b=60 then(if r.head?=some 62 then [60,62] else if r.head?=some 61 then [60,61] else [60])
  else if b=62 then(if r.head?=some 61 then [62,61] else [62])
  else if b=61∨b=38∨b=43∨b=45∨b=42∨b=47∨b=37∨b=40∨b=41∨b=44 then [b] else []
def readP(l:List UInt8)(at_:Nat):Option (Pc×Nat):=
 match l with
 |[]=>none
 |b::r=>
  if digB b then(if 1000000000000000<(numG l 0 0).1 then none else some (⟨1,(numG l 0 0).1,[],at_⟩,(numG l 0 0).2))
  else if small b then(if z26 (l.take (nameZ l))then some (⟨3,0,l.take (nameZ l),at_⟩,nameZ l)else none)
  else if b=34 then(match quoG r [] 1 with
   |some (t,k)=>some (⟨2,0,t,at_⟩,k)
   |none=>none)
  else if signP l=[] then none else some (⟨4,0,signP l,at_⟩,(signP l).length)
inductive Lx where
 |ok (L:List Pc)
 |bad (p:Nat)
def lexG:Nat→List UInt8→Nat→List Pc→Option Lx
 |0,_,_,_=>none
 |f+1,l,at_,acc=>match l with
  |[]=>some (.ok acc)
  |b::r=>if b=32 then lexG f r (at_+1) acc else match readP l at_ with
   |none=>some (.bad at_)
   |some (q,z)=>lexG f (l.drop z) (at_+z) (acc++[q])
inductive Rs(α:Type) where
 |ok (e:α) (p:Nat)
 |bad (a p:Nat)
end Go.Mor
end

section
namespace Go.Sh.Cd5
open Go Go.Sh
set_option maxRecDepth 100000
noncomputable def funcs:Nat→Option SFunc
 |_=>none
end Go.Sh.Cd5
end

section
namespace Go.Mor
open Go
set_option maxHeartbeats 2000000
abbrev T3:=Int×Int×List UInt8
def er(q:Pc):T3:=(q.k,q.n,q.s)
def LexP(t:List UInt8)(ts:List T3)(post:List UInt8):Prop:=
 ∀(f a:Nat) (acc:List Pc),t.length+post.length<f→∃f' L,post.length<f'∧L.map er=ts∧lexG f (t++post) a acc=lexG f' post (a+t.length) (acc++L)
theorem LexP.nil(post:List UInt8):LexP [] [] post:=fun f a acc h=>⟨f,[],by simpa using h,rfl,by simp⟩
theorem LexP.app{t1 t2:List UInt8}{ts1 ts2:List T3}{post:List UInt8}(h1:LexP t1 ts1 (t2++post))(h2:LexP t2 ts2 post):LexP (t1++t2) (ts1++ts2) post:=by
 intro f a acc hf;obtain⟨f1,L1,a1,a2,a3⟩:=h1 f a acc (by simp only[List.length_append]at hf ⊢;omega);obtain⟨f2,L2,b1,b2,b3⟩:=h2 f1 (a+t1.length) (acc++L1) (by simpa using a1);refine⟨f2,L1++L2,b1,by rw[List.map_append,a2,b2],?_⟩;rw[List.append_assoc,a3,b3,List.append_assoc,List.length_append,Nat.add_assoc]
end Go.Mor
end

section
namespace Go.Proofs.YtcpaleaajdilgaaGreatDoor
open Go Go.RowKit Go.Mor Go.Sh Go.Sh.Cd1 Go.Sh.Cd5
set_option maxRecDepth 100000
set_option maxHeartbeats 4000000
section
variable(g:Sh.Glob)(L:List Pc)(sz:Nat)
variable{g L sz}
theorem rows_snoc(l:List V)(x:V):V.rows (l++[x])=V.rows l++[[.v (.int .i64 x.k),.v (.int .i64 x.n),.v (.string (str x.s)),.sl 4 (V.rows x.l)]]:=by rw[rows_eq,rows_eq,List.map_append,List.map_cons,List.map_nil,row4]
end
end Go.Proofs.YtcpaleaajdilgaaGreatDoor
end

section
namespace Go.Proofs.YtcpaleaajdilgaaGreatDoor
open Go Go.RowKit Go.Mor Go.Sh Go.Sh.Cd1 Go.Sh.Cd4 Go.Sh.Cd5
set_option maxRecDepth 100000
set_option maxHeartbeats 4000000
theorem drop_cons{l:List UInt8}{k:Nat}{c:UInt8}(h:l[k]?=some c):l.drop k=c::l.drop (k+1):=by
 obtain⟨hk,he⟩:=gJ h;rw[List.drop_eq_getElem_cons hk,he]
theorem small_ok(g:Sh.Glob)(b:UInt8):SCalls Tryz.prog g 128 [.pv (.v (.int .u8 (b.toNat:Int)))] [] (B (small b)) []:=by
 refine z8 hmix tf_18 rfl ?_;unfold small B;by_cases q1:97≤b.toNat
 ·have d1:(97:Int)≤(b.toNat:Int):=by omega
  have q2:decide ((b.toNat:Int)≤122)=decide (b.toNat≤122):=by rw[Bool.eq_iff_iff];simp;omega
  simp only[vcA,seval,vV,d1,q2,q1];first|done|simp
 ·have d1:¬(97:Int)≤(b.toNat:Int):=by omega
  simp only[vcA,seval,vV,d1,q1];first|done|simp
theorem rightName_ok(g:Sh.Glob)(l:List UInt8)(hl:l.length<4611686018427387904):SCalls Tryz.prog g 69 [S (str l)] [] (B (z26 l)) []:=by
 refine z8 hmix tf_17 rfl ?_;by_cases h1:1≤l.length
 ·have d1:¬(l.length:Int)<1:=by omega
  by_cases h20:l.length≤20
  ·have d2:¬(20:Int)<(l.length:Int):=by omega
   obtain⟨c,r,rfl⟩:∃c r,l=c::r:=List.exists_cons_of_ne_nil (by rintro rfl;simp at h1);have HS:=small_ok g c;unfold B at HS ⊢;have e0:(c::r)[0]?=some c:=rfl;have hR:z26 (c::r)=(small c&&(c::r).all nameB):=by
    unfold z26;rw[decide_eq_true ⟨h1,h20⟩];simp
   rw[hR];generalize hL:c::r=l at*;simp only[vcA,seval,vV,d1,d2,e0];(with_reducible apply v_call);exact kv;rfl;exact HS;exact km;exact kv;cases hs:small c
   ·simp only[vcA,seval,vV]
   simp only[vcA,seval,vV,d1,d2];refine v_loop (σ:={ k:Nat // k≤l.length∧(l.drop k).all nameB=l.all nameB })
    (fun k=>⟨[(0,S (str l)),(19,I (l.length:Int)),(20,I (k.1:Int))],[],[],[]⟩) (fun k=>l.length-k.1) ⟨0,Nat.zero_le _,rfl⟩ ?_ ?_
   ·apply lw_of<;>simp[leL,lk,sv,Nat.beq,I,S,ES.kill,has,drp,nilT]
   rintro⟨k,hk,hd⟩;by_cases hlt:k<l.length
   ·have d3:(k:Int)<(l.length:Int):=by omega
    obtain⟨b,eb⟩:∃b,l[k]?=some b:=⟨_,gE hlt⟩
    rw[drop_cons eb,List.all_cons]at hd;have hbn:=b.toNat_lt;have HB:=small_ok g b;unfold B at HB;have w4:IntKind.i64.wrap ((k:Int)+1)=((k+1:Nat):Int):=by rw[wrap64 (by omega) (by omega)];omega
    simp only[vcA,seval,vV,d3,eb];(with_reducible apply v_call);exact kv;rfl;exact HB;exact km;exact kv;cases hsb:small b
    ·by_cases q1:b.toNat<48
     ·have d4:(b.toNat:Int)<48:=by omega
      have d6:¬(b.toNat:Int)=95:=by omega
      have hn:nameB b=false:=by unfold nameB;rw[hsb];simp;omega
      rw[hn,Bool.false_and]at hd;simp only[vcA,seval,vV,d3,eb,d4,d6];rw[←hd]
     ·have d4:¬(b.toNat:Int)<48:=by omega
      by_cases q2:57<b.toNat
      ·have d5:(57:Int)<(b.toNat:Int):=by omega
       by_cases q3:b.toNat=95
       ·have d6:(b.toNat:Int)=95:=by omega
        have hn:nameB b=true:=by unfold nameB;simp[q3]
        rw[hn,Bool.true_and]at hd;simp only[vcA,seval,vV,d3,eb,d4,d5,d6,w4];refine z11 ⟨k+1,hlt,hd⟩ (by show l.length-(k+1)<l.length-k;omega) ?_;apply lw_of<;>simp[leL,lk,sv,Nat.beq,I,S,ES.kill,has,drp,nilT]
       ·have d6:¬(b.toNat:Int)=95:=by omega
        have hn:nameB b=false:=by unfold nameB;rw[hsb];simp;omega
        rw[hn,Bool.false_and]at hd;simp only[vcA,seval,vV,d3,eb,d4,d5,d6];rw[←hd]
      ·have d5:¬(57:Int)<(b.toNat:Int):=by omega
       have hn:nameB b=true:=by unfold nameB;simp;omega
       rw[hn,Bool.true_and]at hd;simp only[vcA,seval,vV,d3,eb,d4,d5,w4];refine z11 ⟨k+1,hlt,hd⟩ (by show l.length-(k+1)<l.length-k;omega) ?_;apply lw_of<;>simp[leL,lk,sv,Nat.beq,I,S,ES.kill,has,drp,nilT]
    ·have hn:nameB b=true:=by unfold nameB;rw[hsb];rfl
     rw[hn,Bool.true_and]at hd;simp only[vcA,seval,vV,d3,eb,w4];refine z11 ⟨k+1,hlt,hd⟩ (by show l.length-(k+1)<l.length-k;omega) ?_;apply lw_of<;>simp[leL,lk,sv,Nat.beq,I,S,ES.kill,has,drp,nilT]
   ·have d3:¬(k:Int)<(l.length:Int):=by omega
    rw[List.drop_eq_nil_of_le (by omega)]at hd;simp only[vcA,seval,vV,d3];rw[←hd];rfl
  ·have d2:(20:Int)<(l.length:Int):=by omega
   have hR:z26 l=false:=by unfold z26;rw[decide_eq_false (by omega)];rfl
   rw[hR];unfold B;simp only[vcA,seval,vV,d1,d2]
 ·have d1:(l.length:Int)<1:=by omega
  have hR:z26 l=false:=by unfold z26;rw[decide_eq_false (by omega)];rfl
  rw[hR];unfold B;simp only[vcA,seval,vV,d1]
end Go.Proofs.YtcpaleaajdilgaaGreatDoor
end

section
namespace Go.Sh.Cd6
open Go Go.Sh
set_option maxRecDepth 100000
abbrev c_24_0:=kV [2] [kO 2 0,kT 4 false] [0,4]
abbrev c_24_1:=kV [2124,2125,2126,2127] [oD 31 (.call 11 0 []),oM 5 31] [31]
abbrev c_24_2:=kR [oM 32 5,kN 33 32] [32]
abbrev c_24_3:=kR [kT 4 false] [1,2,5,33]
abbrev c_24_4:=kV [2140,2141,2142,2143,6] [oL 34 true 2 2,kC 35 12 0 34,oD 6 (.new [(.string ⟨#[]⟩),(.slice none 0 0)]),kS 2 6 35] [2,4,33,34,35]
abbrev c_24_5:=kV [2152,2153,2154,2155] [oL 36 true 2 6,oM 37 1,oD 38 (.call 13 0 [.tmp 36,.tmp 37,vI 6]),oM 7 38] [1,36,37,38]
abbrev c_24_6:=kR [oD 8 (.mov (.val (.string ⟨#[]⟩)))] []
abbrev c_24_7:=kR [kI 9 0] []
abbrev c_24_8:=kR [oM 39 9,oM 40 7,kZ 41 40,kB 42 .lss 3 39 41] [39,40,41]
abbrev c_24_9:=kV [2200,2201,2202,2203] [oM 46 7,oM 47 9,kX 48 4 46 47,oL 49 true 4 48,kC 50 14 0 49,oM 45 50,kY 51 45 0,kY 52 45 1,oM 10 51,oM 11 52] [42,45,46,47,48,49,50,51,52]
abbrev c_24_10:=kR [oM 53 11,kK 54 .neq 33 53 0] [11,53]
abbrev c_24_11:=kR [kT 4 false] [5,6,7,8,9,10,54]
abbrev c_24_12:=kR [oM 55 8,oM 56 10,kB 57 .add 9 55 56,oM 8 57] [4,10,54,55,56,57]
abbrev c_24_13:=kR [oM 43 9,kK 44 .add 3 43 1,oM 9 44] [43,44]
abbrev c_24_14:SCode:=(.seq (.seq c_24_8 (.cond (.tmp 42) .skip (.exit 0))) (.seq (.block 1 (.seq c_24_9 (.seq (.seq c_24_10 (.cond (.tmp 54) (.seq c_24_11 .ret) .skip)) c_24_12))) c_24_13))
abbrev c_24_15:=kR [oD 12 (.mov (.val (.slice none 0 0)))] [9]
abbrev c_24_16:=kR [oD 13 (.mov (.val (.slice none 0 0)))] []
abbrev c_24_17:=kR [kI 14 0] []
abbrev c_24_18:=kR [kI 15 0] []
abbrev c_24_19:=kR [oM 58 15,oM 59 7,kZ 60 59,kB 61 .lss 3 58 60] [58,59,60]
abbrev c_24_20:=kV [2268,2269,2270,2271,16] [oM 65 8,oM 66 14,kD 67 15 0 65 66,oM 64 67,kY 68 64 0,kY 69 64 1,kY 70 64 2,oD 16 (.new zV),kS 4 16 68,oM 17 69,oM 18 70] [14,61,64,65,66,67,68,69,70]
abbrev c_24_21:=kV [2304,2305,2306,2307] [oM 72 7,oM 73 15,kX 74 4 72 73,oL 75 true 4 74,kC 76 16 0 75,oM 71 76,kY 77 71 0,kY 78 71 1,oM 19 77,oM 20 78] [71,72,73,74,75,76,77,78]
abbrev c_24_22:=kV [2328,2329,2330,2331,21] [oM 80 19,oD 81 (.bin .add 9 (.val (.string ⟨#[91,32]⟩)) (.tmp 80)),oD 82 (.call 17 0 [.tmp 81,vI 2]),oM 79 82,kY 83 79 0,kY 84 79 1,kY 85 79 2,oD 21 (.new zV),kS 4 21 83,oM 22 84,oM 23 85] [79,80,81,82,83,84,85]
abbrev c_24_23:=kV [2436,2437,2438,2439] [oM 86 18,kK 87 .neq 33 86 0,oM 88 87,oH 89 88 false 20,kG 90 88 false .neq 33 89 0,oQ 91 88 90 true,oM 92 91,oH 93 92 false 23,kG 94 92 false .neq 33 93 0,oQ 95 92 94 true,oM 96 95,oH 97 96 false 22,oH 98 96 false 19,oG 99 96 false (.slen (.tmp 98)),oG 100 96 false (.bin .add 3 (vI 2) (.tmp 99)),kH 101 96 false .neq 3 97 100,oQ 102 96 101 true,oM 103 102,kL 104 103 false true 4 16,oH 105 103 false 7,oH 106 103 false 15,oG 107 103 false (.idxA 4 (.tmp 105) (.tmp 106)),kL 108 103 false true 4 107,oG 109 103 false (.call 18 0 [.tmp 104,.tmp 108]),oG 110 103 false (.un .not (.tmp 109)),oQ 111 103 110 true] [18,19,20,22,23,86,87,88,89,90,91,92,93,94,95,96,97,98,99,100,101,102,103,104,105,106,107,108,109,110]
abbrev c_24_24:=kR [kT 4 false] [5,6,7,8,12,13,15,16,17,21,111]
abbrev c_24_25:=kR [oM 112 17,oM 14 112] [4,17,111,112]
abbrev c_24_26:SCode:=.reg [([],[oM 113 12,oL 114 true 4 16,oD 115 (.bsl 4 [.tmp 114]),oD 116 (.app 37 4 56 (.tmp 113) (.tmp 115)),oM 12 116]),([116],[oM 113 12,oL 114 true 4 16,oD 115 (.bsl 4 [.tmp 114]),oD 116 (.appN 37 4 56 (.tmp 113) (.tmp 115)),oM 12 116])] [16,113,114,115,116]
abbrev c_24_27:SCode:=.reg [([],[oM 117 13,oL 118 true 4 21,oD 119 (.bsl 4 [.tmp 118]),oD 120 (.app 37 4 56 (.tmp 117) (.tmp 119)),oM 13 120]),([120],[oM 117 13,oL 118 true 4 21,oD 119 (.bsl 4 [.tmp 118]),oD 120 (.appN 37 4 56 (.tmp 117) (.tmp 119)),oM 13 120])] [21,117,118,119,120]
abbrev c_24_28:=kR [oM 62 15,kK 63 .add 3 62 1,oM 15 63] [62,63]
abbrev c_24_29:SCode:=(.seq (.seq c_24_19 (.cond (.tmp 61) .skip (.exit 2))) (.seq (.block 3 (.seq c_24_20 (.seq c_24_21 (.seq c_24_22 (.seq (.seq c_24_23 (.cond (.tmp 111) (.seq c_24_24 .ret) .skip)) (.seq c_24_25 (.seq c_24_26 c_24_27))))))) c_24_28))
abbrev c_24_30:=kV [2496,2497,2498,2499] [oL 122 true 2 6,oM 123 12,kD 124 19 0 122 123,oM 121 124,kY 125 121 0,kY 126 121 1,oM 24 125,oM 25 126] [12,15,24,121,122,123,124,125,126]
abbrev c_24_31:=kV [2520,2521,2522,2523] [oL 128 true 2 6,oM 129 13,kD 130 19 0 128 129,oM 127 130,kY 131 127 0,kY 132 127 1,oM 26 131,oM 27 132] [6,26,127,128,129,130,131,132]
abbrev c_24_32:=kR [kI 28 0] []
abbrev c_24_33:=kR [oM 133 28,oM 134 13,kZ 135 134,kB 136 .lss 3 133 135] [133,134,135]
abbrev c_24_34:=kV [2572,2573,2574,2575] [oM 139 13,oM 140 28,kX 141 4 139 140,oL 142 true 4 141,kC 143 20 0 142,oM 29 143] [136,139,140,141,142,143]
abbrev c_24_35:=kV [2592,2593,2594,2595] [oM 144 7,oM 145 28,kX 146 4 144 145,oL 147 true 4 146,kC 148 20 0 147,oM 30 148] [144,145,146,147,148]
abbrev c_24_36:=kV [2636,2637,2638,2639,2660,2661,2662,2663] [oM 149 29,kZ 150 149,oM 151 30,kZ 152 151,kB 153 .neq 3 150 152,oM 154 153,oH 155 154 false 13,oH 156 154 false 28,oG 157 154 false (.idxA 4 (.tmp 155) (.tmp 156)),kL 158 154 false true 4 157,oG 159 154 false (.call 21 0 [.tmp 158]),oG 160 154 false (.len (.tmp 159)),oH 161 154 false 7,oH 162 154 false 28,oG 163 154 false (.idxA 4 (.tmp 161) (.tmp 162)),kL 164 154 false true 4 163,oG 165 154 false (.call 21 0 [.tmp 164]),oG 166 154 false (.len (.tmp 165)),kH 167 154 false .neq 3 160 166,oQ 168 154 167 true] [29,30,149,150,151,152,153,154,155,156,157,158,159,160,161,162,163,164,165,166,167]
abbrev c_24_37:=kR [kT 4 false] [5,7,8,13,14,25,27,28,168]
abbrev c_24_38:=kR [oM 137 28,kK 138 .add 3 137 1,oM 28 138] [4,137,138,168]
abbrev c_24_39:SCode:=(.seq (.seq c_24_33 (.cond (.tmp 136) .skip (.exit 4))) (.seq (.block 5 (.seq c_24_34 (.seq c_24_35 (.seq c_24_36 (.cond (.tmp 168) (.seq c_24_37 .ret) .skip))))) c_24_38))
abbrev c_24_40:=kR [oM 169 5,oM 170 169,oH 171 170 true 14,oH 172 170 true 8,oG 173 170 true (.slen (.tmp 172)),kH 174 170 true .eql 3 171 173,oP 175 170 174 false,oM 176 175,oH 177 176 true 25,kG 178 176 true .eql 33 177 0,oP 179 176 178 false,oM 180 179,oH 181 180 true 27,kG 182 180 true .eql 33 181 0,oP 183 180 182 false,oM 4 183] [5,7,8,13,14,25,27,28,169,170,171,172,173,174,175,176,177,178,179,180,181,182,183]
abbrev F_24:SFunc:=⟨184,(.seq c_24_0 (.seq c_24_1 (.seq (.seq c_24_2 (.cond (.tmp 33) (.seq c_24_3 .ret) .skip)) (.seq c_24_4 (.seq c_24_5 (.seq c_24_6 (.seq (.seq c_24_7 (.block 0 (.loop c_24_14))) (.seq c_24_15 (.seq c_24_16 (.seq c_24_17 (.seq (.seq c_24_18 (.block 2 (.loop c_24_29))) (.seq c_24_30 (.seq c_24_31 (.seq (.seq c_24_32 (.block 4 (.loop c_24_39))) (.seq c_24_40 .ret))))))))))))))),[.tmp 4],false⟩
theorem tf_24:z6 Go.Proofs.Tryz.prog 3 (hintT [(31,0),(35,0),(38,0),(50,0),(67,0),(76,0),(82,0),(109,0),(115,0),(119,0),(124,0),(130,0),(143,0),(148,0),(159,0),(165,0)]) (fpT []) (killT [(0,[0,4]),(1,[31]),(2,[32]),(3,[1,2,5,33]),(4,[2,4,33,34,35]),(5,[1,36,37,38]),(8,[39,40,41]),(10,[42,45,46,47,48,49,50,51,52]),(11,[11,53]),(12,[5,6,7,8,9,10,54]),(13,[4,10,54,55,56,57]),(9,[43,44]),(14,[9]),(18,[58,59,60]),(20,[14,61,64,65,66,67,68,69,70]),(21,[71,72,73,74,75,76,77,78]),(22,[79,80,81,82,83,84,85]),(23,[18,19,20,22,23,86,87,88,89,90,91,92,93,94,95,96,97,98,99,100,101,102,103,104,105,106,107,108,109,110]),(24,[5,6,7,8,12,13,15,16,17,21,111]),(25,[4,17,111,112]),(26,[16,113,114,115,116]),(27,[21,117,118,119,120]),(19,[62,63]),(28,[12,15,24,121,122,123,124,125,126]),(29,[6,26,127,128,129,130,131,132]),(31,[133,134,135]),(33,[136,139,140,141,142,143]),(34,[144,145,146,147,148]),(35,[29,30,149,150,151,152,153,154,155,156,157,158,159,160,161,162,163,164,165,166,167]),(36,[5,7,8,13,14,25,27,28,168]),(32,[4,137,138,168]),(37,[5,7,8,13,14,25,27,28,169,170,171,172,173,174,175,176,177,178,179,180,181,182,183])]) false=some F_24:=by kernel_rfl
abbrev c_23_0:=kV [1,2] [kO 1 0,oD 2 (.new [(.string ⟨#[]⟩),(.slice none 0 0)])] [0]
abbrev c_23_1:=kR [oD 10 (.bsl 1 [.val (.string ⟨#[97]⟩),.val (.string ⟨#[98,50]⟩),.val (.string ⟨#[110,97,109,101]⟩),.val (.string ⟨#[110,101,120,116,95,111,110,101]⟩),.val (.string ⟨#[107,105,100,115]⟩),.val (.string ⟨#[120]⟩)]),oM 3 10] [10]
abbrev c_23_2:=kV [2056,2057,2058,2059,4] [oD 11 (.bsl 1 [.val (.string ⟨#[110,111,100,101]⟩),.val (.string ⟨#[105,116,101,109]⟩),.val (.string ⟨#[117,115,101,114]⟩),.val (.string ⟨#[112,97,103,101,95,49]⟩),.val (.string ⟨#[108,101,97,102]⟩),.val (.string ⟨#[113]⟩)]),kA 12 0 1,oL 13 false 1 12,oD 14 (.call 45 0 [.tmp 13,vI 6]),kX 15 1 11 14,oL 16 false 1 15,oD 17 (.build [(.string ⟨#[]⟩),(.slice none 0 0)] [(0,1,(.tmp 16))]),oD 4 (.new [(.string ⟨#[]⟩),(.slice none 0 0)]),kS 2 4 17] [11,12,13,14,15,16,17]
abbrev c_23_3:=kR [kI 5 0] []
abbrev c_23_4:=kR [oM 18 5,kA 19 1 1,oL 20 false 1 19,kZ 21 20,kB 22 .lss 3 18 21,oM 23 22,oH 24 23 true 5,kG 25 23 true .lss 3 24 6,oP 26 23 25 false] [18,19,20,21,22,23,24,25]
abbrev c_23_5:=kV [6] [kA 29 1 1,oL 30 false 1 29,oM 31 5,kX 32 4 30 31,oL 33 true 4 32,oD 6 (.new [(.int .i64 0),(.int .i64 0),(.int .i64 0),(.bool false)]),kS 4 6 33] [26,29,30,31,32,33]
abbrev c_23_6:=kV [2148,2149,2150,2151,2168,2169,2170,2171,7] [oM 34 3,kA 35 0 6,oL 36 false 1 35,oD 37 (.call 45 0 [.tmp 36,vI 6]),kX 38 1 34 37,oL 39 false 1 38,kA 40 1 6,oL 41 false 1 40,oD 42 (.call 45 0 [.tmp 41,vI 5]),oD 43 (.bin .add 3 (vI 1) (.tmp 42)),oD 44 (.build [(.int .i64 0),(.int .i64 0)] [(0,1,(.tmp 43))]),oD 45 (.build [(.string ⟨#[]⟩),(.int .i64 0),(.int .i64 0),(.bool false)] [(0,1,(.tmp 39)),(1,2,(.tmp 44))]),oD 7 (.new [(.string ⟨#[]⟩),(.int .i64 0),(.int .i64 0),(.bool false)]),kS 4 7 45] [34,35,36,37,38,39,40,41,42,43,44,45]
abbrev c_23_7:=kR [kA 46 1 7,kA 47 0 46,oL 48 false 1 47,kK 49 .eql 3 48 5] [46,47,48]
abbrev c_23_8:=kV [2208,2209,2210,2211] [kA 50 2 6,oL 51 false 1 50,oD 52 (.call 45 0 [.tmp 51,vI 4]),oD 53 (.bin .add 3 (vI 1) (.tmp 52)),kA 54 1 7,kA 55 1 54,kS 1 55 53] [49,50,51,52,53,54,55]
abbrev c_23_9:=kR [kA 56 3 6,oL 57 false 1 56,oM 58 57,kF 59 58 true 1 7,kF 60 58 true 0 59,kL 61 58 true false 1 60,kG 62 58 true .leq 3 61 3,oP 63 58 62 false,kA 64 3 7,kS 1 64 63] [6,49,56,57,58,59,60,61,62,63,64]
abbrev c_23_10:=kV [2276,2277,2278,2279] [oL 66 true 2 4,kA 67 0 7,oL 68 false 1 67,kD 69 46 0 66 68,oM 65 69,kY 70 65 0,kY 71 65 1,oM 8 70,oM 9 71] [8,65,66,67,68,69,70,71]
abbrev c_23_11:=kR [oM 72 9,kN 73 72] [9,72]
abbrev c_23_12:SCode:=.reg [([],[kA 74 1 4,oL 75 false 1 74,oL 76 true 4 7,oD 77 (.bsl 4 [.tmp 76]),oD 78 (.app 55 4 40 (.tmp 75) (.tmp 77)),kA 79 1 4,kS 1 79 78]),([78],[kA 74 1 4,oL 75 false 1 74,oL 76 true 4 7,oD 77 (.bsl 4 [.tmp 76]),oD 78 (.appN 55 4 40 (.tmp 75) (.tmp 77)),kA 79 1 4,kS 1 79 78])] [7,73,74,75,76,77,78,79]
abbrev c_23_13:=kR [oM 27 5,kK 28 .add 3 27 1,oM 5 28] [7,27,28,73]
abbrev c_23_14:SCode:=(.seq (.seq c_23_4 (.cond (.tmp 26) .skip (.exit 0))) (.seq (.block 1 (.seq c_23_5 (.seq c_23_6 (.seq (.seq c_23_7 (.cond (.tmp 49) c_23_8 .skip)) (.seq c_23_9 (.seq c_23_10 (.seq c_23_11 (.cond (.tmp 73) c_23_12 .skip)))))))) c_23_13))
abbrev c_23_15:=kR [oL 80 true 2 4,kS 2 2 80] [1,3,4,5,80]
abbrev F_23:SFunc:=⟨81,(.seq c_23_0 (.seq c_23_1 (.seq c_23_2 (.seq (.seq c_23_3 (.block 0 (.loop c_23_14))) (.seq c_23_15 .ret))))),[.cell true 2 2],false⟩
theorem tf_23:z6 Go.Proofs.Tryz.prog 12 (hintT [(10,0),(11,0),(14,0),(37,0),(42,0),(52,0),(69,0),(77,0)]) (fpT []) (killT [(0,[0]),(1,[10]),(2,[11,12,13,14,15,16,17]),(4,[18,19,20,21,22,23,24,25]),(6,[26,29,30,31,32,33]),(7,[34,35,36,37,38,39,40,41,42,43,44,45]),(8,[46,47,48]),(9,[49,50,51,52,53,54,55]),(10,[6,49,56,57,58,59,60,61,62,63,64]),(11,[8,65,66,67,68,69,70,71]),(12,[9,72]),(13,[7,73,74,75,76,77,78,79]),(5,[7,27,28,73]),(14,[1,3,4,5,80])]) false=some F_23:=by kernel_rfl
abbrev c_26_0:=kV [3] [kO 3 0,oD 6 (.mov (.val (.slice none 0 0)))] [0,6]
abbrev c_26_1:=kR [oD 7 (.mov (.val (.slice none 0 0)))] []
abbrev c_26_2:=kR [kI 8 0] []
abbrev c_26_3:=kR [oM 10 8,kA 11 1 3,oL 12 false 1 11,kZ 13 12,kB 14 .lss 3 10 13] [10,11,12,13]
abbrev c_26_4:=kR [oM 17 8,oM 9 17] [14,17]
abbrev c_26_5:=kR [oM 18 1,kZ 19 18,kK 20 .gtr 3 19 0] [18,19]
abbrev c_26_6:=kR [oM 21 1,oM 22 8,oM 23 1,kZ 24 23,kB 25 .rem 3 22 24,kX 26 1 21 25,oL 27 false 1 26,oM 28 8,kB 29 .add 3 27 28,oM 9 29] [20,21,22,23,24,25,26,27,28,29]
abbrev c_26_7:SCode:=.reg [([2156,2157,2158,2159],[oM 30 7,kA 31 1 3,oL 32 false 1 31,oM 33 8,kX 34 4 32 33,kA 35 1 34,oL 36 true 2 35,oM 37 9,oM 38 2,kE 39 47 0 36 37 38,oD 40 (.bsl 4 [.tmp 39]),oD 41 (.app 37 4 56 (.tmp 30) (.tmp 40)),oM 7 41]),([2156,2157,2158,2159,41],[oM 30 7,kA 31 1 3,oL 32 false 1 31,oM 33 8,kX 34 4 32 33,kA 35 1 34,oL 36 true 2 35,oM 37 9,oM 38 2,kE 39 47 0 36 37 38,oD 40 (.bsl 4 [.tmp 39]),oD 41 (.appN 37 4 56 (.tmp 30) (.tmp 40)),oM 7 41])] [9,20,30,31,32,33,34,35,36,37,38,39,40,41]
abbrev c_26_8:=kR [oM 15 8,kK 16 .add 3 15 1,oM 8 16] [15,16]
abbrev c_26_9:SCode:=(.seq (.seq c_26_3 (.cond (.tmp 14) .skip (.exit 0))) (.seq (.block 1 (.seq c_26_4 (.seq (.seq c_26_5 (.cond (.tmp 20) c_26_6 .skip)) c_26_7))) c_26_8))
abbrev c_26_10:=kR [oM 42 7,oM 6 42] [1,2,3,7,8,42]
abbrev F_26:SFunc:=⟨43,(.seq c_26_0 (.seq c_26_1 (.seq (.seq c_26_2 (.block 0 (.loop c_26_9))) (.seq c_26_10 .ret)))),[.tmp 6],false⟩
theorem tf_26:z6 Go.Proofs.Tryz.prog 13 (hintT [(39,0),(40,0)]) (fpT []) (killT [(0,[0,6]),(3,[10,11,12,13]),(5,[14,17]),(6,[18,19]),(7,[20,21,22,23,24,25,26,27,28,29]),(8,[9,20,30,31,32,33,34,35,36,37,38,39,40,41]),(4,[15,16]),(9,[1,2,3,7,8,42])]) false=some F_26:=by kernel_rfl
abbrev c_6_0:=kV [2] [kO 2 0,kI 4 0,kI 5 0] [0,4,5]
abbrev c_6_1:=kV [2036,2037,2038,2039] [oL 8 true 2 2,kC 9 33 0 8,kN 10 9] [8,9]
abbrev c_6_2:=kR [kI 4 0,kI 5 40] [1,2,10]
abbrev c_6_3:=kR [oM 11 1,kZ 12 11,kA 13 1 2,oL 14 false 1 13,kZ 15 14,kB 16 .neq 3 12 15] [4,5,10,11,12,13,14,15]
abbrev c_6_4:=kR [oM 17 1,kZ 18 17,kA 19 1 2,oL 20 false 1 19,kZ 21 20,oD 22 (.imm false (.tmp 18) (.tmp 21)),oM 4 22,kI 5 42] [1,2,16,17,18,19,20,21,22]
abbrev c_6_5:=kR [kA 23 1 2,oL 24 false 1 23,kZ 25 24,kI 26 0] [2,4,5,16,23]
abbrev c_6_6:=kR [kB 27 .lss 3 26 25] []
abbrev c_6_7:=kV [7] [oM 28 26,kX 29 4 24 26,oL 30 true 4 29,oD 7 (.new [(.string ⟨#[]⟩),(.int .i64 0),(.int .i64 0),(.bool false)]),oM 6 28,kS 4 7 30] [27,28,29,30]
abbrev c_6_8:=kV [2148,2149,2150,2151] [oM 31 1,oM 32 6,kX 33 4 31 32,oL 34 true 4 33,kA 35 1 7,oL 36 true 2 35,kD 37 56 0 34 36,kN 38 37] [7,31,32,33,34,35,36,37]
abbrev c_6_9:=kR [oM 39 6,oM 4 39,kI 5 42] [1,6,24,25,26,38,39]
abbrev c_6_10:=kR [kK 40 .add 3 26 1,oM 26 40] [4,5,6,38,40]
abbrev c_6_11:SCode:=(.seq c_6_6 (.seq (.cond (.tmp 27) .skip (.exit 0)) (.seq (.block 1 (.seq c_6_7 (.seq c_6_8 (.cond (.tmp 38) (.seq c_6_9 .ret) .skip)))) c_6_10)))
abbrev c_6_12:=kR [kI 4 0,kI 5 0] [1,24,25,26]
abbrev F_6:SFunc:=⟨41,(.seq c_6_0 (.seq (.seq c_6_1 (.cond (.tmp 10) (.seq c_6_2 .ret) .skip)) (.seq (.seq c_6_3 (.cond (.tmp 16) (.seq c_6_4 .ret) .skip)) (.seq (.seq c_6_5 (.block 0 (.loop c_6_11))) (.seq c_6_12 .ret))))),[.tmp 4,.tmp 5],false⟩
theorem tf_6:kU 19 [(9,0),(37,0)] [] F_6:=by unfold kU;kernel_rfl
abbrev c_11_0:=kV [1] [kO 1 0,kT 2 false] [0,2]
abbrev c_11_1:=kV [2036,2037,2038,2039] [kA 7 0 1,oL 8 false 1 7,kC 9 69 0 8,kN 10 9,oM 11 10,kF 12 11 false 1 1,kL 13 11 false false 1 12,oG 14 11 false (.len (.tmp 13)),kG 15 11 false .gtr 3 14 8,oQ 16 11 15 true] [7,8,9,10,11,12,13,14,15]
abbrev c_11_2:=kR [kT 2 false] [1,16]
abbrev c_11_3:=kR [kA 17 1 1,oL 18 false 1 17,kZ 19 18,kI 20 0] [2,16,17]
abbrev c_11_4:=kR [kB 21 .lss 3 20 19] []
abbrev c_11_5:=kV [4] [oM 22 20,kX 23 4 18 20,oL 24 true 4 23,oD 4 (.new [(.string ⟨#[]⟩),(.int .i64 0),(.int .i64 0),(.bool false)]),oM 3 22,kS 4 4 24] [21,22,23,24]
abbrev c_11_6:=kV [2104,2105,2106,2107] [oL 25 true 4 4,kC 26 70 0 25,kN 27 26] [25,26]
abbrev c_11_7:=kR [kT 2 false] [1,3,4,18,19,20,27]
abbrev c_11_8:=kV [2128,2129,2130,2131] [oL 29 true 2 1,kA 30 0 4,oL 31 false 1 30,kD 32 34 0 29 31,oM 28 32,kY 33 28 0,kY 34 28 1,oM 5 33,oM 6 34] [2,4,6,27,28,29,30,31,32,33,34]
abbrev c_11_9:=kR [oM 35 5,oM 36 3,kB 37 .neq 3 35 36] [3,5,35,36]
abbrev c_11_10:=kR [kT 2 false] [1,18,19,20,37]
abbrev c_11_11:=kR [kK 38 .add 3 20 1,oM 20 38] [2,37,38]
abbrev c_11_12:SCode:=(.seq c_11_4 (.seq (.cond (.tmp 21) .skip (.exit 0)) (.seq (.block 1 (.seq c_11_5 (.seq (.seq c_11_6 (.cond (.tmp 27) (.seq c_11_7 .ret) .skip)) (.seq c_11_8 (.seq c_11_9 (.cond (.tmp 37) (.seq c_11_10 .ret) .skip)))))) c_11_11)))
abbrev c_11_13:=kR [kT 2 true] [1,18,19,20]
abbrev F_11:SFunc:=⟨39,(.seq c_11_0 (.seq (.seq c_11_1 (.cond (.tmp 16) (.seq c_11_2 .ret) .skip)) (.seq (.seq c_11_3 (.block 0 (.loop c_11_12))) (.seq c_11_13 .ret)))),[.tmp 2],false⟩
theorem tf_11:kU 33 [(9,0),(26,0),(32,0)] [] F_11:=by unfold kU;kernel_rfl
abbrev c_9_0:=kV [2,3] [kO 2 0,kO 3 1,kI 4 0,kT 5 false] [0,1,4,5]
abbrev c_9_1:=kV [2040,2041,2042,2043] [kA 7 1 2,oL 8 false 1 7,oD 9 (.mkf (.func 72) [] [.tmp 3]),kD 10 71 1 8 9,oM 6 10] [2,3,7,8,9,10]
abbrev c_9_2:=kR [oM 11 6,kK 12 .lss 3 11 0] [11]
abbrev c_9_3:=kR [kI 4 0,kT 5 false] [6,12]
abbrev c_9_4:=kR [oM 13 6,oM 4 13,kT 5 true] [6,12,13]
abbrev F_9:SFunc:=⟨14,(.seq c_9_0 (.seq c_9_1 (.seq (.seq c_9_2 (.cond (.tmp 12) (.seq c_9_3 .ret) .skip)) (.seq c_9_4 .ret)))),[.tmp 4,.tmp 5],false⟩
theorem tf_9:kU 34 [(10,1)] [] F_9:=by unfold kU;kernel_rfl
abbrev c_12_0:=kV [1] [kO 1 0,kT 2 false] [0,2]
abbrev c_12_1:=kR [kA 3 0 1,oL 4 false 1 3,kK 5 .eql 3 4 5] [3,4]
abbrev c_12_2:=kR [kA 6 1 1,oL 7 false 1 6,kK 8 .geq 3 7 1,oM 9 8,kF 10 9 true 1 1,kL 11 9 true false 1 10,kG 12 9 true .leq 3 11 4,oP 13 9 12 false,oM 2 13] [1,5,6,7,8,9,10,11,12,13]
abbrev c_12_3:=kR [kA 14 0 1,oL 15 false 1 14,kK 16 .geq 3 15 1,oM 17 16,kF 18 17 true 0 1,kL 19 17 true false 1 18,kG 20 17 true .leq 3 19 4,oP 21 17 20 false,oM 22 21,kF 23 22 true 1 1,kL 24 22 true false 1 23,kG 25 22 true .eql 3 24 0,oP 26 22 25 false,oM 2 26] [1,5,14,15,16,17,18,19,20,21,22,23,24,25,26]
abbrev F_12:SFunc:=⟨27,(.seq c_12_0 (.seq (.seq c_12_1 (.cond (.tmp 5) (.seq c_12_2 .ret) .skip)) (.seq c_12_3 .ret))),[.tmp 2],false⟩
theorem tf_12:kU 44 [] [] F_12:=by unfold kU;kernel_rfl
abbrev c_28_0:=kR [kI 4 0] [4]
abbrev c_28_1:=kR [oM 5 0,kK 6 .lss 3 5 0] [5]
abbrev c_28_2:=kR [oM 7 0,kK 8 .add 3 7 1,oD 9 (.un .neg (.tmp 8)),oM 0 9] [6,7,8,9]
abbrev c_28_3:=kR [oM 10 0,oM 11 1,kB 12 .rem 3 10 11,oM 4 12] [0,1,6,10,11,12]
abbrev F_28:SFunc:=⟨13,(.seq c_28_0 (.seq (.seq c_28_1 (.cond (.tmp 6) c_28_2 .skip)) (.seq c_28_3 .ret))),[.tmp 4],false⟩
theorem tf_28:kU 45 [] [] F_28:=by unfold kU;kernel_rfl
abbrev c_29_0:=kV [2] [kO 2 0,kI 4 0,kT 5 false] [0,4,5]
abbrev c_29_1:=kR [kI 6 0] []
abbrev c_29_2:=kR [oM 7 6,kA 8 1 2,oL 9 false 1 8,kZ 10 9,kB 11 .lss 3 7 10] [7,8,9,10]
abbrev c_29_3:=kR [kA 14 1 2,oL 15 false 1 14,oM 16 6,kX 17 4 15 16,kA 18 0 17,oL 19 false 1 18,oM 20 1,kB 21 .eql 9 19 20] [11,14,15,16,17,18,19,20]
abbrev c_29_4:=kR [oM 22 6,oM 4 22,kT 5 true] [1,2,6,21,22]
abbrev c_29_5:=kR [oM 12 6,kK 13 .add 3 12 1,oM 6 13] [4,5,12,13,21]
abbrev c_29_6:SCode:=(.seq (.seq c_29_2 (.cond (.tmp 11) .skip (.exit 0))) (.seq (.block 1 (.seq c_29_3 (.cond (.tmp 21) (.seq c_29_4 .ret) .skip))) c_29_5))
abbrev c_29_7:=kR [kI 4 0,kT 5 false] [1,2,6]
abbrev F_29:SFunc:=⟨23,(.seq c_29_0 (.seq (.seq c_29_1 (.block 0 (.loop c_29_6))) (.seq c_29_7 .ret))),[.tmp 4,.tmp 5],false⟩
theorem tf_29:z6 Go.Proofs.Tryz.prog 46 (hintT []) (fpT []) (killT [(0,[0,4,5]),(2,[7,8,9,10]),(4,[11,14,15,16,17,18,19,20]),(5,[1,2,6,21,22]),(3,[4,5,12,13,21]),(6,[1,2,6])]) false=some F_29:=by kernel_rfl
abbrev c_25_0:=kV [3,6] [kO 3 0,oD 6 (.new zV)] [0]
abbrev c_25_1:=kR [oD 10 (.bsl 1 [.val (.string ⟨#[]⟩),.val (.string ⟨#[97]⟩),.val (.string ⟨#[98,99]⟩),.val (.string ⟨#[195,169,116,195,169]⟩),.val (.string ⟨#[97,32,98]⟩),.val (.string ⟨#[122,122,32,116,111,112]⟩),.val (.string ⟨#[48]⟩),.val (.string ⟨#[45,55]⟩)]),oM 7 10] [10]
abbrev c_25_2:=kR [kA 11 0 3,oL 12 false 1 11] [11]
abbrev c_25_3:=kR [kK 14 .eql 3 12 1,oM 13 14] [14]
abbrev c_25_4:=kV [2064,2065,2066,2067] [oM 15 1,oD 16 (.call 45 0 [.tmp 15,vI 41]),kK 17 .sub 3 16 20,oD 18 (.build zV [(0,1,(vI 1)),(1,1,(.tmp 17))]),kS 4 6 18] [1,2,3,7,12,13,15,16,17,18]
abbrev c_25_5:=kR [kK 20 .eql 3 12 2,oM 19 20] [13,20]
abbrev c_25_6:=kV [2092,2093,2094,2095] [oM 21 7,oM 22 1,oD 23 (.call 45 0 [.tmp 22,vI 8]),kX 24 1 21 23,oL 25 false 1 24,oD 26 (.build zV [(0,1,(vI 2)),(2,1,(.tmp 25))]),kS 4 6 26] [1,2,3,7,12,19,21,22,23,24,25,26]
abbrev c_25_7:=kR [kK 28 .eql 3 12 3,oM 27 28] [7,19,28]
abbrev c_25_8:=kR [kK 29 .eql 3 12 4,oM 27 29] [12,29]
abbrev c_25_9:=kV [2136,2137,2138,2139] [oM 30 2,kK 31 .lss 3 30 1,oM 32 31,oH 33 32 false 1,oG 34 32 false (.call 45 0 [.tmp 33,vI 5]),kG 35 32 false .eql 3 34 4,oQ 36 32 35 true] [12,27,30,31,32,33,34,35]
abbrev c_25_10:=kR [oD 37 (.build zV []),kS 4 6 37] [1,2,3,36,37]
abbrev c_25_11:=kV [2168,2169,2170,2171] [kA 38 0 3,oL 39 false 1 38,oM 40 1,oM 41 2,kD 42 45 0 40 41,oD 43 (.bin .add 3 (vI 1) (.tmp 42)),oD 44 (.build zV [(0,1,(.tmp 39)),(1,1,(.tmp 43))]),kS 4 6 44] [1,2,3,36,38,39,40,41,42,43,44]
abbrev c_25_12:=kV [8] [oD 45 (.build zV [(0,1,(vI 5))]),oD 8 (.new zV),kS 4 8 45] [12,27,45]
abbrev c_25_13:=kR [kI 9 0] []
abbrev c_25_14:=kV [2192,2193,2194,2195] [oM 46 9,oM 47 1,oD 48 (.call 45 0 [.tmp 47,vI 4]),kB 49 .lss 3 46 48] [46,47,48]
abbrev c_25_15:SCode:=.reg [([2248,2249,2250,2251],[kA 52 3 8,oL 53 false 1 52,kA 54 1 3,oL 55 false 1 54,oD 56 (.build [(.int .i64 0),(.int .i64 0)] [(0,1,(.tmp 55))]),oM 57 1,kK 58 .quo 3 57 4,oM 59 9,kB 60 .add 3 58 59,oM 61 2,kE 62 47 0 56 60 61,oD 63 (.bsl 4 [.tmp 62]),oD 64 (.app 37 4 56 (.tmp 53) (.tmp 63)),kA 65 3 8,kS 1 65 64]),([2248,2249,2250,2251,64],[kA 52 3 8,oL 53 false 1 52,kA 54 1 3,oL 55 false 1 54,oD 56 (.build [(.int .i64 0),(.int .i64 0)] [(0,1,(.tmp 55))]),oM 57 1,kK 58 .quo 3 57 4,oM 59 9,kB 60 .add 3 58 59,oM 61 2,kE 62 47 0 56 60 61,oD 63 (.bsl 4 [.tmp 62]),oD 64 (.appN 37 4 56 (.tmp 53) (.tmp 63)),kA 65 3 8,kS 1 65 64])] [49,52,53,54,55,56,57,58,59,60,61,62,63,64,65]
abbrev c_25_16:=kR [oM 50 9,kK 51 .add 3 50 1,oM 9 51] [50,51]
abbrev c_25_17:SCode:=(.seq (.seq c_25_14 (.cond (.tmp 49) .skip (.exit 1))) (.seq (.block 2 c_25_15) c_25_16))
abbrev c_25_18:=kR [oL 66 true 4 8,kS 4 6 66] [1,2,3,8,9,66]
abbrev F_25:SFunc:=⟨67,(.seq c_25_0 (.seq c_25_1 (.seq (.seq c_25_2 (.block 0 (.seq c_25_3 (.cond (.tmp 13) (.seq c_25_4 .ret) (.seq c_25_5 (.cond (.tmp 19) (.seq c_25_6 .ret) (.seq (.seq c_25_7 (.cond (.tmp 27) .skip c_25_8)) (.cond (.tmp 27) (.seq (.seq c_25_9 (.cond (.tmp 36) (.seq c_25_10 .ret) .skip)) (.seq c_25_11 .ret)) .skip)))))))) (.seq c_25_12 (.seq (.seq c_25_13 (.block 1 (.loop c_25_17))) (.seq c_25_18 .ret)))))),[.cell true 4 6],false⟩
theorem tf_25:z6 Go.Proofs.Tryz.prog 47 (hintT [(10,0),(16,0),(23,0),(34,0),(42,0),(48,0),(62,0),(63,0)]) (fpT []) (killT [(0,[0]),(1,[10]),(2,[11]),(3,[14]),(4,[1,2,3,7,12,13,15,16,17,18]),(5,[13,20]),(6,[1,2,3,7,12,19,21,22,23,24,25,26]),(7,[7,19,28]),(8,[12,29]),(9,[12,27,30,31,32,33,34,35]),(10,[1,2,3,36,37]),(11,[1,2,3,36,38,39,40,41,42,43,44]),(12,[12,27,45]),(14,[46,47,48]),(16,[49,52,53,54,55,56,57,58,59,60,61,62,63,64,65]),(15,[50,51]),(17,[1,2,3,8,9,66])]) false=some F_25:=by kernel_rfl
abbrev c_16_0:=kV [1] [kO 1 0,kT 2 false] [0,2]
abbrev c_16_1:=kV [2020,2021,2022,2023,2040,2041,2042,2043] [kA 3 0 1,oL 4 false 1 3,kC 5 69 0 4,kN 6 5,oM 7 6,kF 8 7 false 1 1,kL 9 7 false true 2 8,oG 10 7 false (.call 44 0 [.tmp 9]),oG 11 7 false (.un .not (.tmp 10)),oQ 12 7 11 true] [3,4,5,6,7,8,9,10,11]
abbrev c_16_2:=kR [kT 2 false] [1,12]
abbrev c_16_3:=kR [kA 13 3 1,oL 14 false 1 13,kN 15 14,oM 16 15,kF 17 16 false 1 1,kF 18 16 false 0 17,kL 19 16 false false 1 18,kG 20 16 false .leq 3 19 3,oQ 21 16 20 true,oM 2 21] [1,12,13,14,15,16,17,18,19,20,21]
abbrev F_16:SFunc:=⟨22,(.seq c_16_0 (.seq (.seq c_16_1 (.cond (.tmp 12) (.seq c_16_2 .ret) .skip)) (.seq c_16_3 .ret))),[.tmp 2],false⟩
theorem tf_16:kU 70 [(5,0),(10,0)] [] F_16:=by unfold kU;kernel_rfl
abbrev c_33_0:=kR [kI 4 0] [4]
abbrev c_33_1:=kR [oM 6 0,kZ 7 6,kI 8 0] [6]
abbrev c_33_2:=kR [kB 9 .lss 3 8 7] []
abbrev c_33_3:=kR [oM 10 8,oM 5 10] [9,10]
abbrev c_33_4:=kV [2064,2065,2066,2067] [oM 11 1,oM 12 0,oM 13 5,kX 14 4 12 13,oL 15 true 4 14,oD 16 (.callv (.tmp 11) 1 [.tmp 15])] [11,12,13,14,15]
abbrev c_33_5:=kR [oM 17 5,oM 4 17] [0,1,5,7,8,16,17]
abbrev c_33_6:=kR [kK 18 .add 3 8 1,oM 8 18] [4,5,16,18]
abbrev c_33_7:SCode:=(.seq c_33_2 (.seq (.cond (.tmp 9) .skip (.exit 0)) (.seq (.block 1 (.seq c_33_3 (.seq c_33_4 (.cond (.tmp 16) (.seq c_33_5 .ret) .skip)))) c_33_6)))
abbrev c_33_8:=kR [oD 4 (.mov (.val (.int .i64 (-1))))] [0,1,7,8]
abbrev F_33:SFunc:=⟨19,(.seq c_33_0 (.seq (.seq c_33_1 (.block 0 (.loop c_33_7))) (.seq c_33_8 .ret))),[.tmp 4],false⟩
theorem tf_33:kU 71 [(16,1)] [] F_33:=by unfold kU;kernel_rfl
abbrev c_10_0:=kV [2] [kO 2 0,kT 3 false] [0,3]
abbrev c_10_1:=kR [kA 4 0 2,oL 5 false 1 4,oL 6 false 1 1,kB 7 .eql 9 5 6,oM 3 7] [1,2,4,5,6,7]
abbrev F_10:SFunc:=⟨8,(.seq c_10_0 (.seq c_10_1 .ret)),[.tmp 3],false⟩
theorem tf_10:kU 72 [] [] F_10:=by unfold kU;kernel_rfl
def funcs:Nat→Option SFunc
 |_=>none
end Go.Sh.Cd6
end

section
namespace Go.Proofs.YtcpaleaajdilgaaGreatDoor
open Go Go.RowKit Go.Mor Go.Sh Go.Sh.Cd1 Go.Sh.Cd6
set_option maxRecDepth 100000
set_option maxHeartbeats 4000000
def flR1(f:Fld):List PV:=[.v (.string (str f.n)),.v (.int .i64 f.t.k),.v (.int .i64 f.t.o),.v (.bool f.ix)]
def flR(l:List Fld):List (List PV):=l.map flR1
def flT(f:Fld):TV:=.agg [S (str f.n),I f.t.k,I f.t.o,.pv (.v (.bool f.ix))]
def clT(c:Cls):TV:=.agg [S (str c.n),.pv (.sl 4 (flR c.fs))]
theorem flGet(l:List Fld)(k:Nat):(flR l)[k]?=(l[k]?).map flR1:=by unfold flR;rw[List.getElem?_map]
theorem flLen(l:List Fld):(flR l).length=l.length:=by unfold flR;rw[List.length_map]
theorem clV:(type_of% @flGet)∧(type_of% @flLen)∧(type_of% @flR1.eq_1)∧(type_of% @flT.eq_1)∧(type_of% @clT.eq_1):=⟨@flGet,@flLen,@flR1.eq_1,@flT.eq_1,@clT.eq_1⟩
def Short(s:List UInt8):Prop:=s.length<4611686018427387904
structure ClsOk(c:Cls):Prop where
 n:Short c.n
 fs:∀f∈c.fs,Short f.n
 len:c.fs.length≤4611686018427387904
theorem rightTypeC_ok(g:Sh.Glob)(t:Ty):SCalls Tryz.prog g 44 [tyT t] [] (B (z24 t)) []:=by
 refine z8 hmix tf_12 rfl ?_;obtain⟨k,o⟩:=t;unfold B;simp only[vcA,seval,vV];unfold z24
 repeat' (first|(apply And.intro)|(intro _))
 all_goals(first|(simp_all;done)|(simp_all;omega))
theorem field1_ok(g:Sh.Glob)(f:Fld)(s:List UInt8):SCalls Tryz.prog g 72 [flT f,.ptr 1000 0] [.box [S (str s)]] (B (f.n==s)) [.box [S (str s)]]:=by
 refine z25 hmix tf_10 rfl rfl rfl ?_;unfold B;simp only[vcA,seval,vV,clV]
theorem indexFld_ok(g:Sh.Glob)(l:List Fld)(s:List UInt8)(hl:l.length≤maxLen):SCalls Tryz.prog g 71 [.pv (.sl 4 (flR l)),.fn (.func 72) [] [.ptr 1000 0]] [.box [S (str s)]] (I (fieldAt l s)) [.box [S (str s)]]:=by
 refine z25 hmix tf_33 rfl rfl rfl ?_;have hm:maxLen=9223372036854775807:=rfl;simp only[vcA,seval,vV,clV];refine v_loop (σ:={i:Nat // i≤l.length∧∀j x,j<i→l[j]?=some x→(x.n==s)=false}) (fun i=>⟨[(0,.pv (.sl 4 (flR l))),(1,.fn (.func 72) [] [.ptr 1000 0]),(7,I (l.length:Int)),(8,I (i.1:Int))],[(1000,[S (str s)])],[],[]⟩) (fun i=>l.length-i.1) ⟨0,Nat.zero_le _,fun j x hj=>by omega⟩ (lw_eq (by simp[I,S])) ?_;rintro⟨i,hi,hno⟩;by_cases hlt:i<l.length
 ·have d1:(i:Int)<(l.length:Int):=by omega
  obtain⟨x,ex⟩:∃x,l[i]?=some x:=⟨_,gE hlt⟩
  have HN:=field1_ok g x s;have w1:IntKind.i64.wrap ((i:Int)+1)=((i+1:Nat):Int):=by rw[wrap64 (by omega) (by omega)];omega
  unfold flT B at HN;simp only[vcA,seval,vV,d1,ex,clV];(with_reducible apply z41);exact kv;exact HN;rfl;exact kv;cases hp:(x.n==s)
  ·simp only[vcA,seval,vV,w1];refine z11 ⟨i+1,by omega,fun j y hj hy=> ?_⟩ (by show l.length-(i+1)<l.length-i;omega) ?_
   ·by_cases hji:j=i
    ·subst hji;rw[ex]at hy;cases hy;exact hp
    ·exact hno j y (by omega) hy
   ·apply lw_of<;>simp[leL,lk,sv,Nat.beq,I,S,ES.kill,has,drp,nilT]
  ·simp only[vcA,seval,vV];unfold fieldAt;rw[z74 (fun f=>f.n==s) l i hno x ex hp]
 ·have d1:¬(i:Int)<(l.length:Int):=by omega
  simp only[vcA,seval,vV,d1];unfold fieldAt;rw[z77 (fun f=>f.n==s) l (fun x hx=>by
   obtain⟨j,hj⟩:=List.getElem?_of_mem hx;exact hno j x (by have:=(gJ hj).1;omega) hj)]
def fieldT(l:List Fld)(s:List UInt8):TV:=if fieldAt l s<0 then .tuple [I 0,B false] else .tuple [I (fieldAt l s),B true]
theorem field_ok(g:Sh.Glob)(c:Cls)(s:List UInt8)(hl:c.fs.length≤4611686018427387904):SCalls Tryz.prog g 34 [clT c,S (str s)] [] (fieldT c.fs s) []:=by
 have HI:=indexFld_ok g c.fs s (by unfold maxLen;omega);unfold fieldT;refine z8 hmix tf_9 rfl ?_;by_cases h:fieldAt c.fs s<0
 ·rw[if_pos h];simp only[vcA,seval,vV,clV];(with_reducible apply v_call);exact kv;rfl;exact HI;exact km;exact kv;simp only[vcA,seval,vV,h,B]
 ·rw[if_neg h];simp only[vcA,seval,vV,clV];(with_reducible apply v_call);exact kv;rfl;exact HI;exact km;exact kv;simp only[vcA,seval,vV,h,B]
theorem rightField_ok(g:Sh.Glob)(f:Fld)(hf:Short f.n):SCalls Tryz.prog g 70 [flT f] [] (B (z27 f)) []:=by
 have HN:=rightName_ok g f.n hf;have HT:=rightTypeC_ok g f.t;unfold z27;refine z8 hmix tf_16 rfl ?_;unfold B at*;simp only[vcA,seval,vV,clV];(with_reducible apply v_call);exact kv;rfl;exact HN;exact km;exact kv;cases h1:z26 f.n
 ·simp only[vcA,seval,vV]
 ·simp only[vcA,seval,vV];(with_reducible apply v_call);exact kv;rfl;exact HT;exact km;exact kv;cases h2:z24 f.t
  ·simp only[vcA,seval,vV]
  ·cases h3:f.ix
   ·simp only[vcA,seval,vV,h3];rfl
   ·simp only[vcA,seval,vV,h3]
theorem once_step{all:List Fld}{k:Nat}{f:Fld}{r:List Fld}:onceGo all k (f::r)=(z27 f&&fieldAt all f.n==k&&onceGo all (k+1) r):=rfl
theorem fieldAt_mem{l:List Fld}{f:Fld}(h:f∈l):¬fieldAt l f.n<0:=by
 unfold fieldAt;rw[firstAt_neg];intro hn;have:=hn f h;simp at this
theorem classRight_ok(g:Sh.Glob)(c:Cls)(hc:ClsOk c):SCalls Tryz.prog g 33 [clT c] [] (B (z44 c)) []:=by
 have HN:=rightName_ok g c.n hc.n;have hlen:=hc.len;obtain⟨R,hR⟩:∃R,z44 c=R:=⟨_,rfl⟩
 rw[hR];unfold z44 at hR;refine z8 hmix tf_11 rfl ?_;unfold B at*;simp only[vcA,seval,vV,clV];(with_reducible apply v_call);exact kv;rfl;exact HN;exact km;exact kv;cases h1:z26 c.n
 ·rw[h1]at hR;subst hR;simp only[vcA,seval,vV]
 rw[h1,Bool.true_and]at hR;by_cases h8:c.fs.length≤8
 ·rw[decide_eq_true h8,Bool.true_and]at hR;have d8:¬(8:Int)<(c.fs.length:Int):=by omega
  simp only[vcA,seval,vV,d8,clV];refine v_loop (σ:={k:Nat // k≤c.fs.length∧onceGo c.fs k (c.fs.drop k)=R}) (fun k=>⟨[(18,.pv (.sl 4 (flR c.fs))),(19,I (c.fs.length:Int)),(20,I (k.1:Int)),(1,.ptr 1 0)],[(1,[S (str c.n),.pv (.sl 4 (flR c.fs))])],[],[]⟩) (fun k=>c.fs.length-k.1) ⟨0,Nat.zero_le _,by simpa using hR⟩ ?_ ?_
  ·apply lw_of<;>simp[leL,lk,sv,Nat.beq,I,S,ES.kill,has,drp,nilT]
  rintro⟨k,hk,hT⟩;by_cases hlt:k<c.fs.length
  ·have d1:(k:Int)<(c.fs.length:Int):=by omega
   obtain⟨f,ef⟩:∃f,c.fs[k]?=some f:=⟨_,gE hlt⟩
   have hmem:=gM ef;have HF:=rightField_ok g f (hc.fs f hmem);have HA:=field_ok g c f.n hlen;have hne:=fieldAt_mem hmem;have w1:IntKind.i64.wrap ((k:Int)+1)=((k+1:Nat):Int):=by rw[wrap64 (by omega) (by omega)];omega
   have hdr:c.fs.drop k=f::c.fs.drop (k+1):=by
    rw[List.drop_eq_getElem_cons hlt];congr 1;rw[gE hlt]at ef;exact Option.some.inj ef
   rw[hdr,once_step]at hT;unfold fieldT at HA;rw[if_neg hne]at HA;unfold flT clT B at*;simp only[vcA,seval,vV,d1,ef,clV];(with_reducible apply v_call);exact kv;rfl;exact HF;exact km;exact kv;cases h2:z27 f
   ·rw[h2]at hT;subst hT;simp only[vcA,seval,vV]
   rw[h2,Bool.true_and]at hT;simp only[vcA,seval,vV];(with_reducible apply v_call);exact kv;rfl;exact HA;exact km;exact kv;by_cases hat:fieldAt c.fs f.n=(k:Int)
   ·have hb:(fieldAt c.fs f.n==(k:Int))=true:=by simpa using hat
    rw[hb,Bool.true_and]at hT;simp only[vcA,seval,vV,hat,w1];refine z11 ⟨k+1,hlt,hT⟩ (by show c.fs.length-(k+1)<c.fs.length-k;omega) ?_;apply lw_of<;>simp[leL,lk,sv,Nat.beq,I,S,ES.kill,has,drp,nilT]
   ·have hb:(fieldAt c.fs f.n==(k:Int))=false:=by simpa using hat
    rw[hb]at hT;subst hT;simp only[vcA,seval,vV,hat]
  ·have d1:¬(k:Int)<(c.fs.length:Int):=by omega
   have hdr:c.fs.drop k=[]:=List.drop_eq_nil_of_le (by omega);rw[hdr]at hT;simp only[vcA,seval,vV,d1];rw[←hT];rfl
 ·rw[decide_eq_false h8]at hR;subst hR;have d8:(8:Int)<(c.fs.length:Int):=by omega
  simp only[vcA,seval,vV,d8,clV]
def checkT(r:Int×Int):TV:=.tuple [I r.1,I r.2]
theorem classCheck_ok(m:Nat)(c:Cls)(vs:List V)(hc:ClsOk c)(hv:∀x∈vs,VOk x∧x.l.length≤maxLen)(hl:vs.length≤4611686018427387904):SCalls Tryz.prog (gl0 m) 19 [clT c,.pv (.sl 4 (V.rows vs))] [] (checkT (check c vs)) []:=by
 have HR:=classRight_ok (gl0 m) c hc;have hlen:=hc.len;obtain⟨R,hR⟩:∃R,check c vs=R:=⟨_,rfl⟩
 rw[hR];unfold check at hR;refine z8 hmix tf_6 rfl ?_;unfold checkT clT B at*;simp only[vcA,seval,vV,clV];(with_reducible apply v_call);exact kv;rfl;exact HR;exact km;exact kv;cases h1:z44 c
 ·rw[h1]at hR;simp at hR;subst hR;simp only[vcA,seval,vV]
 rw[h1]at hR;simp only[Bool.not_true,Bool.false_eq_true,if_false]at hR;by_cases h2:vs.length=c.fs.length
 ·have d2:(vs.length:Int)=(c.fs.length:Int):=by omega
  rw[if_neg (by simpa using h2)]at hR;simp only[vcA,seval,vV,d2,clV];refine v_loop (σ:={k:Nat // k≤c.fs.length∧z81 k (c.fs.drop k) (vs.drop k)=R}) (fun k=>⟨[(1,.pv (.sl 4 (V.rows vs))),(24,.pv (.sl 4 (flR c.fs))),(25,I (c.fs.length:Int)),(26,I (k.1:Int))],[(2,[S (str c.n),.pv (.sl 4 (flR c.fs))])],[],[]⟩) (fun k=>c.fs.length-k.1) ⟨0,Nat.zero_le _,by simpa using hR⟩ ?_ ?_
  ·apply lw_of<;>simp[leL,lk,sv,Nat.beq,I,S,ES.kill,has,drp,nilT]
  rintro⟨k,hk,hT⟩;by_cases hlt:k<c.fs.length
  ·have d1:(k:Int)<(c.fs.length:Int):=by omega
   obtain⟨f,ef⟩:∃f,c.fs[k]?=some f:=⟨_,gE hlt⟩
   have hlt2:k<vs.length:=by omega
   obtain⟨v,ev⟩:∃v,vs[k]?=some v:=⟨_,gE hlt2⟩
   obtain⟨hv1,hv2⟩:=hv v (gM ev);have HF:=fits_ok0 m v f.t hv1 hv2;have w1:IntKind.i64.wrap ((k:Int)+1)=((k+1:Nat):Int):=by rw[wrap64 (by omega) (by omega)];omega
   have hdr:c.fs.drop k=f::c.fs.drop (k+1):=by
    rw[List.drop_eq_getElem_cons hlt];congr 1;rw[gE hlt]at ef;exact Option.some.inj ef
   have hdv:vs.drop k=v::vs.drop (k+1):=by
    rw[List.drop_eq_getElem_cons hlt2];congr 1;rw[gE hlt2]at ev;exact Option.some.inj ev
   rw[hdr,hdv,z81]at hT;unfold B at HF;simp only[vcA,seval,vV,d1,ef,ev,clV];(with_reducible apply v_call);exact kv;rfl;exact HF;exact km;exact kv;cases h3:fitsV v f.t
   ·rw[h3]at hT;simp only[Bool.false_eq_true,if_false]at hT;subst hT;simp only[vcA,seval,vV]
   ·rw[h3]at hT;simp only[if_true]at hT;simp only[vcA,seval,vV,w1];refine z11 ⟨k+1,hlt,hT⟩ (by show c.fs.length-(k+1)<c.fs.length-k;omega) ?_;apply lw_of<;>simp[leL,lk,sv,Nat.beq,I,S,ES.kill,has,drp,nilT]
  ·have d1:¬(k:Int)<(c.fs.length:Int):=by omega
   have hdr:c.fs.drop k=[]:=List.drop_eq_nil_of_le (by omega);rw[hdr,z81]at hT;subst hT;simp only[vcA,seval,vV,d1]
 ·have d2:¬(vs.length:Int)=(c.fs.length:Int):=by omega
  rw[if_pos h2]at hR;subst hR;have hmin:min (vs.length:Int) (c.fs.length:Int)=((min vs.length c.fs.length:Nat):Int):=by omega
  simp only[vcA,seval,vV,d2,hmin,clV]
theorem refField_ok(g:Sh.Glob)(c:Cls)(s:List UInt8)(hl:c.fs.length≤4611686018427387904):SCalls Tryz.prog g 46 [clT c,S (str s)] [] (fieldT c.fs s) []:=by
 unfold fieldT;refine z8 hmix tf_29 rfl ?_;simp only[vcA,seval,vV,clV];refine v_loop (σ:={i:Nat // i≤c.fs.length∧∀j x,j<i→c.fs[j]?=some x→(x.n==s)=false}) (fun i=>⟨[(1,S (str s)),(6,I (i.1:Int)),(2,.ptr 2 0)],[(2,[S (str c.n),.pv (.sl 4 (flR c.fs))])],[],[]⟩) (fun i=>c.fs.length-i.1) ⟨0,Nat.zero_le _,fun j x hj=>by omega⟩ ?_ ?_
 ·apply lw_of<;>simp[leL,lk,sv,Nat.beq,I,S,ES.kill,has,drp,nilT]
 rintro⟨i,hi,hno⟩;by_cases hlt:i<c.fs.length
 ·have d1:(i:Int)<(c.fs.length:Int):=by omega
  obtain⟨x,ex⟩:∃x,c.fs[i]?=some x:=⟨_,gE hlt⟩
  have w1:IntKind.i64.wrap ((i:Int)+1)=((i+1:Nat):Int):=by rw[wrap64 (by omega) (by omega)];omega
  cases hp:(x.n==s)
  ·simp only[vcA,seval,vV,d1,ex,hp,w1,clV];refine z11 ⟨i+1,by omega,fun j y hj hy=> ?_⟩ (by show c.fs.length-(i+1)<c.fs.length-i;omega) ?_
   ·by_cases hji:j=i
    ·subst hji;rw[ex]at hy;cases hy;exact hp
    ·exact hno j y (by omega) hy
   ·apply lw_of<;>simp[leL,lk,sv,Nat.beq,I,S,ES.kill,has,drp,nilT]
  ·have hf:fieldAt c.fs s=(i:Int):=z74 (fun f:Fld=>f.n==s) c.fs i hno x ex hp;rw[hf,if_neg (by omega)];simp only[vcA,seval,vV,d1,ex,hp,clV];rfl
 ·have d1:¬(i:Int)<(c.fs.length:Int):=by omega
  have hf:fieldAt c.fs s= -1:=z77 (fun f:Fld=>f.n==s) c.fs (fun x hx=>by
   obtain⟨j,hj⟩:=List.getElem?_of_mem hx;exact hno j x (by have:=(gJ hj).1;omega) hj)
  rw[hf,if_pos (by omega)];simp only[vcA,seval,vV,d1,clV];rfl
end Go.Proofs.YtcpaleaajdilgaaGreatDoor
end

section
namespace Go.Mor
open Go Go.RowKit
set_option maxHeartbeats 1000000
def txts(i:Int):List UInt8:=([[],[97],[98,99],[195,169,116,195,169],[97,32,98],[122,122,32,116,111,112],[48],[45,55]]:List (List UInt8)).getD i.toNat []
def mkVal1(k n many:Int):V:=
 if k=1 then .mk 1 (pick n 41-20) [] []
 else if k=2 then .mk 2 0 (txts (pick n 8)) []
 else if many<1∨pick n 5=4 then V.nil
 else .mk k (1+pick n many) [] []
def mkVal(t:Ty)(n many:Int):V:=
 if t.k=5 then .mk 5 0 [] ((List.range (pick n 4).toNat).map fun i:Nat=>mkVal1 t.o (n.tdiv 4+(i:Int)) many)else mkVal1 t.k n many
def rawN(l:List Int)(i:Nat):Int:=if l=[] then i else IntKind.i64.wrap (l.getD (i%l.length) 0+i)
def mkVals(fs:List Fld)(l:List Int)(many:Int):List V:=fs.mapIdx fun i f=>mkVal f.t (rawN l i) many
theorem txts_right(j:Int)(h0:0≤j)(h1:j<8):z15 (txts j)=true:=by
 have:j=0∨j=1∨j=2∨j=3∨j=4∨j=5∨j=6∨j=7:=by omega
 rcases this with rfl|rfl|rfl|rfl|rfl|rfl|rfl|rfl<;>rfl
theorem right1_of(k n many:Int)(hk:1≤k∧k≤4)(hm:many≤100000):right1 (mkVal1 k n many)=true∧(mkVal1 k n many).l=[]∧ofKind (mkVal1 k n many) k=true∧(mkVal1 k n many).k≠5∧(mkVal1 k n many).s.length≤60:=by
 unfold mkVal1;by_cases h1:k=1
 ·subst h1;have:=z18 n 41 (by omega);simp[right1,bare,ofKind,V.k,V.n,V.s,V.l];omega
 ·rw[if_neg h1];by_cases h2:k=2
  ·subst h2;have h8:=z18 n 8 (by omega);have:=txts_right _ h8.1 h8.2;have hl:(txts (pick n 8)).length≤60:=by simp only[z15,Bool.and_eq_true,decide_eq_true_iff]at this;exact this.1
   simp[right1,ofKind,V.k,V.n,V.s,V.l,this,hl]
  ·rw[if_neg h2];by_cases h3:many<1∨pick n 5=4
   ·rw[if_pos h3];have hk34:k=3∨k=4:=by omega
    refine⟨by decide,rfl,?_,by decide,by decide⟩;rcases hk34 with rfl|rfl<;>decide
   ·rw[if_neg h3];have:=z18 n many (by omega);have hk34:k=3∨k=4:=by omega
    have hid:z71 (1+pick n many)=true:=by simp[z71];omega
    refine⟨?_,rfl,by simp[ofKind,V.k],by simp[V.k];omega,by simp[V.s]⟩;rcases hk34 with rfl|rfl<;>simp[right1,bare,V.k,V.n,V.s,V.l,hid]
end Go.Mor
end

section
namespace Go.Proofs.YtcpaleaajdilgaaGreatDoor
open Go Go.RowKit Go.Mor Go.Sh Go.Sh.Cd1 Go.Sh.Cd6
set_option maxRecDepth 100000
set_option maxHeartbeats 8000000
theorem pick4_ok(g:Sh.Glob)(c n:Int)(hc:I64 c)(hn:0<n):SCalls Tryz.prog g 45 [I c,I n] [] (I (Go.Mor.pick c n)) []:=by
 obtain⟨h0,h1⟩:=hc;refine z8 hmix tf_28 rfl ?_;have hne:¬n=0:=by omega
 unfold Go.Mor.pick;by_cases hneg:c<0
 ·rw[if_pos hneg];have w1:IntKind.i64.wrap (c+1)=c+1:=wrap64 (by omega) (by omega);have w2:IntKind.i64.wrap (0-(c+1))= -(c+1):=by rw[wrap64 (by omega) (by omega)];omega
  have hm:(-(c+1)).tmod n=(-(c+1))%n:=Int.tmod_eq_emod_of_nonneg (by omega);simp only[vcA,seval,vV,hneg,hne,w1,w2,hm]
 ·rw[if_neg hneg];have hm:c.tmod n=c%n:=Int.tmod_eq_emod_of_nonneg (by omega);simp only[vcA,seval,vV,hneg,hne,hm]
theorem txts_at{i:Nat}(h:i<8):([[PV.v (.string ⟨#[]⟩)],[.v (.string ⟨#[97]⟩)],[.v (.string ⟨#[98,99]⟩)],[.v (.string ⟨#[195,169,116,195,169]⟩)],[.v (.string ⟨#[97,32,98]⟩)],[.v (.string ⟨#[122,122,32,116,111,112]⟩)],[.v (.string ⟨#[48]⟩)],[.v (.string ⟨#[45,55]⟩)]]:List (List PV))[i]?=some [.v (.string (str (txts (i:Int))))]:=by
 have:i=0∨i=1∨i=2∨i=3∨i=4∨i=5∨i=6∨i=7:=by omega
 rcases this with rfl|rfl|rfl|rfl|rfl|rfl|rfl|rfl<;>rfl
theorem z94(k n many:Int):(mkVal1 k n many).l=[]:=by
 unfold mkVal1
 repeat' split
 all_goals rfl
theorem valOf1_ok(g:Sh.Glob)(t:Ty)(n many:Int)(ht:1≤t.k∧t.k≤4)(hn:I64 n)(hm:1≤many∧many≤100000):SCalls Tryz.prog g 47 [tyT t,I n,I many] [] (nv (mkVal1 t.k n many)) []:=by
 obtain⟨k,o⟩:=t;simp only at ht;have hk:k=1∨k=2∨k=3∨k=4:=by omega
 unfold mkVal1;unfold tyT;simp only[];have h34:∀j:Int,(j=3∨j=4)→SCalls Tryz.prog g 47 [.agg [I j,I o],I n,I many] [] (nv (if many<1∨Go.Mor.pick n 5=4 then V.nil else .mk j (1+Go.Mor.pick n many) [] [])) []:=by
  intro j hj;have P5:=pick4_ok g n 5 hn (by decide);have PM:=pick4_ok g n many hn (by omega);have hb:=z18 n many (by omega);have d1:¬many<1:=by omega
  have w1:IntKind.i64.wrap (1+Go.Mor.pick n many)=1+Go.Mor.pick n many:=wrap64 (by omega) (by omega);refine z8 hmix tf_25 rfl ?_;unfold nv;generalize Go.Mor.pick n many=b at*;generalize Go.Mor.pick n 5=a at*;by_cases h4:a=4
  ·rw[if_pos (.inr h4)];rcases hj with rfl|rfl
   ·simp only[vcA,seval,vV,d1];(with_reducible apply v_call);exact kv;rfl;exact P5;exact km;exact kv;simp only[vcA,seval,vV,h4];rfl
   ·simp only[vcA,seval,vV,d1];(with_reducible apply v_call);exact kv;rfl;exact P5;exact km;exact kv;simp only[vcA,seval,vV,h4];rfl
  ·rw[if_neg (fun h=>h.elim (fun h=>by omega) h4)];rcases hj with rfl|rfl
   ·simp only[vcA,seval,vV,d1];(with_reducible apply v_call);exact kv;rfl;exact P5;exact km;exact kv;simp only[vcA,seval,vV,h4];(with_reducible apply v_call);exact kv;rfl;exact PM;exact km;exact kv;simp only[vcA,seval,vV,w1];rfl
   ·simp only[vcA,seval,vV,d1];(with_reducible apply v_call);exact kv;rfl;exact P5;exact km;exact kv;simp only[vcA,seval,vV,h4];(with_reducible apply v_call);exact kv;rfl;exact PM;exact km;exact kv;simp only[vcA,seval,vV,w1];rfl
 rcases hk with rfl|rfl|rfl|rfl
 ·have P:=pick4_ok g n 41 hn (by decide);have hb:=z18 n 41 (by decide);have w1:IntKind.i64.wrap (Go.Mor.pick n 41-20)=Go.Mor.pick n 41-20:=wrap64 (by omega) (by omega);rw[if_pos rfl];generalize Go.Mor.pick n 41=b at*;refine z8 hmix tf_25 rfl ?_;unfold nv;simp only[vcA,seval,vV];(with_reducible apply v_call);exact kv;rfl;exact P;exact km;exact kv;simp only[vcA,seval,vV,w1];rfl
 ·have P:=pick4_ok g n 8 hn (by decide);have hb:=z18 n 8 (by decide);rw[if_neg (show ¬(2:Int)=1 by decide),if_pos rfl];obtain⟨i,hi⟩:=Int.eq_ofNat_of_zero_le hb.1;rw[hi]at P hb ⊢;have e1:=txts_at (i:=i) (by omega);refine z8 hmix tf_25 rfl ?_;unfold nv;simp only[vcA,seval,vV];(with_reducible apply v_call);exact kv;rfl;exact P;exact km;exact kv;simp only[vcA,seval,vV,e1]
 ·rw[if_neg (show ¬(3:Int)=1 by decide),if_neg (show ¬(3:Int)=2 by decide)];exact h34 3 (.inl rfl)
 ·rw[if_neg (show ¬(4:Int)=1 by decide),if_neg (show ¬(4:Int)=2 by decide)];exact h34 4 (.inr rfl)
end Go.Proofs.YtcpaleaajdilgaaGreatDoor
end

section
namespace Go.Mor
open Go Go.RowKit
set_option maxHeartbeats 1000000
theorem checkGo_ok:∀(fs:List Fld) (vs:List V) (k:Nat),(∀(i:Nat) f v,fs[i]?=some f→vs[i]?=some v→fitsV v f.t=true)→z81 k fs vs=(0,0):=by
 intro fs
 induction fs with
 |nil=>intro vs k _;simp[z81]
 |cons f r ih=>
  intro vs k h;cases vs with
  |nil=>simp[z81]
  |cons v q=>
   rw[z81,if_pos (h 0 f v rfl rfl)];exact ih q (k+1) fun i f v hf hv=>h (i+1) f v (by simpa using hf) (by simpa using hv)
theorem check_ok{c:Cls}{vs:List V}(hc:z44 c=true)(hl:vs.length=c.fs.length)(h:∀(i:Nat) f v,c.fs[i]?=some f→vs[i]?=some v→fitsV v f.t=true):check c vs=(0,0):=by
 simp only[check,hc,Bool.not_true,Bool.false_eq_true,if_false,hl,ne_eq,not_true_eq_false];exact checkGo_ok _ _ _ h
theorem fits_mkVal(t:Ty)(n many:Int)(ht:z24 t=true)(hm:many≤100000):fitsV (mkVal t n many) t=true∧(mkVal t n many).s.length≤60∧∀y∈(mkVal t n many).l,y.s.length≤60:=by
 obtain⟨k,o⟩:=t;by_cases h5:k=5
 ·subst h5;have ho:1≤o∧o≤4:=by simpa [z24]using ht
  have hp:=z18 n 4 (by omega);have hall:∀y∈(List.range (pick n 4).toNat).map (fun i:Nat=>mkVal1 o (n.tdiv 4+(i:Int)) many),noItem y=false∧ofKind y o=true∧y.s.length≤60:=by
   intro y hy;obtain⟨i,_,rfl⟩:=List.mem_map.1 hy;obtain⟨h1,_,h3,h4,h6⟩:=right1_of o (n.tdiv 4+(i:Int)) many ho hm;exact⟨by simp[noItem,h1,h4],h3,h6⟩
  have e:mkVal ⟨5,o⟩ n many=.mk 5 0 [] ((List.range (pick n 4).toNat).map (fun i:Nat=>mkVal1 o (n.tdiv 4+(i:Int)) many)):=if_pos rfl;rw[e];refine⟨?_,by simp[V.s],fun y hy=>(hall y hy).2.2⟩;simp only[fitsV,Bool.and_eq_true];refine⟨⟨⟨?_,ht⟩,by simp[ofKind,V.k]⟩,?_⟩
  ·simp only[rightV,V.k,V.n,V.s,V.l,if_true,Bool.and_eq_true,Bool.not_eq_true',List.any_eq_false];refine⟨⟨⟨rfl,rfl⟩,by simp;omega⟩,fun y hy=>by simpa using(hall y hy).1⟩
  ·simp only[V.l,Bool.not_eq_true',List.any_eq_false];intro y hy;simp[(hall y hy).2.1]
 ·have hk:1≤k∧k≤4:=by simp[z24,h5]at ht;omega
  obtain⟨h1,h2,h3,h4,h6⟩:=right1_of k n many hk hm;have e:mkVal ⟨k,o⟩ n many=mkVal1 k n many:=if_neg h5;rw[e];refine⟨?_,h6,by rw[h2];intro y hy;cases hy⟩;simp only[fitsV,rightV,if_neg h4,h1,ht,h3,h2];simp
theorem mkVals_at{fs:List Fld}{l:List Int}{many:Int}{i:Nat}{f:Fld}(h:fs[i]?=some f):(mkVals fs l many)[i]?=some (mkVal f.t (rawN l i) many):=by unfold mkVals;rw[List.getElem?_mapIdx,h];rfl
theorem z104(fs:List Fld)(l:List Int)(many:Int):(mkVals fs l many).length=fs.length:=by unfold mkVals;exact List.length_mapIdx
theorem GoodC.type{c:Cls}(h:GoodC c){f:Fld}(hf:f∈c.fs):z24 f.t=true:=by
 have:=(h.fs f hf).1;unfold z27 at this;simp only[Bool.and_eq_true]at this;exact this.1.2
theorem vals_fit{c:Cls}(h:GoodC c)(l:List Int){many:Int}(hm:many≤100000){i:Nat}{f:Fld}{v:V}(hf:c.fs[i]?=some f)(hv:(mkVals c.fs l many)[i]?=some v):fitsV v f.t=true:=by
 rw[mkVals_at hf]at hv;cases hv;exact(fits_mkVal f.t _ many (h.type (gM hf)) hm).1
theorem vals_check{c:Cls}(h:GoodC c)(l:List Int){many:Int}(hm:many≤100000):check c (mkVals c.fs l many)=(0,0):=
 check_ok h.right (z104 ..) fun _ _ _ hf hv=>vals_fit h l hm hf hv
end Go.Mor
end

section
namespace Go.Proofs.YtcpaleaajdilgaaGreatDoor
open Go Go.RowKit Go.Mor Go.Sh Go.Sh.Cd1 Go.Sh.Cd6
set_option maxRecDepth 100000
set_option maxHeartbeats 8000000
def iiR(l:List Int):List (List PV):=l.map fun z=>[PV.v (.int .i64 z)]
theorem iiGet(l:List Int)(k:Nat):(iiR l)[k]?=(l[k]?).map fun z=>[PV.v (.int .i64 z)]:=by unfold iiR;rw[List.getElem?_map]
theorem iiLen(l:List Int):(iiR l).length=l.length:=by unfold iiR;rw[List.length_map]
def mkL(o n many:Int)(i:Nat):List V:=(List.range i).map fun i:Nat=>mkVal1 o (n.tdiv 4+(i:Int)) many
theorem mkL_succ(o n many:Int)(i:Nat):mkL o n many (i+1)=mkL o n many i++[mkVal1 o (n.tdiv 4+(i:Int)) many]:=by unfold mkL;rw[List.range_succ,List.map_append];rfl
theorem mkL_len(o n many:Int)(i:Nat):(mkL o n many i).length=i:=by simp[mkL]
theorem valOf5_ok(g:Sh.Glob)(o n many:Int)(ho:1≤o∧o≤4)(hn:I64 n)(hm:1≤many∧many≤100000):SCalls Tryz.prog g 47 [tyT ⟨5,o⟩,I n,I many] [] (tv (mkVal ⟨5,o⟩ n many)) []:=by
 have P4:=pick4_ok g n 4 hn (by decide);have hb:=z18 n 4 (by decide);have hn':=hn;obtain⟨n0,n1⟩:=hn';obtain⟨q,hq⟩:=Int.eq_ofNat_of_zero_le hb.1;have e1:mkVal ⟨5,o⟩ n many=.mk 5 0 [] (mkL o n many q):=by unfold mkVal mkL;rw[if_pos rfl,hq];rfl
 rw[e1];rw[hq]at P4 hb;refine call_of1 hmix tf_25 rfl rfl ?_;unfold tv tyT;simp only[vcA,seval,vV];refine v_loop (σ:={i:Nat // i≤q}) (fun i=>⟨[(1,I n),(2,I many),(3,.ptr 3 0),(6,.ptr 6 0),(8,.ptr 8 0),(9,I (i.1:Int))],
   [(3,[I 5,I o]),(6,[I 0,I 0,S ⟨#[]⟩,nilT]),(8,[I 5,I 0,S ⟨#[]⟩,.own 3000 4 (V.rows (mkL o n many i.1))])],[(3000,(37,4,i.1))],[]⟩) (fun i=>q-i.1) ⟨0,Nat.zero_le _⟩ ?_ ?_
 ·refine ES.Lw.trans ?_ (adB_lw (x:=8) (j:=3) (d:=3000) (e:=37) (W:=4) (.inr (by decide)) (by decide) rfl (by simp only[vcA,seval]) rfl);exact lw_eq rfl
 rintro⟨i,hi⟩;have hlen:=mkL_len o n many i;by_cases hlt:i<q
 ·have d1:(i:Int)<(q:Int):=by omega
  have w1:IntKind.i64.wrap ((i:Int)+1)=((i+1:Nat):Int):=by rw[wrap64 (by omega) (by omega)];omega
  have t0: -9223372036854775808≤n.tdiv 4∧n.tdiv 4≤2305843009213693952:=by
   rcases Int.le_total 0 n with h|h
   ·rw[Int.tdiv_eq_ediv_of_nonneg h];omega
   ·have:n.tdiv 4= -((-n).tdiv 4):=by rw[Int.neg_tdiv];omega
    rw[this,Int.tdiv_eq_ediv_of_nonneg (by omega)];omega
  have w2:IntKind.i64.wrap (n.tdiv 4)=n.tdiv 4:=wrap64 (by omega) (by omega);have w3:IntKind.i64.wrap (n.tdiv 4+(i:Int))=n.tdiv 4+(i:Int):=wrap64 (by omega) (by omega);have HV:=(valOf1_ok g ⟨o,0⟩ (n.tdiv 4+(i:Int)) many ho ⟨by omega,by omega⟩ hm).out (nv_tv (z94 _ _ _));unfold tv tyT at HV;rw[z94,V.rows_nil]at HV;simp only[vcA,seval,vV,nilT];(with_reducible apply v_call);exact kv;rfl;exact P4;exact km;exact kv;simp only[vcA,seval,vV,d1,w2,w3];refine Or.inl ?_;(with_reducible apply v_call);exact kv;rfl;exact HV;exact km;exact kv;simp only[vcA,seval,vV,hlen,w1];refine⟨⟨by omega,by unfold maxLen;omega⟩,z11 ⟨i+1,hlt⟩ (by show q-(i+1)<q-i;omega) ?_⟩;refine lw_eq ?_;simp only[mkL_succ,rows_snoc,row_of_nil (z94 _ _ _),z94,V.rows_nil]
 ·obtain rfl:i=q:=by omega
  have d1:¬(i:Int)<(i:Int):=by omega
  simp only[vcA,seval,vV,nilT];(with_reducible apply v_call);exact kv;rfl;exact P4;exact km;exact kv;simp only[vcA,seval,vV,d1];all_goals rfl
theorem mkVal_1{t:Ty}(h:¬t.k=5)(n many:Int):mkVal t n many=mkVal1 t.k n many:=by unfold mkVal;rw[if_neg h]
theorem valOf4_ok(g:Sh.Glob)(t:Ty)(n many:Int)(ht:z24 t=true)(hn:I64 n)(hm:1≤many∧many≤100000):SCalls Tryz.prog g 47 [tyT t,I n,I many] [] (tv (mkVal t n many)) []:=by
 obtain⟨k,o⟩:=t;unfold z24 at ht;by_cases h:k=5
 ·subst h;rw[if_pos rfl,decide_eq_true_iff]at ht;exact valOf5_ok g o n many ht hn hm
 ·rw[if_neg h,decide_eq_true_iff]at ht;rw[mkVal_1 h];exact(valOf1_ok g ⟨k,o⟩ n many ⟨ht.1,ht.2.1⟩ hn hm).out (nv_tv (z94 _ _ _))
theorem rawN_at{l:List Int}{i:Nat}(h:l≠[]):∃z,l[i%l.length]?=some z∧rawN l i=IntKind.i64.wrap (z+i):=by
 have hp:0<l.length:=List.length_pos_iff.2 h;refine⟨_,gE (Nat.mod_lt _ hp),?_⟩;unfold rawN;rw[if_neg h,List.getD_eq_getElem?_getD,gE (Nat.mod_lt _ hp)];rfl
theorem wrap_64(x:Int):I64 (IntKind.i64.wrap x):=by unfold I64;rw[IntKind.wrap_i64];omega
theorem valsOf4_ok(g:Sh.Glob)(c:Cls)(l:List Int)(many:Int)(hc:∀f∈c.fs,z24 f.t=true)(hl:c.fs.length≤1000)(hll:l.length≤9223372036854775807)(hm:1≤many∧many≤100000):
  SCalls Tryz.prog g 13 [clT c,.pv (.sl 1 (iiR l)),I many] [] (.pv (.sl 4 (V.rows (mkVals c.fs l many)))) []:=by
 refine call_of1 hmix tf_26 rfl rfl ?_;simp only[vcA,seval,vV,clV];refine v_loop (σ:={i:Nat // i≤c.fs.length}) (fun i=>⟨[(1,.pv (.sl 1 (iiR l))),(2,I many),(3,.ptr 3 0),(7,.own 3000 4 (V.rows ((mkVals c.fs l many).take i.1))),(8,I (i.1:Int))],
   [(3,[S (str c.n),.pv (.sl 4 (flR c.fs))])],[(3000,(37,4,i.1))],[]⟩) (fun i=>c.fs.length-i.1) ⟨0,Nat.zero_le _⟩ ?_ ?_
 ·refine ES.Lw.trans ?_ (adT_lw (k:=7) (d:=3000) (e:=37) (W:=4) (.inr (by decide)) rfl);exact lw_eq rfl
 rintro⟨i,hi⟩;have hlen:((mkVals c.fs l many).take i).length=i:=by rw[List.length_take,z104];omega
 by_cases hlt:i<c.fs.length
 ·have d1:(i:Int)<(c.fs.length:Int):=by omega
  obtain⟨f,ef⟩:∃f,c.fs[i]?=some f:=⟨_,gE hlt⟩
  have w1:IntKind.i64.wrap ((i:Int)+1)=((i+1:Nat):Int):=by rw[wrap64 (by omega) (by omega)];omega
  have htk:(mkVals c.fs l many).take (i+1)=(mkVals c.fs l many).take i++[mkVal f.t (rawN l i) many]:=by rw[List.take_add_one,mkVals_at ef];rfl
  have hN:I64 (rawN l i):=by
   unfold rawN;split
   ·exact⟨by omega,by omega⟩
   ·exact wrap_64 _
  have HV:=valOf4_ok g f.t (rawN l i) many (hc f (gM ef)) hN hm;unfold tv tyT at HV;by_cases h0:l=[]
  ·have hr:rawN l i=(i:Int):=by unfold rawN;rw[if_pos h0]
   have d2:¬0<(l.length:Int):=by rw[h0];decide
   rw[hr]at HV htk;simp only[vcA,seval,vV,d1,d2,iiLen,ef,clV];refine Or.inl ?_;(with_reducible apply v_call);exact kv;rfl;exact HV;exact km;exact kv;simp only[vcA,seval,vV,hlen,w1];refine⟨⟨by omega,by unfold maxLen;omega⟩,z11 ⟨i+1,hlt⟩ (by show c.fs.length-(i+1)<c.fs.length-i;omega) ?_⟩;refine lw_eq ?_;simp only[htk,rows_snoc,row4]
  ·obtain⟨z,hz,hr⟩:=rawN_at (i:=i) h0;have hp:0<l.length:=List.length_pos_iff.2 h0;have d2:0<(l.length:Int):=by omega
   have d3:¬(l.length:Int)=0:=by omega
   have hmm:(i:Int).tmod (l.length:Int)=((i%l.length:Nat):Int):=(Int.ofNat_tmod _ _).symm;rw[hr]at HV htk;simp only[vcA,seval,vV,d1,d2,iiLen,d3,hmm,iiGet,hz,ef,clV];refine Or.inl ?_;(with_reducible apply v_call);exact kv;rfl;exact HV;exact km;exact kv;simp only[vcA,seval,vV,hlen,w1];refine⟨⟨by omega,by unfold maxLen;omega⟩,z11 ⟨i+1,hlt⟩ (by show c.fs.length-(i+1)<c.fs.length-i;omega) ?_⟩;refine lw_eq ?_;simp only[htk,rows_snoc,row4]
 ·obtain rfl:i=c.fs.length:=by omega
  have d1:¬(c.fs.length:Int)<(c.fs.length:Int):=by omega
  simp only[vcA,seval,vV,d1,clV];rw[List.take_of_length_le (by rw[z104];omega)]
theorem flR_snoc(l:List Fld)(f:Fld):flR (l++[f])=flR l++[flR1 f]:=by unfold flR;rw[List.map_append];rfl
theorem field_tuple(l:List Fld)(s:List UInt8):∃(p:Int) (t:Bool),fieldT l s=.tuple [I p,.pv (.v (.bool t))]∧(fieldAt l s<0 ↔ t=false):=by
 unfold fieldT B;by_cases h:fieldAt l s<0
 ·rw[if_pos h];exact⟨0,false,rfl,fun _=>rfl,fun _=>h⟩
 ·rw[if_neg h];exact⟨_,true,rfl,fun h'=>absurd h' h,fun h'=>by cases h'⟩
theorem classOf4_ok(g:Sh.Glob)(x:Raw)(hx:RawOk x):SCalls Tryz.prog g 12 [rawT x] [] (clT (z69 x)) []:=by
 have PN:=pick4_ok g x.n 6 hx.n (by decide);have hb:=z18 x.n 6 (by decide);have hlx:=hx.len;obtain⟨q,hq⟩:=Int.eq_ofNat_of_zero_le hb.1;have ec:=nmC_at (i:=q) (by omega);have e0:z69 x=⟨nmC (q:Int),(x.fs.take 6).foldl addF []⟩:=by unfold z69;rw[hq]
 rw[e0];rw[hq]at PN;refine call_of1 hmix tf_23 rfl rfl ?_;unfold rawT clT;simp only[vcA,seval,vV];(with_reducible apply v_call);exact kv;rfl;exact PN;exact km;exact kv;simp only[vcA,seval,vV,ec];refine v_loop (σ:={i:Nat // i≤x.fs.length∧i≤6}) (fun i=>⟨[(1,.ptr 1 0),(2,.ptr 2 0),(3,.pv (.sl 1 [[PV.v (.string ⟨#[97]⟩)],[.v (.string ⟨#[98,50]⟩)],[.v (.string ⟨#[110,97,109,101]⟩)],[.v (.string ⟨#[110,101,120,116,95,111,110,101]⟩)],[.v (.string ⟨#[107,105,100,115]⟩)],[.v (.string ⟨#[120]⟩)]])),(4,.ptr 4 0),(5,I (i.1:Int))],
   [(1,[I x.n,.pv (.sl 4 (rfR x.fs))]),(2,[S ⟨#[]⟩,nilT]),(4,[S (str (nmC (q:Int))),.own 3000 4 (flR ((x.fs.take i.1).foldl addF []))])],[(3000,(55,4,((x.fs.take i.1).foldl addF []).length))],[]⟩) (fun i=>6-i.1) ⟨0,Nat.zero_le _,Nat.zero_le _⟩ ?_ ?_
 ·refine ES.Lw.trans ?_ (adB_lw (x:=4) (j:=1) (d:=3000) (e:=55) (W:=4) (.inr (by decide)) (by decide) rfl (by simp only[vcA,seval]) rfl);exact lw_eq rfl
 rintro⟨i,hi,hi6⟩;by_cases hlt:i<x.fs.length∧i<6
 ·obtain⟨hlt,hl6⟩:=hlt;have d1:(i:Int)<(x.fs.length:Int):=by omega
  have d2:(i:Int)<6:=by omega
  obtain⟨r,er⟩:∃r,x.fs[i]?=some r:=⟨_,gE hlt⟩
  have w1:IntKind.i64.wrap ((i:Int)+1)=((i+1:Nat):Int):=by rw[wrap64 (by omega) (by omega)];omega
  obtain⟨r1,r2,r3⟩:=hx.fs r (gM er);have P1:=pick4_ok g r.n 6 r1 (by decide);have P2:=pick4_ok g r.k 5 r2 (by decide);have P3:=pick4_ok g r.o 4 r3 (by decide);have b1:=z18 r.n 6 (by decide);have b2:=z18 r.k 5 (by decide);have b3:=z18 r.o 4 (by decide);have hst:=class_step x.fs i r er;have hal:=class_len x.fs i;rw[addF]at hst;have hF:z83 r=⟨nmF (Go.Mor.pick r.n 6),⟨1+Go.Mor.pick r.k 5,if Go.Mor.pick r.k 5=4 then 1+Go.Mor.pick r.o 4 else 0⟩,r.ix&&decide (1+Go.Mor.pick r.k 5≤3)⟩:=rfl;rw[hF]at hst;simp only[]at hst;obtain⟨j,hj⟩:=Int.eq_ofNat_of_zero_le b1.1;have ej:=nmF_at (i:=j) (by omega);rw[hj]at P1 hst;change _=(if fieldAt ((x.fs.take i).foldl addF []) (nmF (j:Int))<0 then _ else(x.fs.take i).foldl addF [])at hst;generalize(x.fs.take i).foldl addF []=acc at*;generalize Go.Mor.pick r.k 5=b at*;generalize Go.Mor.pick r.o 4=o at*;have HF:=refField_ok g ⟨nmC (q:Int),acc⟩ (nmF (j:Int)) (by show acc.length≤_;omega);obtain⟨p,t,hp,ht⟩:=field_tuple acc (nmF (j:Int));rw[show fieldT (Cls.fs ⟨nmC (q:Int),acc⟩) (nmF (j:Int))=_ from hp]at HF;unfold clT at HF;have w2:IntKind.i64.wrap (1+b)=1+b:=wrap64 (by omega) (by omega);have w3:IntKind.i64.wrap (1+o)=1+o:=wrap64 (by omega) (by omega)
  have hfl:=flLen acc;by_cases h4:b=4
  ·have d5:1+b=5:=by omega
   have d3:¬1+b≤3:=by omega
   have hix:(r.ix&&decide (1+b≤3))=false:=by rw[decide_eq_false d3,Bool.and_false]
   rw[if_pos h4,hix,d5]at hst;have w5:IntKind.i64.wrap 5=5:=wrap64 (by omega) (by omega);cases hr:r.ix;all_goals(
    simp only[vcA,seval,vV,rfGet,rfLen,rfR1,d1,d2,er,nilT];(with_reducible apply v_call);exact kv;rfl;exact P1;exact km;exact kv;simp only[vcA,seval,vV,ej];(with_reducible apply v_call);exact kv;rfl;exact P2;exact km;exact kv;simp only[vcA,seval,vV,w2,d5,w5];(with_reducible apply v_call);exact kv;rfl;exact P3;exact km;exact kv;simp only[vcA,seval,vV,w3,hr];(with_reducible apply v_call);exact kv;rfl;exact HF;exact km;exact kv;cases t
    ·rw[if_pos (ht.2 rfl)]at hst;simp only[vcA,seval,vV,hfl,w1];refine⟨⟨by omega,by unfold maxLen;omega⟩,z11 ⟨i+1,hlt,hl6⟩ (by show 6-(i+1)<6-i;omega) ?_⟩;simp only[hst,flR_snoc,List.length_append,List.length_singleton];apply lw_of<;>simp[leL,lk,sv,Nat.beq,I,S,ES.kill,has,drp,nilT,flR1]
    ·rw[if_neg (fun h=>Bool.noConfusion (ht.1 h))]at hst;simp only[vcA,seval,vV,w1];refine z11 ⟨i+1,hlt,hl6⟩ (by show 6-(i+1)<6-i;omega) ?_;simp only[hst];apply lw_of<;>simp[leL,lk,sv,Nat.beq,I,S,ES.kill,has,drp,nilT])
  ·have d5:¬1+b=5:=by omega
   rw[if_neg h4]at hst;have hc:(r.ix=false∧(True∨False)∧(r.ix&&decide (1+b≤3))=false)∨(r.ix=true∧1+b≤3∧(r.ix&&decide (1+b≤3))=true)∨(r.ix=true∧¬1+b≤3∧(r.ix&&decide (1+b≤3))=false):=by
    cases r.ix
    ·exact .inl ⟨rfl,.inl trivial,rfl⟩
    ·by_cases h:1+b≤3
     ·exact .inr (.inl ⟨rfl,h,by rw[decide_eq_true h];rfl⟩)
     ·exact .inr (.inr ⟨rfl,h,by rw[decide_eq_false h];rfl⟩)
   rcases hc with⟨hr,d3,hix⟩|⟨hr,d3,hix⟩|⟨hr,d3,hix⟩
   all_goals(
    rw[hix]at hst;simp only[vcA,seval,vV,rfGet,rfLen,rfR1,d1,d2,er,nilT];(with_reducible apply v_call);exact kv;rfl;exact P1;exact km;exact kv;simp only[vcA,seval,vV,ej];(with_reducible apply v_call);exact kv;rfl;exact P2;exact km;exact kv;simp only[vcA,seval,vV,w2,d5,hr,d3];(with_reducible apply v_call);exact kv;rfl;exact HF;exact km;exact kv;cases t
    ·rw[if_pos (ht.2 rfl)]at hst;simp only[vcA,seval,vV,hfl,w1];refine⟨⟨by omega,by unfold maxLen;omega⟩,z11 ⟨i+1,hlt,hl6⟩ (by show 6-(i+1)<6-i;omega) ?_⟩;simp only[hst,flR_snoc,List.length_append,List.length_singleton];apply lw_of<;>simp[leL,lk,sv,Nat.beq,I,S,ES.kill,has,drp,nilT,flR1]
    ·rw[if_neg (fun h=>Bool.noConfusion (ht.1 h))]at hst;simp only[vcA,seval,vV,w1];refine z11 ⟨i+1,hlt,hl6⟩ (by show 6-(i+1)<6-i;omega) ?_;simp only[hst];apply lw_of<;>simp[leL,lk,sv,Nat.beq,I,S,ES.kill,has,drp,nilT])
 ·have he:(x.fs.take i).foldl addF []=(x.fs.take 6).foldl addF []:=by
   by_cases h:i<6
   ·have h1:x.fs.length≤i:=by omega
    rw[List.take_of_length_le h1,List.take_of_length_le (by omega)]
   ·obtain rfl:i=6:=by omega
    rfl
  rw[←he];by_cases hl:i<x.fs.length
  ·have d1:(i:Int)<(x.fs.length:Int):=by omega
   have d2:¬(i:Int)<6:=by omega
   simp only[vcA,seval,vV,rfLen,d1,d2,nilT]
  ·have d1:¬(i:Int)<(x.fs.length:Int):=by omega
   simp only[vcA,seval,vV,rfLen,d1,nilT]
end Go.Proofs.YtcpaleaajdilgaaGreatDoor
end

section
namespace Go.Proofs.YtcpaleaajdilgaaGreatDoor
open Go Go.RowKit Go.Mor Go.Sh
set_option maxHeartbeats 2000000
theorem good_ok{c:Cls}(h:GoodC c):ClsOk c:=
 ⟨by have:=h.nm.2;unfold Short;omega,fun f hf=>by have:=(h.fs f hf).2;unfold Short;omega,by have:=h.len;omega⟩
theorem vok_60{v:V}(h1:v.s.length≤60)(h2:∀y∈v.l,y.s.length≤60):VOk v:=⟨by unfold TextsOk;omega,fun y hy=>by have:=h2 y hy;unfold TextsOk;omega⟩
end Go.Proofs.YtcpaleaajdilgaaGreatDoor
end

section
namespace Go.Proofs.YtcpaleaajdilgaaGreatDoor
open Go Go.RowKit Go.Mor Go.Sh
inductive VFew:V→Prop where
 |mk {k n:Int} {s:List UInt8} {l:List V} (h:l.length≤1000) (hs:∀y∈l,VFew y):VFew (.mk k n s l)
theorem VFew.len{x:V}(h:VFew x):x.l.length≤1000:=by cases h;assumption
theorem VFew.sub{x y:V}(h:VFew x)(hy:y∈x.l):VFew y:=by cases h with|mk _ hs=>exact hs y hy
theorem few0{x:V}(h:x.l=[]):VFew x:=by cases x with|mk k n s l=>simp only[Vl]at h;subst h;exact .mk (by simp) (by simp)
theorem VFew.small{x:V}(h:VFew x):VSmall x:=by
 induction h with
 |mk h _ ih=>exact .mk (by unfold maxLen;omega) ih
end Go.Proofs.YtcpaleaajdilgaaGreatDoor
end

section
namespace Go.Proofs.YtcpaleaajdilgaaGreatDoor
open Go Go.RowKit Go.Mor Go.Sh
set_option maxHeartbeats 2000000
theorem mk_few{t:Ty}{n many:Int}(ht:z24 t=true)(hm:many≤100000):VFew (mkVal t n many)∧VOk (mkVal t n many):=by
 obtain⟨_,h1,h2⟩:=fits_mkVal t n many ht hm;refine⟨?_,vok_60 h1 h2⟩;unfold mkVal;split
 ·have hb:=z18 n 4 (by decide);refine .mk (by rw[List.length_map,List.length_range];omega) fun y hy=> ?_;obtain⟨i,_,rfl⟩:=List.mem_map.1 hy;exact few0 (z94 _ _ _)
 ·exact few0 (z94 _ _ _)
theorem vals_few{c:Cls}(h:GoodC c)(l:List Int){many:Int}(hm:many≤100000):∀v∈mkVals c.fs l many,VFew v∧VOk v:=by
 intro v hv;obtain⟨i,hi⟩:=List.getElem?_of_mem hv;have hl:=(gJ hi).1;rw[z104]at hl;have hf:c.fs[i]?=some (c.fs[i]):=gE hl;rw[mkVals_at hf]at hi;cases hi;exact mk_few (h.type (gM hf)) hm
end Go.Proofs.YtcpaleaajdilgaaGreatDoor
end

section
namespace Go.Proofs.YtcpaleaajdilgaaGreatDoor
open Go Go.RowKit Go.Mor Go.Sh
set_option maxRecDepth 100000
set_option maxHeartbeats 2000000
theorem scalls_keep{P:Program}{g:Sh.Glob}{f:Nat}{xs:List TV}{os:List MO}{y:TV}(hb:hasBody P f)
  (h:∀(w:World) (E:Env) (vs:List Value),g.G w→MSim (Sh.start w E os 0) (objB os) (objR os) w E→xs.length=vs.length→(∀(j:Nat) x v,xs[j]?=some x→vs[j]?=some v→RelT w E (objR os) x v)→
   ∃v,(∀w' E r,RelT w' E r y v)∧Calls P f vs.toArray w fun e w'=>e=.returned v∧Below w.heap.size w w'):SCalls P g f xs os y os:=by
 refine⟨hb,fun w E us hG hm hX hl hr=> ?_⟩;obtain⟨v,hy,hc⟩:=h w E us hG hm hl hr;refine hc.mono ?_;rintro e w' ⟨rfl,hb⟩;refine⟨v,E,rfl,?_,hy _ _ _,⟨fun _ _ _=>rfl,fun _ _ _ _=>rfl,fun d e W n hd=>⟨n,hd,Nat.le_refl _,fun _=>rfl⟩⟩⟩;exact MSim.ext (s:=⟨fun _=>none,objB os,objR os,fun _=>none⟩) hm hb E (fun _ _ h=>h) (fun _ _ h=> .inl h) (fun _ _=>⟨rfl,rfl⟩) (fun _ _ _=>rfl) (fun _ _=>⟨rfl,rfl⟩)
theorem below_grow{w:World}{k:Nat}{os:Array Obj}:Below w.heap.size w (Go.Sort.grow (w.drewN k) os):=by
 have h1:∀k,Below w.heap.size w (w.drewN k):=by
  intro k
  induction k with
  |zero=>exact Below.refl _ _
  |succ k ih=>exact ih.trans (by have:=(Below.refl w.heap.size (w.drewN k)).drew;exact this)
 have h:=h1 k;refine⟨h.os,h.tape,h.output,?_,fun j hj=> ?_⟩
 ·show _≤((w.drewN k).heap++os).size;rw[Array.size_append];have:=h.size;omega
 ·show((w.drewN k).heap++os)[j]?=_;rw[Array.getElem?_append_left (by have:=h.size;omega)];exact h.block j hj
theorem itoa_ok(m:Nat)(n:Int)(h0: -9223372036854775808≤n)(h1:n≤9223372036854775807):SCalls Tryz.prog (glT m) 97 [I n] [] (S (str (Lib.itoa n))) []:=
 z59 (vs:=[.int .i64 n]) (z80 (by kernel_rfl)) (fun w E r=> .pv (.v _)) (fun w hG=>(Tryz.strconv_Itoa n h0 h1 w hG.t.tab).mono fun e w' ⟨he,k,os,hw⟩=>⟨he,by rw[hw];exact below_grow⟩)
theorem repl_ok(m:Nat)(s o n:List UInt8)(hs:s.length<4294967281)(ho:1≤o.length)(hl:s.length+Lib.countB (str s) (str o)*n.length≤140737488355328):
  SCalls Tryz.prog (glT m) 98 [S (str s),S (str o),S (str n)] [] (S (str (Lib.replaceAll s o n))) []:=
 z59 (vs:=[.string (str s),.string (str o),.string (str n)]) (z80 (by kernel_rfl)) (fun w E r=> .pv (.v _)) (fun w hG=>by
  obtain⟨k,hk⟩:=hG.t.mx;have:=Tryz.strings_ReplaceAll (str s) (str o) (str n) k w (by rw[str_size];exact hs) hk (by rw[str_size];exact ho) (by rw[str_size,str_size];exact hl);simp only[str_toList]at this;exact this)
def strC(l:List (List UInt8)):List TV:=pvC (l.map fun s=> .v (.string (str s)))
theorem join_ok(m:Nat)(l:List (List UInt8))(sep:List UInt8)(hN:l.length≤140737488355328)(hl:(Lib.join l sep).length≤140737488355328):
  SCalls Tryz.prog (glT m) 99 [.bs 1000 0 l.length l.length,S (str sep)] [.box (strC l)] (S (str (Lib.join l sep))) [.box (strC l)]:=by
 refine scalls_keep (z80 (by kernel_rfl)) fun w E vs hG hm hlen hr=>⟨.string (str (Lib.join l sep)),fun w' E r=> .pv (.v _),?_⟩
 obtain⟨v0,v1,rfl⟩:∃v0 v1,vs=[v0,v1]:=by
  match vs,hlen with
  |[v0,v1],_=>exact⟨v0,v1,rfl⟩
 obtain rfl:=rel_S (hr 1 _ v1 rfl rfl);have r0:=hr 0 _ v0 rfl rfl;cases r0 with
 |bs _ _ _ _ C _ hcC _=>
 obtain⟨hbox,_⟩:=hm.box 1000 (strC l) rfl;have:=Tryz.strings_Join (E.β 1000) 0 C (l.map str) (str sep) w (fun j x hx=>by
  rw[List.getElem?_map]at hx;obtain⟨y,hy,rfl⟩:=gO hx;obtain⟨v,h1,_,h3⟩:=hbox.cell j (S (str y)) (by simp[strC,pvC,hy];rfl);rw[Nat.zero_add,h1,rel_S h3]) hbox.lt (by simpa using hN) (by simpa using hcC) (by simpa [Function.comp_def,str_toList]using hl)
 simp only[List.length_map,List.map_map,Function.comp_def,str_toList,List.map_id']at this;exact this
end Go.Proofs.YtcpaleaajdilgaaGreatDoor
end

section
namespace Go.Proofs.YtcpaleaajdilgaaGreatDoor
open Go Go.RowKit Go.Mor Go.Sh Go.Sh.Cd1
set_option maxRecDepth 100000
set_option maxHeartbeats 4000000
def firstR(l:List UInt8):Int:=if l=[] then 0 else(Lib.decodeGo (str l)).1
theorem decodeRune_ok(a0 a1:Addr)(m:Nat)(b:ByteArray):SCalls Tryz.prog (gl a0 a1 m) 166 [S b] [] (.tuple [.pv (.v (.int .i32 (Lib.decodeGo b).1)),I (Lib.decodeGo b).2]) []:=
 sc_up (prim0_sound m _ _ _ _ _ (by simp[prim0,S,I,Nat.beq]))
theorem first_ok(a0 a1:Addr)(m:Nat)(l:List UInt8):SCalls Tryz.prog (gl a0 a1 m) 101 [S (str l)] [] (.pv (.v (.int .i32 (firstR l)))) []:=by
 refine z8 hmix tf_48 rfl ?_;have HD:=decodeRune_ok a0 a1 m (str l);have e0:(⟨#[]⟩:ByteArray)=str []:=rfl;unfold firstR;cases l with
 |nil=>
  simp only[vcA,seval,I,S,e0]
 |cons b r=>
  have hn:((b::r)==([]:List UInt8))=false:=rfl;simp only[vcA,seval,I,S,e0,hn];(with_reducible apply v_call);simp only[vcA,seval,I,S];rfl;rfl;exact HD;exact km;simp only[vcA,seval,I,S];rfl;simp only[vcA,seval,I,S]
def numGo(neg:Bool)(lo hi:Int):List UInt8→Int→Int→Nat→Nat→Int×Nat
 |[],_,best,size,_=>(best,size)
 |c::r,n,best,size,k=>
  if c.toNat<48∨57<c.toNat then(best,size)
  else if 1000000000000000<10*n+(c.toNat-48:Int)∨(neg=true∧10*n+(c.toNat-48:Int)=0)then(best,size)
  else if lo≤(if neg then -(10*n+(c.toNat-48:Int))else 10*n+(c.toNat-48:Int))∧(if neg then -(10*n+(c.toNat-48:Int))else 10*n+(c.toNat-48:Int))≤hi then
   (if 10*n+(c.toNat-48:Int)=0 then((if neg then -(10*n+(c.toNat-48:Int))else 10*n+(c.toNat-48:Int)),k+1)else numGo neg lo hi r (10*n+(c.toNat-48:Int)) (if neg then -(10*n+(c.toNat-48:Int))else 10*n+(c.toNat-48:Int)) (k+1) (k+1))
  else(if 10*n+(c.toNat-48:Int)=0 then(best,size)else numGo neg lo hi r (10*n+(c.toNat-48:Int)) best size (k+1))
def numV(lo hi:Int)(l:List UInt8):Int×Nat:=if firstR l=45 then numGo true lo hi (l.drop 1) 0 0 0 1 else numGo false lo hi l 0 0 0 0
def numSt(l:List UInt8)(lo hi:Int)(neg:Bool)(q:Int×Int×Nat×Nat):ES:=
 ⟨[(0,S (str l)),(1,I lo),(2,I hi),(8,I q.1),(9,I q.2.1),(10,I (q.2.2.1:Int)),(11,I (q.2.2.2:Int)),(12,I (if neg then 1 else 0))],[],[],[]⟩
theorem numLoop(g:Sh.Glob)(l:List UInt8)(lo hi:Int)(neg:Bool)(hl:l.length<9223372036854775807)(R:Int×Nat)(k0:Nat)(hR:R=numGo neg lo hi (l.drop k0) 0 0 0 k0):
  swp Tryz.prog g (.loop c_52_15) (blockW 0 (thenW (swp Tryz.prog g (.seq c_52_16 .ret) (Post0 [.tmp 6,.tmp 7] (.tuple [I R.1,I (R.2:Int)]))) (Post0 [.tmp 6,.tmp 7] (.tuple [I R.1,I (R.2:Int)])))) (numSt l lo hi neg (0,0,0,k0)):=by
 refine v_loop (σ:={ q:Int×Int×Nat×Nat // 0≤q.1∧q.1≤1000000000000000∧R=numGo neg lo hi (l.drop q.2.2.2) q.1 q.2.1 q.2.2.1 q.2.2.2 })
  (fun q=>numSt l lo hi neg q.1) (fun q=>l.length-q.1.2.2.2) ⟨(0,0,0,k0),Int.le_refl 0,by show(0:Int)≤1000000000000000;decide,hR⟩ (lw_eq rfl) ?_
 rintro⟨⟨n,best,size,k⟩,h0,h1,hd⟩;simp only at h0 h1 hd;unfold numSt;by_cases hk:k<l.length
 ·have d1:(k:Int)<(l.length:Int):=by omega
  obtain⟨c,ec⟩:∃c,l[k]?=some c:=⟨_,gE hk⟩
  have hcons:l.drop k=c::l.drop (k+1):=by
   rw[List.drop_eq_getElem_cons hk];congr 1;rw[gE hk]at ec;exact Option.some.inj ec
  rw[hcons,numGo]at hd;have hc:=c.toNat_lt;by_cases hdig:c.toNat<48∨57<c.toNat
  ·rw[if_pos hdig]at hd;by_cases q1:c.toNat<48
   ·have d2:¬(48:Int)≤(c.toNat:Int):=by omega
    simp only[vcA,seval,I,S,d1,d2,ec];rw[hd]
   ·have d2:(48:Int)≤(c.toNat:Int):=by omega
    have d3:¬(c.toNat:Int)≤57:=by omega
    simp only[vcA,seval,I,S,d1,d2,d3,ec];rw[hd]
  ·rw[if_neg hdig]at hd;have d2:(48:Int)≤(c.toNat:Int):=by omega
   have d3:(c.toNat:Int)≤57:=by omega
   have u1:IntKind.u8.wrap ((c.toNat:Int) - 48)=(c.toNat:Int) - 48:=by rw[IntKind.wrap_u8];omega
   have u2:IntKind.i64.wrap ((c.toNat:Int) - 48)=(c.toNat:Int) - 48:=wrap64 (by omega) (by omega);have u3:IntKind.i64.wrap (10*n)=10*n:=wrap64 (by omega) (by omega);have u4:IntKind.i64.wrap (10*n+((c.toNat:Int) - 48))=10*n+((c.toNat:Int) - 48):=wrap64 (by omega) (by omega);obtain⟨x,hx⟩:∃x,x=10*n+((c.toNat:Int) - 48):=⟨_,rfl⟩
   have hx0:0≤x:=by omega
   have hx1:x≤10000000000000009:=by omega
   rw[←hx]at hd u4;rw[hx]at u4;have w1:IntKind.i64.wrap ((k:Int)+1)=((k+1:Nat):Int):=by rw[wrap64 (by omega) (by omega)];omega
   have w2:IntKind.i64.wrap (0-x)= -x:=by rw[wrap64 (by omega) (by omega)];omega
   rw[hx]at w2;cases neg
   ·simp only[Bool.false_eq_true,if_false,false_and,or_false]at hd;simp only[vcA,seval,I,S,d1,d2,d3,ec,u1,u2,u3,u4,w1];rw[←hx]
    repeat' (first|(apply And.intro)|(intro _))
    all_goals first
     |(rw[hd];(repeat' split)<;>first|rfl|(exfalso;omega))
     |(refine z11 ⟨(x,x,k+1,k+1),hx0,?_,?_⟩ ?_ ?_;(· show x≤1000000000000000;omega);(· rw[hd];(repeat' split)<;>first|rfl|(exfalso;omega));(· show l.length-(k+1)<l.length-k;omega);(· apply lw_of<;>simp[leL,lk,sv,Nat.beq,I,S,ES.kill,has,drp,nilT]))
     |(refine z11 ⟨(x,best,size,k+1),hx0,?_,?_⟩ ?_ ?_;(· show x≤1000000000000000;omega);(· rw[hd];(repeat' split)<;>first|rfl|(exfalso;omega));(· show l.length-(k+1)<l.length-k;omega);(· apply lw_of<;>simp[leL,lk,sv,Nat.beq,I,S,ES.kill,has,drp,nilT]))
   ·simp only[if_true,true_and]at hd;simp only[vcA,seval,I,S,d1,d2,d3,ec,u1,u2,u3,u4,w1,w2];rw[←hx]
    repeat' (first|(apply And.intro)|(intro _))
    all_goals first
     |(rw[hd];(repeat' split)<;>first|rfl|(exfalso;omega))
     |(refine z11 ⟨(x, -x,k+1,k+1),hx0,?_,?_⟩ ?_ ?_;(· show x≤1000000000000000;omega);(· rw[hd];(repeat' split)<;>first|rfl|(exfalso;omega));(· show l.length-(k+1)<l.length-k;omega);(· apply lw_of<;>simp[leL,lk,sv,Nat.beq,I,S,ES.kill,has,drp,nilT]))
     |(refine z11 ⟨(x,best,size,k+1),hx0,?_,?_⟩ ?_ ?_;(· show x≤1000000000000000;omega);(· rw[hd];(repeat' split)<;>first|rfl|(exfalso;omega));(· show l.length-(k+1)<l.length-k;omega);(· apply lw_of<;>simp[leL,lk,sv,Nat.beq,I,S,ES.kill,has,drp,nilT]))
 ·have d1:¬(k:Int)<(l.length:Int):=by omega
  rw[List.drop_eq_nil_of_le (by omega),numGo]at hd;simp only[vcA,seval,I,S,d1];rw[hd]
theorem vnumber_ok(a0 a1:Addr)(m:Nat)(l:List UInt8)(lo hi:Int)(hl:l.length<9223372036854775807):SCalls Tryz.prog (gl a0 a1 m) 104 [S (str l),I lo,I hi] [] (.tuple [I (numV lo hi l).1,I ((numV lo hi l).2:Int)]) []:=by
 refine z8 hmix tf_52 rfl ?_;have HF:=first_ok a0 a1 m l;unfold numV;by_cases h:firstR l=45
 ·have HL:=numLoop (gl a0 a1 m) l lo hi true hl _ 1 rfl;unfold numSt at HL;rw[if_pos h];simp only[vcA,seval,I,S];(with_reducible apply v_call);simp only[vcA,seval,I,S];rfl;rfl;exact HF;exact km;simp only[vcA,seval,I,S];rfl;simp only[vcA,seval,I,S,h];exact HL
 ·have HL:=numLoop (gl a0 a1 m) l lo hi false hl _ 0 rfl;unfold numSt at HL;rw[if_neg h];simp only[vcA,seval,I,S];(with_reducible apply v_call);simp only[vcA,seval,I,S];rfl;rfl;exact HF;exact km;simp only[vcA,seval,I,S];rfl;simp only[vcA,seval,I,S,h];exact HL
end Go.Proofs.YtcpaleaajdilgaaGreatDoor
end

section
namespace Go.Proofs.YtcpaleaajdilgaaGreatDoor
open Go Go.RowKit Go.Mor Go.Sh Go.Sh.Cd1
set_option maxRecDepth 100000
set_option maxHeartbeats 2000000
theorem nanI_ok(g:Sh.Glob)(a:Int):SCalls Tryz.prog g 168 [I a] [] (.pv (.v (.bool false))) []:=by
 refine z8 hmix tf_21 rfl ?_;simp only[vcA,seval,vV]
theorem nanS_ok(g:Sh.Glob)(a:ByteArray):SCalls Tryz.prog g 169 [S a] [] (.pv (.v (.bool false))) []:=by
 refine z8 hmix tf_22 rfl ?_;simp only[vcA,seval,vV]
theorem cmpI_ok(g:Sh.Glob)(a b:Int):SCalls Tryz.prog g 106 [I a,I b] [] (I (ordI a b)) []:=by
 refine z8 hmix tf_19 rfl ?_;simp only[vcA,seval,vV];(with_reducible apply v_call);exact kv;rfl;exact nanI_ok g _;exact km;exact kv;simp only[vcA,seval,vV];(with_reducible apply v_call);exact kv;rfl;exact nanI_ok g _;exact km;exact kv;simp only[vcA,seval,vV];unfold ordI;refine⟨fun h=>by rw[if_pos h],fun h=>⟨fun h'=>by rw[if_neg h,if_pos h'],fun h'=>by rw[if_neg h,if_neg h']⟩⟩
theorem cmpS_ok(g:Sh.Glob)(a b:List UInt8):SCalls Tryz.prog g 107 [S (str a),S (str b)] [] (I (ordS a b)) []:=by
 refine z8 hmix tf_20 rfl ?_;simp only[vcA,seval,vV];(with_reducible apply v_call);exact kv;rfl;exact nanS_ok g _;exact km;exact kv;simp only[vcA,seval,vV];(with_reducible apply v_call);exact kv;rfl;exact nanS_ok g _;exact km;exact kv;simp only[vcA,seval,vV];unfold ordS;cases hb:Op.bytesLess a b
 ·by_cases he:a=b
  ·subst he;simp[boolW]
  ·simp[boolW,he]
 ·simp[boolW]
theorem byItems_ok(g:Sh.Glob)(l l':List V)(hl:l.length≤maxLen)(H:∀(i:Nat) x y,l[i]?=some x→l'[i]?=some y→SCalls Tryz.prog g 55 [tv x,tv y] [] (I (cmpV x y)) []):
  SCalls Tryz.prog g 108 [.pv (.sl 4 (V.rows l)),.pv (.sl 4 (V.rows l')),.pv (.v (.func (.func 55) #[] #[]))] [] (I (cmpL l l')) []:=by
 refine z8 hmix tf_47 rfl ?_;simp only[vcA,seval,vV];refine v_loop (σ:={ i:Nat // i≤min l.length l'.length∧cmpL l l'=cmpL (l.drop i) (l'.drop i) }) (fun i=>⟨[(0,.pv (.sl 4 (V.rows l))),(1,.pv (.sl 4 (V.rows l'))),(2,.pv (.v (.func (.func 55) #[] #[]))),(13,I (min (l.length:Int) (l'.length:Int))),(14,I (i.1:Int))],[],[],[]⟩) (fun i=>min l.length l'.length-i.1) ⟨0,Nat.zero_le _,rfl⟩ (lw_eq rfl) ?_;rintro⟨i,hi,hc⟩;simp only[vcA,seval,vV];have hm:maxLen=9223372036854775807:=rfl;refine⟨fun hlt=> ?_,fun hge=> ?_⟩
 ·refine⟨by omega,fun x hx=>⟨by omega,fun y hy=> ?_⟩⟩;(with_reducible apply z41);exact kv;exact H i x y hx hy;rfl;exact kv;have hd:=cmpL_drop hx hy;rw[←hc]at hd;unfold thenI at hd;simp only[vcA,seval,vV];refine⟨fun h0=> ?_,fun h0=> ?_⟩
  ·rw[if_pos h0]at hd;have w1:IntKind.i64.wrap ((i:Int)+1)=(i:Int)+1:=wrap64 (by omega) (by omega);refine z11 ⟨i+1,by omega,hd⟩ (by show _-(i+1)<_-i;omega) ?_;apply lw_of<;>simp[leL,lk,sv,Nat.beq,I,S,ES.kill,has,drp,nilT,w1]
  ·rw[if_neg h0]at hd;rw[hd]
 ·(with_reducible apply v_call);exact kv;rfl;exact cmpI_ok g _ _;exact km;exact kv;simp only[vcA,seval,vV];rw[hc,cmpL_end (by omega)]
theorem compare_n(g:Sh.Glob):∀(n:Nat) (x y:V),SizeOf.sizeOf x≤n→VSmall x→SCalls Tryz.prog g 55 [tv x,tv y] [] (I (cmpV x y)) []
 |0,x,y,h,_=>by cases x;simp at h
 |n+1,x,y,h,hx=>by
  have HB:=byItems_ok g x.l y.l hx.len (fun i a b ha hb=>compare_n g n a b (by
   have hm:=gM ha;have:=List.sizeOf_lt_of_mem hm;cases x;simp[V.l]at h this ⊢;omega) (hx.sub (gM ha)))
  refine z8 hmix tf_35 rfl ?_;rw[cmpV_eq];simp only[vcA,seval,vV];(with_reducible apply v_call);exact kv;rfl;exact cmpI_ok g _ _;exact km;exact kv;simp only[vcA,seval,vV];refine⟨fun h1=> ?_,fun h1=>by rw[thenI,if_neg h1]⟩;rw[thenI,if_pos h1];(with_reducible apply v_call);exact kv;rfl;exact cmpI_ok g _ _;exact km;exact kv;simp only[vcA,seval,vV];refine⟨fun h2=> ?_,fun h2=>by rw[thenI,if_neg h2]⟩;rw[thenI,if_pos h2];(with_reducible apply v_call);exact kv;rfl;exact cmpS_ok g _ _;exact km;exact kv;simp only[vcA,seval,vV];refine⟨fun h3=> ?_,fun h3=>by rw[thenI,if_neg h3]⟩;rw[thenI,if_pos h3];(with_reducible apply v_call);exact kv;rfl;exact HB;exact km;exact kv;simp only[vcA,seval,vV]
theorem compare_ok(g:Sh.Glob)(x y:V)(hx:VSmall x):SCalls Tryz.prog g 55 [tv x,tv y] [] (I (cmpV x y)) []:=compare_n g _ x y (Nat.le_refl _) hx
theorem same_ok(g:Sh.Glob)(x y:V)(hx:VSmall x):SCalls Tryz.prog g 18 [tv x,tv y] [] (.pv (.v (.bool (decide (cmpV x y=0))))) []:=by
 refine z8 hmix tf_43 rfl ?_;simp only[vcA,seval,vV];(with_reducible apply v_call);exact kv;rfl;exact compare_ok g x y hx;exact km;exact kv;simp only[vcA,seval,vV]
end Go.Proofs.YtcpaleaajdilgaaGreatDoor
end

section
namespace Go.Proofs.YtcpaleaajdilgaaGreatDoor
open Go Go.RowKit Go.Mor Go.Sh
theorem rowsApp(l:List V)(y:V):V.rows (l++[y])=V.rows l++[V.row y]:=by simp[rows_eq]
theorem rowNil{y:V}(h:y.l=[]):V.row y=[.v (.int .i64 y.k),.v (.int .i64 y.n),.v (.string (str y.s)),.sl 4 []]:=by rw[row4,h,V.rows_nil]
end Go.Proofs.YtcpaleaajdilgaaGreatDoor
end

section
namespace Go.Proofs.YtcpaleaajdilgaaGreatDoor
open Go Go.RowKit Go.Mor Go.Sh Go.Sh.Cd1
theorem rightV_ok(a0 a1:Addr)(n:Nat)(x:V)(hx:VOk x):SCalls Tryz.prog (gl a0 a1 n) 48 [tv x] [] (.pv (.v (.bool (rightV x)))) []:=sc_up (z121 n x hx)
theorem rightText_ok(a0 a1:Addr)(m:Nat)(t:List UInt8)(ht:t.length≤9223372036854775807):SCalls Tryz.prog (gl a0 a1 m) 89 [S (str t)] [] (.pv (.v (.bool (z15 t)))) []:=sc_up (rightText_ok0 m t ht)
end Go.Proofs.YtcpaleaajdilgaaGreatDoor
end
