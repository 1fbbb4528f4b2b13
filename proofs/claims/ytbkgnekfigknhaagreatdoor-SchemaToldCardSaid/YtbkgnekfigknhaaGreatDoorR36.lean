/- Merged texts: WrapB Open0 OpenN Px6 Ze29 Ze30 Ze31 OpenR Pk4 RawHD OpenH Pk5 Ln1 Ln2. No statement of the program is proved here. -/
import Derived.Test.YtbkgnekfigknhaaGreatDoorR32
import Derived.Test.YtbkgnekfigknhaaGreatDoorR35
import Derived.Test.YtbkgnekfigknhaaGreatDoorCards
import Derived.Test.YtbkgnekfigknhaaGreatDoorTie
import Derived.Lib.LaidIn
import Derived.Lib.LaidU8T
import Derived.Deep.DeepHandedRow
import Derived.Deep.DeepWitnessRowRef
import Derived.ProofKit
import Derived.SizedLaws
import Derived.OpenShut
import Derived.Stop.LaidTwo
import Derived.Deep.Slices
import Derived.Deep.Fields
import Derived.ChangeSame
import Derived.SevenTiedAt
import Derived.PinnedBridge
import Derived.Shelf.Vars
set_option linter.unusedSimpArgs false
set_option linter.unusedVariables false
set_option maxRecDepth 100000
set_option maxHeartbeats 8000000
section
namespace Go.Proofs.YtbkgnekfigknhaaGreatDoor
open Go.ChangeShapes Go.WideShapes Go.ChangeAt Go.RowKit Go.Lib Go.Mor Go.Deep
open Go.ChangeMaps (open_string shut_string)
theorem own:ownKnob Tryz.prog.godebug=none:=by kernel_rfl
theorem zqM:Rows.laid_unicode_utf8_acceptRanges=Lib.acceptData:=by kernel_rfl
theorem zsC{W:World}(h:W.ShapedOpen Tryz.prog):8≤W.heap.size:=by
 obtain⟨o,o0,h1,_⟩:=h.2 8 (of_decide_eq_true (by kernel_rfl)) (of_decide_eq_true (by kernel_rfl));exact Nat.le_of_lt (gA h1).1
theorem znb{W:World}{L:List (String×DataW Unit)}(hL:laidMet Tryz.prog L W)(h1:("unicode/utf8.first",Rows.laid_unicode_utf8_first)∈L)(h2:("unicode/utf8.acceptRanges",Rows.laid_unicode_utf8_acceptRanges)∈L):GlobU W:=
 ⟨utf8Tabs_of_readsT (U8Types.of196 Tryz.laysValid) ⟨by kernel_rfl,by kernel_rfl,by kernel_rfl,by kernel_rfl,by kernel_rfl,by kernel_rfl,by kernel_rfl⟩ (by rw[←Pinned.utf8First_eq];exact Lib.laidMet.reads hL h1) (by rw[←zqM];exact Lib.laidMet.reads hL h2)⟩
def zfq:DataW Unit→List Value
 | .agg l=>l.map fun x=>match x with| .lit y=>y.value|_=>undef
 |_=>[]
def zlS:DataW Unit→zB
 | .iface _ (.ptr (.agg [.lit (.string l)]))=>l
 |_=>[]
noncomputable def z6y(os:Os):World:=
 let N:=(World.settled Tryz.prog os).heap.size
 let w0:=World.holding Tryz.prog os ⟨#[.cells #[.string ⟨(zlS Rows.laid_strconv_ErrRange).toArray⟩] 313,.cells #[.string ⟨(zlS Rows.laid_strconv_ErrSyntax).toArray⟩] 313],#[],[]⟩
 let put (h:Array Obj) (g:Nat) (cs:Array Value):Array Obj:=h.modify g fun
  | .cells _ t frozen=> .cells cs t frozen
  |o=>o
 let h:=w0.heap
 let h:=put h 6 (zfq Rows.laid_math_bits_deBruijn32tab).toArray
 let h:=put h 7 (zfq Rows.laid_math_bits_deBruijn64tab).toArray
 let h:=put h 3 (zfq Rows.laid_internal_strconv_uint64pow10).toArray
 let h:=put h 1 ((List.range 16).flatMap fun i=>[Value.int .u8 (Lib.accLo i),Value.int .u8 (Lib.accHi i)]).toArray
 let h:=put h 5 #[.iface 311 (.pointer (some ⟨N,0,none⟩))]
 let h:=put h 4 #[.iface 311 (.pointer (some ⟨N+1,0,none⟩))]
 let h:=put h 0 (Lib.firstTab.map fun z=>Value.int .u8 z).toArray
 { w0 with heap:=h }
noncomputable abbrev N0:Nat:=(World.settled Tryz.prog default).heap.size
theorem zpS:laidOutB Tryz.prog=true:=by kernel_rfl
section
variable{H:Type}{enc:TypeId×Value→H}
theorem zef{W W':World}(hb:Below W.heap.size W W'){sp:Nat→Bool}:∀{ts:List TypeId} {vs:List Value} {ds:List (DataW H)} {ps:List MemPlace},
  (ts.all fun t=>Tryz.prog.readableRec t&&decide (t<Tryz.prog.types.size))=true→DataW.TrodAll enc Tryz.prog W 0 (fun _=>true) true ts vs ds ps→(∀x∈ps,x.block<W.heap.size)→(∀x∈ps,sp x.block=true)→
  DataW.TrodAll enc Tryz.prog W' 0 sp true ts vs ds ps:=by
 intro ts
 induction ts with
 |nil=>
  intro vs ds ps _ h _ _;obtain⟨rfl,rfl,rfl⟩:=trodAll_nil h;exact trodAll_mk0
 |cons t ts ih=>
  intro vs ds ps hr h hlt hsp;obtain⟨v,vs',d,ds',p,q,rfl,rfl,rfl,h1,h2⟩:=trodAll_cons h;simp only[List.all_cons,Bool.and_eq_true,decide_eq_true_iff]at hr;refine trodAll_cons_mk (WideElems.Trod_stays zpS hr.1.1 hr.1.2 h1 (fun x hx=>hb.same (hlt x (by simp[hx]))) (fun x hx=>hsp x (by simp[hx]))) (ih hr.2 h2 (fun x hx=>hlt x (by simp[hx])) (fun x hx=>hsp x (by simp[hx])))
theorem ze5{P:Program}{f:Func}{s:ChangeSpec}{z2u fresh handsOn again:Bool}{W W':World}{args:Array Value}{v:Value}{ds gs:List (DataW H)}{before pa pv:List MemPlace}
  (hW:DataW.Whole enc P f.params.toList s.vars z2u W args.toList ds gs before)
  (hres:∀(b:Nat) (sp:Nat→Bool) (hd:Bool),DataW.TrodAll enc P W' b sp hd f.resultTypes.toList (v.resultList f.resultTypes.size) (s.fn H (ds++gs)).results [])
  (hargs:∀sp:Nat→Bool,(∀p∈before,sp p.block=true)→DataW.TrodAll enc P W' 0 sp true f.params.toList args.toList (s.fn H (ds++gs)).args pa)
  (hvars:∀sp:Nat→Bool,(∀p∈before,sp p.block=true)→DataW.TrodVars enc P W' sp s.vars (s.fn H (ds++gs)).vars pv)
  (hps:before=pa++pv) (hb:Below W.heap.size W W')
  (hok:∀(j:Nat) (t:TypeId) (r:Value),f.resultTypes[j]?=some t→(v.resultList f.resultTypes.size)[j]?=some r→Value.okWide P W' .any 0 t r):
  s.post enc P f z2u fresh handsOn again W args v W':=by
 have hlt:∀p∈before,p.block<W.heap.size:=fun p hp=>hW.lt p hp;have hold:∀p∈before,(fun b=>decide (b<W.heap.size)) p.block=true:=fun p hp=>by simpa using hlt p hp
 refine⟨ds,gs,before,[],pa,pv,hW,hres _ _ _,hargs _ hold,hvars _ hold,World.keptBut_mono (fun p hp=>⟨hp,?_⟩) (hb.frame (·∈before)),fun _=> ?_⟩
 ·rw[hps,List.mem_append]at hp;exact Or.inr hp
 ·obtain⟨_,_,_,_,_,hz,hn⟩:=hW;refine⟨hok,_,_,([]++pa)++pv,⟨[]++pa,pv,trodAll_append (hargs _ (fun _ _=>rfl)) (hres _ _ _),hvars _ (fun _ _=>rfl),rfl,?_,?_⟩,?_⟩
  ·intro b off hp;have hin:MemPlace.cell b off∈before:=by rw[hps];simpa using hp
   rw[hb.frozen (hlt _ hin)];exact hz b off hin
  ·intro ha;have:=hn ha;rw[hps]at this;simpa using this
  ·intro p hp _;rw[hps];simpa using hp
theorem zsI(f:FuncId)(fn:Func)(sp:ChangeSpec){W W':World}{args:Array Value}{ds gs:List (DataW H)}{before:List MemPlace}{fresh handsOn again:Bool}
  (hv:sp.vars=[]) (hr:(fn.params.toList.all fun t=>Tryz.prog.readableRec t&&decide (t<Tryz.prog.types.size))=true) (hres:fn.resultTypes= #[4])
  (hfn:sp.fn H (ds++[])={ results:=[.lit (.bool true)],args:=ds })
  (hW:DataW.Whole enc Tryz.prog fn.params.toList sp.vars false W args.toList ds gs before) (hb:Below W.heap.size W W'):
  sp.post enc Tryz.prog fn false fresh handsOn again W args (.bool true) W':=by
 have hW':=hW;obtain⟨p,q,hA,hV,rfl,_,_⟩:=hW;rw[hv]at hV;obtain⟨rfl,rfl⟩:=trodVars_none hV;have hlt:∀x∈p,x.block<W.heap.size:=fun x hx=>hW'.lt x (by simp[hx]);refine ze5 (pa:=p) (pv:=[]) hW' (fun b sp' hd=> ?_) (fun sp' hsp=> ?_) (fun sp' hsp=> ?_) rfl hb ?_
 ·rw[hfn,hres];exact trodAll_mk1 (shut_bool Tryz.underlying4 _)
 ·rw[hfn];exact zef hb hr hA hlt (fun x hx=>hsp x (by simp[hx]))
 ·rw[hfn,hv];rfl
 ·exact ok_one hres rfl (okWide_bool_mk Tryz.underlying4 _)
end
end Go.Proofs.YtbkgnekfigknhaaGreatDoor
end

section
namespace Go.Proofs.YtbkgnekfigknhaaGreatDoor
open Go.ChangeShapes Go.WideShapes Go.ChangeAt Go.RowKit Go.Lib Go.Mor Go.Deep Go.Joins
open Go.Sh (RelT RelV TV PV SCalls Env MSim z0k zx z1W Low)
open Go.ChangeMaps (open_string shut_string)
def z1e(w:World):Env:=⟨fun k _=>k<w.heap.size,fun _=>0,fun _=>none,fun _=>0⟩
theorem z3q(d:Nat):z0k [] d=none:=by simp[z0k]
theorem z50(d:Nat):zx [] d=none:=by simp[zx]
theorem zgD{P:Program}{f:Nat}{xs:List TV}{vs:List Value}{w:World}{g:Go.Sh.Glob}{b:Value}(h:SCalls P g f xs [] (.pv (.v b)) [])(hG:g.G w)(hl:xs.length=vs.length)
  (hr:∀(j:Nat) x v,xs[j]?=some x→vs[j]?=some v→RelT w (z1e w) (zx []) x v):Calls P f vs.toArray w fun e w'=>e=.returned b∧Below w.heap.size w w':=by
 have hX:∀d k,¬z1W (z1e w) [] d k:=by
  rintro d k (⟨cs,h1,_⟩|⟨q,cap,h1,_⟩)
  ·rw[z3q]at h1;cases h1
  ·rw[z50]at h1;cases h1
 refine(h.2 w (z1e w) vs hG ?_ (fun d k hd=>absurd hd (hX d k)) hl hr).mono ?_
 ·refine⟨fun d cs hd=> ?_,fun d e W n hd=> ?_,fun d d' cs cs' hd=> ?_,fun d d' cs q k cap hd=> ?_,fun d d' q q' k cap cap' hd=> ?_,fun k o hk=>hk,⟨rfl,rfl,rfl,Nat.le_refl _,fun _ _ _=>rfl⟩,fun k o u hk hu=>⟨hk,hu⟩,fun k o hk=> .inl hk,?_⟩
  ·rw[z3q]at hd;cases hd
  ·rw[z50]at hd;cases hd
  ·rw[z3q]at hd;cases hd
  ·rw[z3q]at hd;cases hd
  ·rw[z50]at hd;cases hd
  ·have hold:∀d,¬(Go.Sh.start w (z1e w) [] 0).old d:=fun d h=>by have h1:1000≤d∧d<1000+0:=h;omega
   constructor<;>(intros;first|(exfalso;apply hold;assumption)|rfl)
 ·rintro e w' ⟨v,E',rfl,hm,hv,_⟩;obtain rfl:=Go.Sh.val_rel (y:=b) hv rfl;exact⟨rfl,hm.low.os,hm.low.tape,hm.low.output,hm.low.size,fun k hk=>hm.low.block k hk (fun d=>hX d k)⟩
end Go.Proofs.YtbkgnekfigknhaaGreatDoor
end

section
namespace Go.Proofs.YtbkgnekfigknhaaGreatDoor
open Go.ChangeShapes Go.WideShapes Go.ChangeAt Go.RowKit Go.Lib Go.Mor Go.Deep Go.Joins
open Go.Sh (RelT RelV TV PV SCalls Env MSim z0k zx z1W Low)
open Go.ChangeMaps (open_string shut_string)
section
variable{H:Type}{enc:TypeId×Value→H}
theorem zdx{t e:TypeId}{k:IntKind}(ht:Tryz.prog.underlying t=some (.slice e))(he:Tryz.prog.underlying e=some (.int k))(hc:Tryz.prog.cellsOf e=1)
  {W:World} {b0 base:Nat} {spare:Nat→Bool} {held:Bool} {v:Value} {d:DataW H} {p:List MemPlace} (hok:Value.okWide Tryz.prog W .any b0 t v) (h:DataW.Trod enc Tryz.prog W base spare held t v d p):
  ∃l:List Int,(∀x∈l,(Lit.int k x).wf=true)∧l.length≤9223372036854775807∧∀r,RelT W (z1e W) r (.pv (.sl 1 (l.map fun z=>[PV.v (.int k z)]))) v:=by
 obtain⟨a0,len,cap,rfl⟩:=okWide_slice ht hok;obtain⟨fuel,hf⟩:=h;rcases open_ints ht he hc hf with⟨hcs,hx⟩|⟨a,len',cap',zs,hcs,_,hl,hm,hz,hx,hcell,hwz⟩
 ·obtain⟨rfl,rfl,rfl⟩:a0=none∧len=0∧cap=0:=by simpa [Value.cells]using hcs
  exact⟨[],by simp,by simp,fun r=> .pv (.sl 1 [] 0 0 0 none (fun _ _=>undef) (by simp) (by simp) (by simp) (by simp) (by simp) (by simp))⟩
 ·obtain⟨rfl,rfl,rfl⟩:a0=some a∧len=len'∧cap=cap':=by simpa [Value.cells]using hcs
  have hlz:len≤zs.length:=by rw[hz];split<;>omega
  have hlen:(zs.take len).length=len:=by rw[List.length_take];omega
  refine⟨zs.take len,fun x hx=>hwz x (List.mem_of_mem_take hx),by unfold maxLen at hm;omega,fun r=> ?_⟩;have hL:((zs.take len).map fun z=>[PV.v (.int k z)]).length=len:=by rw[List.length_map,hlen]
  rcases Nat.eq_zero_or_pos zs.length with h0|h0
  ·obtain rfl:len=0:=by omega
   have e0:(zs.take 0).map (fun z=>[PV.v (.int k z)])=[]:=by simp
   rw[e0];exact .pv (.sl 1 [] 0 0 cap (some a) (fun _ _=>undef) (by simp) (by simp) hm (by simp) (by simp) (by simp))
  ·obtain⟨b,off,rfl,hcl⟩:=ints_at hcell h0;have cell:∀(i j:Nat) cs q,((zs.take len).map fun z=>[PV.v (.int k z)])[i]?=some cs→cs[j]?=some q→∃u,q=.v u∧W.cell? ⟨b,off+i*1+j,none⟩=some u∧Go.Sh.one u:=by
    intro i j cs q h1 h2;rw[List.getElem?_map,Option.map_eq_some_iff]at h1;obtain⟨z,hz1,rfl⟩:=h1;obtain⟨hi,he⟩:=gJ hz1;have hi':i<zs.length:=by rw[hlen]at hi;omega
    match j with
    |0=>
     simp at h2;subst h2;refine⟨_,rfl,?_,rfl⟩;have:=hcl i hi';rw[List.getElem_take]at he;rw[List.getD_eq_getElem?_getD,gE hi',Option.getD_some,he]at this;simpa using this
    |j+1=>simp at h2
   have key:RelV W (z1e W).K (.sl 1 ((zs.take len).map fun z=>[PV.v (.int k z)])) (.slice (some ⟨b,off,none⟩) ((zs.take len).map fun z=>[PV.v (.int k z)]).length cap):=by
    refine .sl 1 _ b off cap (some ⟨b,off,none⟩) (fun i j=>(W.cell? ⟨b,off+i*1+j,none⟩).getD undef) (fun _=>rfl) (by omega) hm (fun cs hcs=> ?_) (fun i j cs q h1 h2=> ?_) (fun i j cs q h1 h2=> ?_)
    ·obtain⟨r,_,rfl⟩:=List.mem_map.1 hcs;rfl
    ·obtain⟨u,_,hu,ho⟩:=cell i j cs q h1 h2;rw[hu];exact⟨z1d (a:=⟨b,off+i*1+j,none⟩) hu,rfl,ho⟩
    ·obtain⟨u,rfl,hu,ho⟩:=cell i j cs q h1 h2;rw[hu];exact .v u
   rw[hL]at key;exact .pv key
theorem zj6{W:World}{b0 base:Nat}{spare:Nat→Bool}{held:Bool}{v:Value}{d:DataW H}{p:List MemPlace}(hok:Value.okWide Tryz.prog W .any b0 66 v)(h:DataW.Trod enc Tryz.prog W base spare held 66 v d p):
  ∃l:zB,l.length≤9223372036854775807∧∀r,RelT W (z1e W) r (.pv (.sl 1 (byR l))) v:=by
 obtain⟨l,h1,h2,h3⟩:=zdx Tryz.underlying66 Tryz.underlying5 (by kernel_rfl) hok h;refine⟨l.map fun z=>UInt8.ofNat z.toNat,by simpa using h2,?_⟩;have:byR (l.map fun z=>UInt8.ofNat z.toNat)=l.map fun z=>[PV.v (.int .u8 z)]:=by
  unfold byR;rw[List.map_map];refine List.map_congr_left fun z hz=> ?_;have hb:=bounds_u8 (h1 z hz);have:((UInt8.ofNat z.toNat).toNat:Int)=z:=by rw[UInt8.toNat_ofNat'];omega
  simp only[Function.comp_def,this]
 rw[this];exact h3
end
end Go.Proofs.YtbkgnekfigknhaaGreatDoor
end

section
namespace Go.Mor
open Go
def nxB(l:zB)(a:Nat):Nat×Nat:=match l[a]? with
 |some b=>(b.toNat,a+1)
 |none=>(0,a)
def muM:List Int:=[1,1,1000,1000000000000]
end Go.Mor
end

section
namespace Go.Proofs.YtbkgnekfigknhaaGreatDoor
open Go Go.RowKit Go.Mor Go.Sh Go.Sh.Cd1 Go.Sh.Cd5
theorem zsx(l:zB)(k:Nat):(byR l)[k]?=(l[k]?).map fun u=>[PV.v (.int .u8 (u.toNat:Int))]:=by unfold byR;rw[List.getElem?_map]
theorem z3N{l:zB}{a:Nat}(h:a≤l.length):(nxB l a).2≤l.length:=by
 unfold nxB;split
 ·rename_i b hb;exact(gJ hb).1
 ·exact h
theorem z8N(l:zB)(a:Nat):(nxB l a).1<256:=by
 unfold nxB;split
 ·exact UInt8.toNat_lt _
 ·omega
theorem z2k(x:Nat){k:Nat}{c:Int}(hc:c=(k:Int)):Int.tmod (x:Int) c=((x%k:Nat):Int):=by rw[hc,Int.ofNat_tmod]
section
theorem zl3{i:Nat}(h:i<4):0≤muM.getD i 0∧muM.getD i 0≤1000000000000:=by
 have:i=0∨i=1∨i=2∨i=3:=by omega
 rcases this with rfl|rfl|rfl|rfl<;>decide
theorem zl2{x:Nat}{u:Int}(hx:x<256)(h0:0≤u)(h1:u≤1000000000000):IntKind.i64.wrap ((x:Int)*u)=(x:Int)*u:=by
 have a0:0≤(x:Int)*u:=Int.mul_nonneg (by omega) h0;have a1:(x:Int)*u≤255*1000000000000:=Int.mul_le_mul (by omega) h1 h0 (by omega);exact wrap64 (by omega) (by omega)
theorem zpm(v:V):V.rows [v]=[[PV.v (.int .i64 v.k),.v (.int .i64 v.n),.v (.string (str v.s)),.sl 4 (V.rows v.l)]]:=by rw[show V.rows [v]=[V.row v] from rfl,z1b]
theorem zpn(v w:V):V.rows [v,w]=[[PV.v (.int .i64 v.k),.v (.int .i64 v.n),.v (.string (str v.s)),.sl 4 (V.rows v.l)],[PV.v (.int .i64 w.k),.v (.int .i64 w.n),.v (.string (str w.s)),.sl 4 (V.rows w.l)]]:=by rw[show V.rows [v,w]=[V.row v,V.row w] from rfl,z1b,z1b]
section
variable{g:Sh.Glob}{l:zB}
theorem zp0{i:Nat}(h:i<4):([[PV.v (.int .i64 1)],[.v (.int .i64 1)],[.v (.int .i64 1000)],[.v (.int .i64 1000000000000)]]:List (List PV))[i]?=some [.v (.int .i64 (muM.getD i 0))]:=by
 have:i=0∨i=1∨i=2∨i=3:=by omega
 rcases this with rfl|rfl|rfl|rfl<;>rfl
end
end
def zt5(l:zB):TV:=.pv (.sl 1 (byR l))
end Go.Proofs.YtbkgnekfigknhaaGreatDoor
end

section
namespace Go.Proofs.YtbkgnekfigknhaaGreatDoor.OpR
open Go.ChangeShapes Go.WideShapes Go.ChangeAt Go.RowKit Go.Lib Go.Mor Go.Deep Go.Joins
open Go.ChangeMaps (open_string shut_string)
theorem zhy{α:Type}{n:Nat}{Q:Nat→α→Prop}(h:∀i,i<n→∃r,Q i r):∃l:List α,l.length=n∧∀(i:Nat) r,l[i]?=some r→Q i r:=by
 induction n with
 |zero=>exact⟨[],rfl,by simp⟩
 |succ n ih=>
  obtain⟨l,hl,hq⟩:=ih fun i hi=>h i (by omega);obtain⟨r,hr⟩:=h n (by omega);refine⟨l++[r],by simp[hl],fun i x hx=> ?_⟩;rw[List.getElem?_append]at hx;split at hx
  ·exact hq i x hx
  ·rw[List.getElem?_singleton]at hx;split at hx
   ·injection hx with hx;subst hx
    obtain rfl:i=n:=by omega
    exact hr
   ·cases hx
section
variable{H:Type}{enc:TypeId×Value→H}{P:Program}{w:World}{base:Nat}{spare:Nat→Bool}{held:Bool}
theorem zgP{t e:TypeId}{fs:Array Field}{fuel:Nat}{cs:List Value}{x:DataW H×List MemPlace}(ht:P.underlying t=some (.slice e))(he:P.underlying e=some (.struct fs))
  (hone:oneCellFields P fs=true) (hC:P.cellsOf e=fs.size) (h:DataW.trod enc P w base spare held fuel t cs=some x):
  (cs=[.slice none 0 0])∨
  ∃(a:Addr) (len cap:Nat),cs=[.slice (some a) len cap]∧len≤cap∧cap≤maxLen∧
   ∀i,i<len→∃n,∀(j:Nat) (f:Field),fs[j]?=some f→∃(v:Value) (y:DataW H×List MemPlace),w.cell? (a.add (i*fs.size+j))=some v∧DataW.trod enc P w base spare held n f.type [v]=some y:=by
 rcases open_slice ht h with h0|⟨a,len,cap,m,n,D,Pl,hcs,hb,hl,hm,hmm,hx,hi⟩
 ·exact .inl h0.1
 ·refine .inr ⟨a,len,cap,hcs,hl,hm,fun i him=> ?_⟩;obtain⟨cs',hc,ht'⟩:=hi i (by rw[hmm];split<;>omega);rw[hC]at hc;obtain⟨ys,n',hn',hy,hlen,hyl,hf⟩:=DataW.trod_struct he ht';obtain⟨_,hcl,hat⟩:=World.cells?_some hc;refine⟨n',fun j f hj=> ?_⟩;obtain⟨ho,hk⟩:=hone_of hone j f hj;have hjl:j<fs.size:=(gA hj).1;have hcell:=hat j hjl;have hv:cs'[j]?=some (cs'[j]'(by omega)):=gE (by omega);have h1:=hf j f hj;rw[ho,hk]at h1;have hone':(cs'.drop j).take 1=[cs'[j]'(by omega)]:=by
   rw[List.drop_eq_getElem_cons (by omega)];rfl
  rw[hone']at h1;have hys:ys[j]?=some (ys[j]'(by omega)):=gE (by omega);refine⟨_,_,?_,h1.trans hys⟩;rw[←Go.Deep.add_add,hcell,hv]
end
theorem z7r{a:Addr}{w:World}{k:Nat}{v:Value}(h0:w.cell? a=some v):a=⟨a.block,a.off,none⟩∧a.add k=⟨a.block,a.off+k,none⟩:=by
 have:=World.cell?_spot h0;obtain⟨b,off,spot⟩:=a;simp at this;subst this;exact⟨rfl,Go.WideShapes.add_plain ..⟩
end Go.Proofs.YtbkgnekfigknhaaGreatDoor.OpR
namespace Go.Proofs.YtbkgnekfigknhaaGreatDoor
open Go.ChangeShapes Go.WideShapes Go.ChangeAt Go.RowKit Go.Lib Go.Mor Go.Deep Go.Joins
open Go.Sh (RelT RelV TV PV SCalls Env MSim z0k zx z1W Low)
open Go.ChangeMaps (open_string shut_string)
open Go.Proofs.YtbkgnekfigknhaaGreatDoor.OpR
section
variable{H:Type}{enc:TypeId×Value→H}
theorem znC{W:World}{base:Nat}{spare:Nat→Bool}{held:Bool}{fuel:Nat}{c:Value}{y:DataW H×List MemPlace}(h:DataW.trod enc Tryz.prog W base spare held fuel 63 [c]=some y):
  ∃l:List RawF,(∀r∈l,I64 r.n∧I64 r.k∧I64 r.o)∧l.length≤9223372036854775807∧RelV W (z1e W).K (.sl 4 (rfR l)) c:=by
 rcases zgP Tryz.underlying63 Tryz.underlying112 (by kernel_rfl) (by kernel_rfl) h with h0|⟨a,len,cap,hcs,hl,hm,hi⟩
 ·obtain rfl:c=.slice none 0 0:=by simpa using h0
  exact⟨[],by simp,by simp,.sl 4 [] 0 0 0 none (fun _ _=>undef) (by simp) (by simp) (by simp) (by simp) (by simp) (by simp)⟩
 ·obtain rfl:c=.slice (some a) len cap:=by simpa using hcs
  have key:∀i,i<len→∃r:RawF,(I64 r.n∧I64 r.k∧I64 r.o)∧a=⟨a.block,a.off,none⟩∧W.cell? ⟨a.block,a.off+i*4,none⟩=some (.int .i64 r.n)∧W.cell? ⟨a.block,a.off+i*4+1,none⟩=some (.int .i64 r.k)
    ∧W.cell? ⟨a.block,a.off+i*4+2,none⟩=some (.int .i64 r.o)∧W.cell? ⟨a.block,a.off+i*4+3,none⟩=some (.bool r.ix):=by
   intro i hlt;obtain⟨n0,hf0⟩:=hi 0 (by omega);obtain⟨v,y,hc0,_⟩:=hf0 0 _ rfl;have ha:a=⟨a.block,a.off,none⟩:=(z7r (k:=0) (by simpa [Addr.add]using hc0)).1;have hadd:∀k,a.add k=⟨a.block,a.off+k,none⟩:=fun k=>(z7r (k:=k) (by simpa [Addr.add]using hc0)).2;obtain⟨n,hf⟩:=hi i hlt;obtain⟨v0,y0,c0,t0⟩:=hf 0 _ rfl;obtain⟨v1,y1,c1,t1⟩:=hf 1 _ rfl;obtain⟨v2,y2,c2,t2⟩:=hf 2 _ rfl;obtain⟨v3,y3,c3,t3⟩:=hf 3 _ rfl;obtain⟨z0,e0,_,w0⟩:=DataW.trod_int Tryz.underlying3 t0;obtain⟨z1,e1,_,w1⟩:=DataW.trod_int Tryz.underlying3 t1;obtain⟨z2,e2,_,w2⟩:=DataW.trod_int Tryz.underlying3 t2;obtain⟨z3,e3,_⟩:=DataW.trod_bool Tryz.underlying4 t3;simp at e0 e1 e2 e3;subst e0 e1 e2 e3;rw[hadd]at c0 c1 c2 c3;exact⟨⟨z0,z1,z2,z3⟩,⟨bounds_i64 w0,bounds_i64 w1,bounds_i64 w2⟩,ha,c0,c1,c2,c3⟩
  obtain⟨l,hlen,hq⟩:=zhy key;refine⟨l,fun r hr=> ?_,by unfold maxLen at hm;omega,?_⟩
  ·obtain⟨i,hi⟩:=List.getElem?_of_mem hr;exact(hq i r hi).1
  ·have hL:(rfR l).length=len:=by rw[zbW,hlen]
   rw[←hL];have cell:∀(i j:Nat) cs q,(rfR l)[i]?=some cs→cs[j]?=some q→∃u,q=.v u∧W.cell? ⟨a.block,a.off+i*4+j,none⟩=some u∧Go.Sh.one u:=by
    intro i j cs q h1 h2;rw[zjv,Option.map_eq_some_iff]at h1;obtain⟨r,hr,rfl⟩:=h1;obtain⟨_,_,c0,c1,c2,c3⟩:=hq i r hr
    match j with
    |0=>simp[z81]at h2;subst h2;exact⟨_,rfl,c0,rfl⟩
    |1=>simp[z81]at h2;subst h2;exact⟨_,rfl,c1,rfl⟩
    |2=>simp[z81]at h2;subst h2;exact⟨_,rfl,c2,rfl⟩
    |3=>simp[z81]at h2;subst h2;exact⟨_,rfl,c3,rfl⟩
    |j+4=>simp[z81]at h2
   refine .sl 4 (rfR l) a.block a.off cap (some a) (fun i j=>(W.cell? ⟨a.block,a.off+i*4+j,none⟩).getD undef) (fun hne=> ?_) (by omega) hm (fun cs hcs=> ?_) (fun i j cs q h1 h2=> ?_) (fun i j cs q h1 h2=> ?_)
   ·obtain⟨r,hr⟩:∃r,l[0]?=some r:=by
     cases l with
     |nil=>exact absurd rfl hne
     |cons r q=>exact⟨r,rfl⟩
    rw[(hq 0 r hr).2.1]
   ·obtain⟨r,_,rfl⟩:=List.mem_map.1 hcs;rfl
   ·obtain⟨u,_,hu,ho⟩:=cell i j cs q h1 h2;rw[hu];exact⟨z1d (a:=⟨a.block,a.off+i*4+j,none⟩) hu,rfl,ho⟩
   ·obtain⟨u,rfl,hu,ho⟩:=cell i j cs q h1 h2;rw[hu];exact .v u
theorem zlg{W:World}{b0 base:Nat}{spare:Nat→Bool}{held:Bool}{v:Value}{d:DataW H}{p:List MemPlace}(hok:Value.okWide Tryz.prog W .any b0 65 v)(h:DataW.Trod enc Tryz.prog W base spare held 65 v d p):
  ∃x:Raw,RawOk x∧∀r,RelT W (z1e W) r (z8V x) v:=by
 obtain⟨c0,c1,y0,y1,m,rfl,_,_,hy0,hy1⟩:=open_agg2 Tryz.underlying65 (by kernel_rfl) (by kernel_rfl) hok h;obtain⟨z0,e0,_,w0⟩:=DataW.trod_int Tryz.underlying3 hy0;obtain rfl:c0=_:=by simpa using e0
 obtain⟨l,hl,hlen,hr⟩:=znC hy1;refine⟨⟨z0,l⟩,⟨bounds_i64 w0,hl,hlen⟩,fun r=> ?_⟩;unfold z8V;refine .agg _ [_,c1] rfl (fun j q u hq hu=> ?_) (fun u hu=> ?_)
 ·match j with
  |0=>simp at hq hu;subst hq;subst hu;exact .pv (.v _)
  |1=>simp at hq hu;subst hq;subst hu;exact .pv hr
  |j+2=>simp at hq
 ·simp at hu;rcases hu with rfl|rfl
  ·rfl
  ·cases hr;rfl
end
end Go.Proofs.YtbkgnekfigknhaaGreatDoor
end

section
namespace Go.Mor
open Go
def z7F(fs:List Fld)(n:Nat)(t:Ty):Nat→Nat→Option (zB)
 |0,_=>none
 |k+1,i=>if z0i (fs.getD ((n+i)%fs.length) z4u).t t then some (fs.getD ((n+i)%fs.length) z4u).n else z7F fs n t k (i+1)
def z3U(c:Cls)(n:Int)(t:Ty):Option (zB):=z7F c.fs (pick n 100).toNat t c.fs.length 0
def zfA(a b:zB):List (zB):=[[],[51],a,a++[32,42,32,50,32,45,32,49],[108,101,110,40]++b++[41],[105,102,40]++a++[32,62,32,50,44,32]++a++[44,32,48,32,45,32]++a++[41],[102,105,110,100,40,34,98,34,44,32]++b++[41],a++[32,47,32]++a]
def zgo(a b:zB):List (zB):=[[],[34,120,34],b,b++[32,38,32,34,45,34,32,38,32]++b,[116,101,120,116,40]++a++[41],[108,101,102,116,40]++b++[44,32,50,41],[102,114,111,109,40]++b++[44,32,51,41],[105,102,40]++a++[32,61,32,49,44,32]++b++[44,32,34,110,111,34,41]]
def z8M(c:Cls)(n:Int):zB:=(z3U c n ⟨1,0⟩).getD [55]
def z9i(c:Cls)(n:Int):zB:=(z3U c (n.tdiv 2) ⟨2,0⟩).getD [34,97,32,98,34]
def z5e(n:Int)(t:Ty)(c:Cls):zB:=
 if t.k=1 then(zfA (z8M c n) (z9i c n)).getD (pick n 8).toNat []
 else if t.k=2 then(zgo (z8M c n) (z9i c n)).getD (pick n 8).toNat []
 else match z3U c n t with
  |some s=>if 0<pick n 3 then s else []
  |none=>[]
structure RawH where
 k:Int
 f:Int
 n:Int
 m:Int
 t:Ty
 x:Int
 o:Int
def nmH(i:Int):zB:=([[110,101,119,95,49],[109,111,114,101],[122,57],[97],[110,97,109,101],[107,105,100,115]]:List (zB)).getD i.toNat []
def tyH(t:Ty):Ty:=⟨1+pick t.k 5,if pick t.k 5=4 then 1+pick t.o 4 else 0⟩
def z1T(x:RawH)(c:Cls):Chg:=
 let f:=if c.fs=[] then [] else(c.fs.getD (pick x.f c.fs.length).toNat z4u).n
 let k:=1+pick x.k 6
 let t:=tyH x.t
 let e:=z5e x.x t c
 if k=1 then⟨k,[],nmH (pick x.n 6),[],t,e,[]⟩
 else if k=3 then⟨k,f,nmH (pick x.n 6),[],ty0,[],[]⟩
 else if k=4 then⟨k,f,[],[],t,e,[]⟩
 else if k=5 then⟨k,f,nmH (pick x.n 6),nmH (pick x.m 6),t,e,z5e x.o t c⟩
 else⟨k,f,[],[],ty0,[],[]⟩
def nmL:List (zB):=[[97],[98,50],[110,97,109,101],[110,101,120,116,95,111,110,101],[107,105,100,115],[120],[110,101,119,95,49],[109,111,114,101],[122,57],[113,117,105,116,101,95,110,101,119]]
def numL:List (zB):=[55]::nmL
def txtL:List (zB):=[34,97,32,98,34]::nmL
def exA(a:zB):List (zB):=[a++[32,42,32,50,32,45,32,49],[105,102,40]++a++[32,62,32,50,44,32]++a++[44,32,48,32,45,32]++a++[41],a++[32,47,32]++a,[116,101,120,116,40]++a++[41]]
def exB(b:zB):List (zB):=[[108,101,110,40]++b++[41],[102,105,110,100,40,34,98,34,44,32]++b++[41],b++[32,38,32,34,45,34,32,38,32]++b,[108,101,102,116,40]++b++[44,32,50,41],[102,114,111,109,40]++b++[44,32,51,41]]
def exC(a b:zB):zB:=[105,102,40]++a++[32,61,32,49,44,32]++b++[44,32,34,110,111,34,41]
def exN:List (zB):=[55]::[34,97,32,98,34]::nmL++[[51],[34,120,34]]
def exL:List (zB):=exN++numL.flatMap exA++txtL.flatMap exB++numL.flatMap fun a=>txtL.map (exC a)
theorem zoO{a:zB}(h:a∈numL):a∈exL:=by
 refine List.mem_append_left _ (List.mem_append_left _ (List.mem_append_left _ ?_))
 grind [exN,numL]
theorem zsA{b:zB}(h:b∈txtL):b∈exL:=by
 refine List.mem_append_left _ (List.mem_append_left _ (List.mem_append_left _ ?_))
 grind [exN,txtL]
theorem zoP{e:zB}(h:e∈exN):e∈exL:=List.mem_append_left _ (List.mem_append_left _ (List.mem_append_left _ h))
theorem zek{a e:zB}(h:a∈numL)(he:e∈exA a):e∈exL:=List.mem_append_left _ (List.mem_append_left _ (List.mem_append_right _ (List.mem_flatMap.2 ⟨a,h,he⟩)))
theorem zbu{b e:zB}(h:b∈txtL)(he:e∈exB b):e∈exL:=List.mem_append_left _ (List.mem_append_right _ (List.mem_flatMap.2 ⟨b,h,he⟩))
theorem zsz{a b:zB}(ha:a∈numL)(hb:b∈txtL):exC a b∈exL:=List.mem_append_right _ (List.mem_flatMap.2 ⟨a,ha,List.mem_map.2 ⟨b,hb,rfl⟩⟩)
theorem zq5{a b:zB}(ha:a∈numL)(hb:b∈txtL){e:zB}(he:e∈zfA a b):e=[]∨e∈exL:=by
 unfold zfA at he;simp only[List.mem_cons,List.not_mem_nil,or_false]at he;rcases he with rfl|rfl|rfl|rfl|rfl|rfl|rfl|rfl
 ·simp
 ·exact .inr (zoP (by decide))
 ·grind [zoO]
 ·grind [zek,exA]
 ·grind [zbu,exB]
 ·grind [zek,exA]
 ·grind [zbu,exB]
 ·grind [zek,exA]
theorem zqy{a b:zB}(ha:a∈numL)(hb:b∈txtL){e:zB}(he:e∈zgo a b):e=[]∨e∈exL:=by
 unfold zgo at he;simp only[List.mem_cons,List.not_mem_nil,or_false]at he;rcases he with rfl|rfl|rfl|rfl|rfl|rfl|rfl|rfl
 ·simp
 ·exact .inr (zoP (by decide))
 ·grind [zsA]
 ·grind [zbu,exB]
 ·exact .inr (zek ha (by simp[exA]))
 ·exact .inr (zbu hb (by simp[exB]))
 ·exact .inr (zbu hb (by simp[exB]))
 ·exact .inr (zsz ha hb)
theorem zdi{fs:List Fld}(hne:fs≠[]){n:Nat}{t:Ty}:∀{k i:Nat} {s:zB},z7F fs n t k i=some s→∃f∈fs,f.n=s∧z0i f.t t=true
 |0,_,s,h=>by cases h
 |k+1,i,s,h=>by
  rw[z7F]at h;split at h
  ·grind [Nat.mod_lt,List.length_pos_iff,List.getElem_mem,List.getElem?_eq_getElem]
  ·exact zdi hne h
theorem zaH{c:Cls}{n:Int}{t:Ty}{s:zB}(h:z3U c n t=some s):∃f∈c.fs,f.n=s∧z0i f.t t=true:=by
 unfold z3U at h;refine zdi (fun e=> ?_) h;rw[e]at h;cases h
theorem zaR{c:Cls}(hc:∀f∈c.fs,f.n∈nmL)(n:Int):z8M c n∈numL:=by
 unfold z8M;cases h:z3U c n ⟨1,0⟩ with
 |none=>exact List.mem_cons_self ..
 |some s=>
  obtain⟨f,hf,rfl,_⟩:=zaH h;exact List.mem_cons_of_mem _ (hc f hf)
theorem zb6{c:Cls}(hc:∀f∈c.fs,f.n∈nmL)(n:Int):z9i c n∈txtL:=by
 unfold z9i;cases h:z3U c (n.tdiv 2) ⟨2,0⟩ with
 |none=>exact List.mem_cons_self ..
 |some s=>
  obtain⟨f,hf,rfl,_⟩:=zaH h;exact List.mem_cons_of_mem _ (hc f hf)
theorem zdb{c:Cls}(hc:∀f∈c.fs,f.n∈nmL)(n:Int)(t:Ty):z5e n t c=[]∨z5e n t c∈exL:=by
 unfold z5e;split
 ·grind [zfA,z8M,z9i,pick,zq5,zaR,zb6]
 split
 ·grind [zgo,z8M,z9i,pick,zqy,zaR,zb6]
 cases h:z3U c n t with
 |none=>simp
 |some s=>
  obtain⟨f,hf,rfl,_⟩:=zaH h
  dsimp only
  split
  ·exact .inr (zoO (List.mem_cons_of_mem _ (hc f hf)))
  ·simp
end Go.Mor
end

section
namespace Go.Proofs.YtbkgnekfigknhaaGreatDoor
open Go Go.RowKit Go.Mor Go.Sh
structure RawHOk(r:RawH):Prop where
 k:I64 r.k
 f:I64 r.f
 n:I64 r.n
 m:I64 r.m
 tk:I64 r.t.k
 ot:I64 r.t.o
 x:I64 r.x
 o:I64 r.o
def zjp(x:RawH):TV:=.agg [I x.k,I x.f,I x.n,I x.m,I x.t.k,I x.t.o,I x.x,I x.o]
end Go.Proofs.YtbkgnekfigknhaaGreatDoor
end

section
namespace Go.Proofs.YtbkgnekfigknhaaGreatDoor
open Go.ChangeShapes Go.WideShapes Go.ChangeAt Go.RowKit Go.Lib Go.Mor Go.Deep Go.Joins
open Go.Sh (RelT RelV TV PV SCalls Env MSim z0k zx z1W Low)
open Go.ChangeMaps (open_string shut_string)
section
variable{H:Type}{enc:TypeId×Value→H}
theorem zoX{α:Type}{l:List α}(h:l.length=2):∃a b,l=[a,b]:=by
 match l,h with
 |[a,b],_=>exact⟨a,b,rfl⟩
theorem zsG{α:Type}{l:List α}(h:l.length=7):∃a b c d e f g,l=[a,b,c,d,e,f,g]:=by
 match l,h with
 |[a,b,c,d,e,f,g],_=>exact⟨a,b,c,d,e,f,g,rfl⟩
theorem zsH{α:Type}{l:List α}(h:l.length=8):∃a b c d e f g i,l=[a,b,c,d,e,f,g,i]:=by
 match l,h with
 |[a,b,c,d,e,f,g,i],_=>exact⟨a,b,c,d,e,f,g,i,rfl⟩
theorem znE{W:World}{base:Nat}{spare:Nat→Bool}{held:Bool}{n:Nat}{cs:List Value}{y:DataW H×List MemPlace}(h:DataW.trod enc Tryz.prog W base spare held n 49 cs=some y):
  ∃t:Ty,cs=[.int .i64 t.k,.int .i64 t.o]∧I64 t.k∧I64 t.o:=by
 obtain⟨xs,n',rfl,_,hlen,hxl,hf⟩:=DataW.trod_struct Tryz.underlying49 h;obtain⟨c0,c1,rfl⟩:=zoX (hlen.trans (by kernel_rfl));obtain⟨x0,x1,rfl⟩:=zoX hxl;have k0:Tryz.prog.cellsOf 3=1:=by kernel_rfl
 have h0:DataW.trod enc Tryz.prog W base spare held n' 3 [c0]=some x0:=by have:=hf 0 _ rfl;simpa [k0]using this
 have h1:DataW.trod enc Tryz.prog W base spare held n' 3 [c1]=some x1:=by have:=hf 1 _ rfl;simpa [k0]using this
 obtain⟨z0,e0,_,w0⟩:=DataW.trod_int Tryz.underlying3 h0;obtain⟨z1,e1,_,w1⟩:=DataW.trod_int Tryz.underlying3 h1;simp at e0 e1;subst e0 e1;exact⟨⟨z0,z1⟩,rfl,bounds_i64 w0,bounds_i64 w1⟩
end
end Go.Proofs.YtbkgnekfigknhaaGreatDoor
end

section
namespace Go.Mor
open Go
theorem z4b{α:Type}{l gs:List α}{i:Nat}(h:i≤l.length):(z0W l i gs).length=l.length+gs.length-(if i<l.length then 1 else 0):=by
 unfold z0W
 grind
theorem z2X{α:Type}{l gs:List α}{i:Nat}(h:i≤l.length)(j:Nat):(z0W l i gs)[j]?=if j<i then l[j]? else if j<i+gs.length then gs[j-i]? else l[j-gs.length+1]?:=by
 grind [List.length_take,z0W,List.append_assoc]
structure Put(c:Cls)(h:Chg)(vals:List V)(i:Nat)(gs:List Fld)(ws:List V):Prop where
 le:i≤c.fs.length
 fs:z07 c h=z0W c.fs i gs
 vs:z0K c h vals=z0W vals i ws
 len:gs.length=ws.length
 few:(z0W c.fs i gs).length≤8
 new:∀(j:Nat) f,c.fs[j]?=some f→j≠i→∀g∈gs,f.n≠g.n
 dist:z6O gs
 right:∀g∈gs,zF g=true
 fit:∀(j:Nat) g w,gs[j]?=some g→ws[j]?=some w→zI w g.t=true
 own:∀f,c.fs[i]?=some f→f.n=h.f
theorem Put.fits{c:Cls}{h:Chg}{vals:List V}{i:Nat}{gs:List Fld}{ws:List V}(hp:Put c h vals i gs ws)(hf:FitC c vals):FitC ⟨c.n,z07 c h⟩ (z0K c h vals):=by
 have hr:=(z0Y c).1 hf.r;have hle:=hp.le;have hl:=hf.len;have hln:=hp.len;rw[hp.fs,hp.vs];refine⟨(z0Y _).2 ⟨hr.1,hp.few,fun f hm=> ?_,fun a b f g ha hb he=> ?_⟩,?_,fun j f v hj hv=> ?_⟩
 ·unfold z0W at hm;simp only[List.mem_append]at hm;rcases hm with(hm|hm)|hm
  ·grind
  ·exact hp.right f hm
  ·grind
 ·dsimp only at ha hb
  rw[z2X hle]at ha hb;have hd:=hr.2.2.2;split at ha
  ·split at hb
   ·exact hd a b f g ha hb he
   ·split at hb
    ·exact absurd he (hp.new a f ha (by omega) g (gM hb))
    ·have:=hd _ _ f g ha hb he;omega
  ·split at ha
   ·split at hb
    ·exact absurd he.symm (hp.new b g hb (by omega) f (gM ha))
    ·split at hb
     ·have:=hp.dist _ _ f g ha hb he;omega
     ·exact absurd he.symm (hp.new _ g hb (by omega) f (gM ha))
   ·split at hb
    ·have:=hd _ _ f g ha hb he;omega
    ·split at hb
     ·exact absurd he (hp.new _ f ha (by omega) g (gM hb))
     ·have:=hd _ _ f g ha hb he;omega
 ·dsimp only
  grind [z4b]
 ·dsimp only at hj
  rw[z2X hle]at hj;rw[z2X (by omega)]at hv;split at hj
  ·rw[if_pos (by assumption)]at hv;exact hf.fit _ _ _ hj hv
  ·rw[if_neg (by assumption)]at hv;split at hj
   ·rw[if_pos (by omega)]at hv;exact hp.fit _ _ _ hj hv
   ·rw[if_neg (by omega),←hln]at hv;exact hf.fit _ _ _ hj hv
theorem Put.keeps{c:Cls}{h:Chg}{vals:List V}{i:Nat}{gs:List Fld}{ws:List V}(hp:Put c h vals i gs ws)(hf:FitC c vals){j:Nat}{f:Fld}{v:V}(hj:c.fs[j]?=some f)(hv:vals[j]?=some v)(hne:f.n≠h.f):
  ∃k:Nat,(z07 c h)[k]?=some f∧(z0K c h vals)[k]?=some v:=by
 have hle:=hp.le;have hl:=hf.len;have hln:=hp.len;rw[hp.fs,hp.vs];have hji:j≠i:=fun e=>by subst e;exact hne (hp.own f hj)
 by_cases hlt:j<i
 ·refine⟨j,?_,?_⟩
  ·grind [z2X]
  ·grind [z2X]
 ·refine⟨j+gs.length-1,?_,?_⟩
  ·grind [z2X]
  ·grind [z2X]
theorem Put.news{c:Cls}{h:Chg}{vals:List V}{i:Nat}{gs:List Fld}{ws:List V}(hp:Put c h vals i gs ws)(hf:FitC c vals){j:Nat}{f:Fld}{v:V}(hj:gs[j]?=some f)(hv:ws[j]?=some v):
  (z07 c h)[i+j]?=some f∧(z0K c h vals)[i+j]?=some v:=by
 have hle:=hp.le;have hl:=hf.len;rw[hp.fs,hp.vs]
 grind [z2X,Nat.add_sub_cancel_left]
theorem z6J{c:Cls}{vals:List V}(hf:FitC c vals){s:zB}{t:Ty}(ht:zg t=true)(h:(zE c s t).is=true):zI ((zE c s t).val c t vals) t=true:=by
 unfold zE at h ⊢;split at h
 ·rw[if_pos (by assumption)];exact z8v t ht
 rename_i hs;rw[if_neg hs];split at h
 ·cases h
 rename_i he;rw[if_neg he];split at h
 ·rename_i hT;rw[if_pos hT];obtain⟨h0,h1⟩:=hT;generalize(rdV s).1=e at*;have hr:=(z0Y c).1 hf.r;have hfa:z63 c.fs vals:=⟨fun f hm=>by have:=hr.2.2.1 f hm;unfold zF at this;simp at this;exact this.1.2,hf.len,hf.fit⟩
  have hev:z2Q c vals e=(z1g c.fs vals 8 e,0):=by
   unfold z2Q;rw[h0,hf.chk];rfl
  show zI (z2Q c vals e).1 t=true;unfold z1Y at h0 h1;split at h0
  ·rename_i hre;split at h0
   ·rename_i hrc;split at h0
    ·rename_i hty;have e1:(zl c.fs 8 e).1=t:=by
      generalize(zl c.fs 8 e).1=u at h1;obtain⟨k,o⟩:=u;obtain⟨k',o'⟩:=t
      grind [z0i]
     unfold z0b at hre
     grind [z5K]
    ·cases h0
   ·cases h0
  ·cases h0
 ·cases h
theorem zcy{c:Cls}{s b:zB}(h:z2v c.fs s b=true){j:Nat}{f:Fld}(hj:c.fs[j]?=some f)(hne:f.n≠b):f.n≠s:=by
 rintro rfl;unfold z2v at h
 grind [fieldAt,z5f,List.mem_of_getElem?]
theorem has_at{c:Cls}{s:zB}(h:z0F c.fs s=true):∃f,c.fs[atV c.fs s]?=some f∧f.n=s:=by
 unfold z0F at h;simp at h;unfold atV;unfold fieldAt at*;obtain⟨k,hk⟩:=Int.eq_ofNat_of_zero_le (show 0≤z0R (fun f:Fld=>f.n==s) c.fs by omega);obtain⟨f,h1,h2⟩:=z2R (fun f:Fld=>f.n==s) c.fs k hk
 grind
theorem z7z(g:Fld):z6O [g]:=fun a b f h ha hb _=>by
 grind
theorem zmO{g k:Fld}(hne:g.n≠k.n):z6O [g,k]:=fun a b f h ha hb he=>by
 match a,b with
 |0,0=>rfl
 |1,1=>rfl
 |0,1=>grind
 |1,0=>grind
 |0,b+2=>simp at hb
 |1,b+2=>simp at hb
 |a+2,_=>simp at ha
theorem zjw{n:zB}{t:Ty}(hn:zb n=true)(ht:zg t=true):zF ⟨n,t,false⟩=true:=by grind [zF]
theorem zfQ{c:Cls}{h:Chg}{vals:List V}(hf:FitC c vals)(ho:okV c h=true):∃i gs ws,Put c h vals i gs ws∧
  ((h.k=1∨h.k=5)→gs[0]?=some ⟨h.n,h.t,false⟩∧ws[0]?=some ((zE c h.x h.t).val c h.t vals))∧(h.k=4→gs[0]?=some ⟨h.f,h.t,false⟩∧ws[0]?=some ((zE c h.x h.t).val c h.t vals)):=by
 have hr:=(z0Y c).1 hf.r;have hlen:=hf.len;unfold okV at ho;simp at ho;obtain⟨⟨_,hw⟩,hm⟩:=ho;have hd:=hr.2.2.2;have hsame:∀{j:Nat} {f:Fld},c.fs[j]?=some f→j≠atV c.fs h.f→z0F c.fs h.f=true→f.n≠h.f:=fun {j f} hj hne hh e=>by
  obtain⟨g,hg,he⟩:=has_at hh;exact hne (hd j _ f g hj hg (by rw[e,he]))
 have hk:h.k=1∨h.k=2∨h.k=3∨h.k=4∨h.k=5∨h.k=6:=by
  grind [z0g,z0J]
 unfold z0g at hw;rcases hk with k|k|k|k|k|k
 ·simp only[k,z0J,z0G,if_true,z1F,Bool.and_eq_true,decide_eq_true_eq]at hw hm;obtain⟨⟨h8,hfr⟩,hx⟩:=hm;refine⟨c.fs.length,[⟨h.n,h.t,false⟩],[(zE c h.x h.t).val c h.t vals],⟨Nat.le_refl _,?_,?_,rfl,?_,fun j f hj hne g hg=> ?_,z7z _,fun g hg=> ?_,fun j g w hj hw'=> ?_,fun f hj=> ?_⟩,fun _=>⟨rfl,rfl⟩,fun h4=>by omega⟩
  ·simp[z07,k,z0W]
  ·simp[z0K,k,z0W,←hlen]
  ·rw[z4b (Nat.le_refl _),if_neg (by omega)];simp;omega
  ·obtain rfl:=List.mem_singleton.1 hg;refine zcy hfr hj fun e=> ?_;have:=(z6k hf.r hj).1;rw[e]at this;exact absurd this (by decide)
  ·grind [List.mem_singleton,zjw]
  ·grind [z6J]
  ·grind
 ·simp only[k,z0G,show ¬(2:Int)=1 by decide,if_false,if_true]at hm;obtain⟨f,ef,en⟩:=has_at hm;have hlt:=(gJ ef).1;refine⟨atV c.fs h.f,[],[],⟨by omega,by simp[z07,k],by simp[z0K,k],rfl,?_,fun j f hj hne g hg=>by simp at hg,fun a b f g ha=>by simp at ha,fun g hg=>by simp at hg,fun j g w hj=>by simp at hj,fun y hy=> ?_⟩,fun h4=>by omega,fun h4=>by omega⟩
  ·grind [z4b]
  ·grind
 ·simp only[k,z0J,z0G,show ¬(3:Int)=1 by decide,show ¬(3:Int)=2 by decide,show ¬(3:Int)=6 by decide,false_or,if_false,if_true,z1F,Bool.and_eq_true]at hw hm;obtain⟨hh,hfr⟩:=hm;obtain⟨f,ef,en⟩:=has_at hh;have hlt:=(gJ ef).1;obtain⟨v,ev⟩:∃v,vals[atV c.fs h.f]?=some v:=⟨_,gE (by omega)⟩
  have h3:=(z6k hf.r ef).2.2.1;refine⟨atV c.fs h.f,[⟨h.n,f.t,f.ix⟩],[v],⟨by omega,by simp[z07,k,ef],?_,rfl,?_,fun j y hj hne g hg=> ?_,z7z _,fun g hg=> ?_,fun j g w hj hw'=> ?_,fun y hy=> ?_⟩,fun h4=>by omega,fun h4=>by omega⟩
  ·grind [zfP,atV,List.getElem?_eq_some_iff,List.set_getElem_self,z0K]
  ·grind [z4b]
  ·obtain rfl:=List.mem_singleton.1 hg;refine zcy hfr hj fun e=> ?_;have:=(z6k hf.r hj).1;rw[e]at this;exact absurd this (by decide)
  ·grind [List.mem_singleton,zF]
  ·cases j with
   |zero=>simp at hj hw';subst hj;subst hw';exact(show zI _ f.t=true from hf.fit _ _ _ ef ev)
   |succ j=>simp at hj
  ·grind
 ·simp only[k,z0J,z0G,show ¬(4:Int)=1 by decide,show ¬(4:Int)=2 by decide,show ¬(4:Int)=6 by decide,show ¬(4:Int)=3 by decide,false_or,if_false,if_true,z1F,Bool.and_eq_true]at hw hm;obtain⟨hh,hx⟩:=hm;obtain⟨f,ef,en⟩:=has_at hh;have hlt:=(gJ ef).1;refine⟨atV c.fs h.f,[⟨f.n,h.t,false⟩],[(zE c h.x h.t).val c h.t vals],⟨by omega,by simp[z07,k,ef],by simp[z0K,k],rfl,?_,fun j y hj hne g hg=> ?_,z7z _,fun g hg=> ?_,fun j g w hj hw'=> ?_,fun y hy=> ?_⟩,fun h4=>by omega,fun _=>⟨by rw[en];rfl,rfl⟩⟩
  ·grind [z4b]
  ·grind
  ·grind [List.mem_singleton,zjw]
  ·grind [z6J]
  ·grind
 ·simp only[k,z0J,z0G,show ¬(5:Int)=1 by decide,show ¬(5:Int)=2 by decide,show ¬(5:Int)=6 by decide,show ¬(5:Int)=3 by decide,show ¬(5:Int)=4 by decide,false_or,if_false,if_true,z1F,Bool.and_eq_true,decide_eq_true_eq]at hw hm;obtain⟨⟨⟨⟨⟨⟨hh,h8⟩,hnm⟩,hfr⟩,hfr2⟩,hx⟩,hx2⟩:=hm;have hnm:h.n≠h.m:=by grind
  obtain⟨f,ef,en⟩:=has_at hh;have hlt:=(gJ ef).1;refine⟨atV c.fs h.f,[⟨h.n,h.t,false⟩,⟨h.m,h.t,false⟩],[(zE c h.x h.t).val c h.t vals,(zE c h.o h.t).val c h.t vals],⟨by omega,by simp[z07,k],by simp[z0K,k],rfl,?_,fun j y hj hne g hg=> ?_,zmO hnm,fun g hg=> ?_,fun j g w hj hw'=> ?_,fun y hy=> ?_⟩,fun _=>⟨rfl,rfl⟩,fun h4=>by omega⟩
  ·grind [z4b]
  ·simp at hg
   grind [zcy]
  ·simp at hg
   grind [zjw]
  ·match j with
   |0=>grind [z6J]
   |1=>grind [z6J]
   |j+2=>simp at hj
  ·grind
 ·simp only[k,z0G,show ¬(6:Int)=1 by decide,show ¬(6:Int)=2 by decide,show ¬(6:Int)=3 by decide,show ¬(6:Int)=4 by decide,show ¬(6:Int)=5 by decide,if_false,Bool.and_eq_true,decide_eq_true_eq]at hm;obtain⟨hh,hk3⟩:=hm;obtain⟨f,ef,en⟩:=has_at hh;have hlt:=(gJ ef).1;obtain⟨v,ev⟩:∃v,vals[atV c.fs h.f]?=some v:=⟨_,gE (by omega)⟩
  have h3:=(z6k hf.r ef).2.2.1;refine⟨atV c.fs h.f,[⟨f.n,f.t, !f.ix⟩],[v],⟨by omega,by simp[z07,k,ef],?_,rfl,?_,fun j y hj hne g hg=> ?_,z7z _,fun g hg=> ?_,fun j g w hj hw'=> ?_,fun y hy=> ?_⟩,fun h4=>by omega,fun h4=>by omega⟩
  ·grind [zfP,atV,List.getElem?_eq_some_iff,List.set_getElem_self,z0K]
  ·grind [z4b]
  ·grind
  ·grind [List.mem_singleton,zF]
  ·cases j with
   |zero=>simp at hj hw';subst hj;subst hw';exact(show zI _ f.t=true from hf.fit _ _ _ ef ev)
   |succ j=>simp at hj
  ·grind
structure Ln where
 c:Cls
 hs:List Chg
def zew(r:Cls×Int)(h:Chg):Cls×Int:=if r.2=0 then z0D r.1 h else r
theorem z3v{r:Cls×Int}(h:Chg)(h0:r.2=0):zew r h=z0D r.1 h:=if_pos h0
theorem zi4{r:Cls×Int}(h:Chg)(h0:r.2≠0):zew r h=r:=if_neg h0
def z1R(l:Ln):Cls×Int:=(l.c,if ze l.c then 0 else 40)
def zq(l:Ln)(k:Nat):Cls×Int:=(l.hs.take k).foldl zew (z1R l)
def z09(l:Ln):Bool:=Nat.ble l.hs.length 12&&(zq l l.hs.length).2==0
theorem z28(l:Ln):zq l 0=z1R l:=by simp[zq]
theorem z34{l:Ln}{k:Nat}{h:Chg}(hk:l.hs[k]?=some h):zq l (k+1)=zew (zq l k) h:=by
 unfold zq;rw[List.take_add_one,hk,List.foldl_append];rfl
theorem za1{l:Ln}{k:Nat}(hk:l.hs.length≤k):zq l k=zq l l.hs.length:=by
 unfold zq;rw[List.take_of_length_le hk,List.take_length]
theorem z88{l:Ln}{k:Nat}(hk:(zq l k).2≠0):∀{n:Nat},k≤n→zq l n=zq l k
 |0,hn=>by rw[Nat.le_zero.1 hn]
 |n+1,hn=>by
  rcases Nat.lt_or_ge n k with h1|h1
  ·rw[show n+1=k by omega]
  ·have ih:=z88 hk h1;cases hx:l.hs[n]? with
   |none=>
    have:=List.getElem?_eq_none_iff.1 hx;rw[za1 (show l.hs.length≤n+1 by omega),←za1 this,ih]
   |some x=>rw[z34 hx,ih,zi4 x hk]
theorem zgy{l:Ln}(h:(z1R l).2=0):ze l.c=true:=by
 unfold z1R at h;by_cases hc:ze l.c=true
 ·exact hc
 ·simp[hc]at h
theorem zdW{c:Cls}(h:ze c=true):FitC c (c.fs.map fun f=>z5k f.t):=by
 refine⟨h,List.length_map _,fun i f v hf hv=> ?_⟩;rw[List.getElem?_map,hf]at hv;cases hv;have:=((z0Y c).1 h).2.2.1 f (gM hf);refine z8v _ ?_;unfold zF at this;simp only[Bool.and_eq_true]at this
 grind
theorem z5a{c:Cls}{h:Chg}(h0:(z0D c h).2=0):ze c=true∧okV c h=true∧ze (z0D c h).1=true:=by
 unfold z0D at h0;by_cases hr:ze c=true
 ·by_cases ho:okV c h=true
  ·obtain⟨i,gs,ws,hp,_⟩:=zfQ (zdW hr) ho;refine⟨hr,ho,?_⟩;unfold z0D;simp only[hr,ho,Bool.not_true,Bool.false_eq_true,if_false];exact(hp.fits (zdW hr)).r
  ·simp[hr,ho]at h0
 ·simp[hr]at h0
theorem z2P{l:Ln}:∀{k:Nat},(zq l k).2=0→ze (zq l k).1=true
 |0,h=>by rw[z28]at*;exact zgy h
 |k+1,h=>by
  cases hk:l.hs[k]? with
  |none=>
   have:=List.getElem?_eq_none_iff.1 hk;rw[za1 (show l.hs.length≤k+1 by omega),←za1 this]at*;exact z2P h
  |some x=>
   rw[z34 hk]at*;by_cases h0:(zq l k).2=0
   ·rw[z3v x h0]at*;exact(z5a h).2.2
   ·rw[zi4 x h0]at h;exact absurd h h0
theorem z0Z{l:Ln}(h:z09 l=true){k:Nat}(hk:k≤l.hs.length):(zq l k).2=0:=by
 unfold z09 at h;simp only[Bool.and_eq_true,beq_iff_eq]at h;by_cases h0:(zq l k).2=0
 ·exact h0
 ·have:=z88 h0 hk;rw[this]at h;exact h.2
def ch0:Chg:=⟨0,[],[],[],ty0,[],[]⟩
def z3T(l:Ln)(i:Nat)(vals:List V):Nat→List V
 |0=>vals
 |n+1=>z0K (zq l (i+n)).1 (l.hs.getD (i+n) ch0) (z3T l i vals n)
theorem zax{l:Ln}(hr:z09 l=true){k:Nat}{h:Chg}(hk:l.hs[k]?=some h){vals:List V}(hf:FitC (zq l k).1 vals):
  okV (zq l k).1 h=true∧FitC (zq l (k+1)).1 (z0K (zq l k).1 h vals)∧zcd (zq l k).1 h vals=(z0K (zq l k).1 h vals,0):=by
 have hi:=(gJ hk).1;have h0:=z0Z hr (k:=k) (by omega);have h1:=z0Z hr (k:=k+1) (by omega);have hn:=z34 hk;rw[z3v h h0]at hn;rw[hn]at h1;obtain⟨a1,a2,_⟩:=z5a h1;obtain⟨i,gs,ws,hp,_⟩:=zfQ hf a2;refine⟨a2,?_,?_⟩
 ·have:=hp.fits hf;rw[hn];unfold z0D;simpa [a1,a2]using this
 ·unfold zcd;rw[hf.chk,a2];rfl
theorem z7w{l:Ln}(hr:z09 l=true){i:Nat}{vals:List V}(hf:FitC (zq l i).1 vals):∀n,i+n≤l.hs.length→FitC (zq l (i+n)).1 (z3T l i vals n)
 |0,_=>hf
 |n+1,h=>by
  have ih:=z7w hr hf n (by omega);have hk:l.hs[i+n]?=some l.hs[i+n]:=gE (by omega);have:=(zax hr hk ih).2.1;unfold z3T;rw[List.getD_eq_getElem?_getD,hk];exact this
def z3h(ls:List Ln)(n:zB):Nat×Bool:=match ls.findIdx? (fun l=>l.c.n==n)with|some i=>(i,true)|none=>(0,false)
theorem z9w{ls:List Ln}{n:zB}{k:Nat}{x:Ln}(hx:ls[k]?=some x)(hp:(x.c.n==n)=true)(h:∀(i:Nat) y,i<k→ls[i]?=some y→(y.c.n==n)=false):z3h ls n=(k,true):=by
 have:ls.findIdx? (fun l=>l.c.n==n)=some k:=by
  grind [List.findIdx?_eq_some_iff_getElem]
 simp[z3h,this]
theorem zkG{ls:List Ln}{n:zB}(h:∀x∈ls,(x.c.n==n)=false):z3h ls n=(0,false):=by
 have:ls.findIdx? (fun l=>l.c.n==n)=none:=by
  grind [List.findIdx?_eq_none_iff]
 simp[z3h,this]
def zbc(ls:List Ln)(i:Nat)(l:Ln):Bool:=decide ((z3h ls l.c.n).1<i)|| !z09 l
def z9s(ls:List Ln):Nat→List Ln→Int×Int
 |_,[]=>(0,0)
 |i,l::r=>if zbc ls i l then(i,80)else z9s ls (i+1) r
def z7y(ls:List Ln):Int×Int:=if 8<ls.length then(8,80)else z9s ls 0 ls
theorem zeN(ls:List Ln)(i:Nat){l:Ln}(h:ls[i]?=some l):z9s ls i (ls.drop i)=if zbc ls i l then((i:Int),80)else z9s ls (i+1) (ls.drop (i+1)):=by
 obtain⟨h1,h2⟩:=gJ h;rw[List.drop_eq_getElem_cons h1,h2];rfl
structure RightS(ls:List Ln):Prop where
 len:ls.length≤8
 line:∀l∈ls,z09 l=true
 own:∀(i j:Nat) a b,ls[i]?=some a→ls[j]?=some b→a.c.n=b.c.n→i=j
theorem RightS.find{ls:List Ln}(h:RightS ls){k:Nat}{x:Ln}(hx:ls[k]?=some x):z3h ls x.c.n=(k,true):=
 z9w hx (beq_self_eq_true _) fun i y hi hy=>by
  rw[beq_eq_false_iff_ne];intro e;have:=h.own i k y x hy hx e;omega
theorem RightS.good{ls:List Ln}(h:RightS ls){k:Nat}{x:Ln}(hx:ls[k]?=some x):zbc ls k x=false:=by
 unfold zbc;rw[h.find hx,h.line x (gM hx)];simp
theorem RightS.check{ls:List Ln}(h:RightS ls):z7y ls=(0,0):=by
 unfold z7y;rw[if_neg (by have:=h.len;omega)]
 suffices ∀n i,ls.length-i=n→z9s ls i (ls.drop i)=(0,0) from by
  have:=this _ 0 rfl
  rwa [List.drop_zero]at this
 intro n
 induction n with
 |zero=>intro i hi;rw[List.drop_eq_nil_of_le (by omega)];rfl
 |succ n ih=>
  intro i hi;rw[zeN ls i (gE (show i<ls.length by omega)),h.good (gE (by omega)),if_neg (by simp)];exact ih (i+1) (by omega)
end Go.Mor
end
