/- Merged texts: PCls PrT RegIn PrE Cd6 Zg1 Pz1 Pe1 Pe2 PVals Pe3 Pe9 S26 Zg2 Bb Vf Zw1 Sy1 Zy2 Zg3 Zg4 S27 Zg5 Zg6 Zg7 Zg8 Zg9 Ze12 Zg10. No statement of the program is proved here. -/
import Derived.Test.YtcpaleaajdilgaaGreatDoorM1
import Derived.Test.YtcpaleaajdilgaaGreatDoorM2
import Derived.Test.YtcpaleaajdilgaaGreatDoorM3
import Derived.Lib.SmallJoins
import Derived.StillTailTactics
import Derived.TacticsIn
import Derived.RangeFuncCalls
import Derived.Lib.AtoiAll
import Derived.Lib.Small
import Derived.Lib.Index
import Derived.Lib.ItoaMem
import Derived.Shelf.Strconv.AtoiAll
import Derived.Lib.AtoiAllCases
import Derived.Lib.AtoiErrMem
set_option linter.unusedSimpArgs false
set_option linter.unusedVariables false
section
namespace Go.Mor
open Go Go.RowKit
set_option maxHeartbeats 1000000
def pick(c n:Int):Int:=(if c<0 then -(c+1)else c)%n
theorem z32(c n:Int)(hn:0<n):0≤pick c n∧pick c n<n:=⟨Int.emod_nonneg _ (by omega),Int.emod_lt_of_pos _ hn⟩
structure RawF where
 n:Int
 k:Int
 o:Int
 ix:Bool
structure Raw where
 n:Int
 fs:List RawF
def nmF(i:Int):List UInt8:=([[97],[98,50],[110,97,109,101],[110,101,120,116,95,111,110,101],[107,105,100,115],[120]]:List (List UInt8)).getD i.toNat []
def nmC(i:Int):List UInt8:=([[110,111,100,101],[105,116,101,109],[117,115,101,114],[112,97,103,101,95,49],[108,101,97,102],[113]]:List (List UInt8)).getD i.toNat []
def z116(r:RawF):Fld:=⟨nmF (pick r.n 6),⟨1+pick r.k 5,if pick r.k 5=4 then 1+pick r.o 4 else 0⟩,r.ix&&decide (1+pick r.k 5≤3)⟩
def addF(acc:List Fld)(r:RawF):List Fld:=if fieldAt acc (z116 r).n<0 then acc++[z116 r] else acc
def z79(x:Raw):Cls:=⟨nmC (pick x.n 6),(x.fs.take 6).foldl addF []⟩
theorem firstAt_eq{α:Type}(p:α→Bool)(l:List α)(k:Nat)(x:α)(hx:l[k]?=some x)(hp:p x=true)(h:∀(i:Nat) y,i<k→l[i]?=some y→p y=false):z49 p l=k:=by
 have:l.findIdx? p=some k:=by
  rw[List.findIdx?_eq_some_iff_getElem];obtain⟨hk,rfl⟩:=gJ hx;refine⟨hk,hp,fun j hj=> ?_⟩;have:=h j _ hj (gE (by omega));simp[this]
 simp[z49,this]
theorem z163{α:Type}(p:α→Bool)(l:List α)(k:Nat)(h:z49 p l=k):∃x,l[k]?=some x∧p x=true:=by
 unfold z49 at h;cases hf:l.findIdx? p with
 |none=>rw[hf]at h;simp at h
 |some i=>
  rw[hf]at h;obtain rfl:i=k:=by simp at h;omega
  rw[List.findIdx?_eq_some_iff_getElem]at hf;obtain⟨hi,hp,_⟩:=hf;exact⟨_,gE hi,hp⟩
theorem firstAt_neg{α:Type}(p:α→Bool)(l:List α):z49 p l<0 ↔ ∀x∈l,p x=false:=by
 unfold z49;cases hf:l.findIdx? p with
 |none=>rw[List.findIdx?_eq_none_iff]at hf;simp;exact hf
 |some i=>
  rw[List.findIdx?_eq_some_iff_getElem]at hf;obtain⟨hi,hp,_⟩:=hf;constructor
  ·intro h;exfalso;simp at h;omega
  ·intro h;have:=h _ (List.getElem_mem hi);rw[hp]at this;cases this
def Dist(l:List Fld):Prop:=∀(i j:Nat) (f g:Fld),l[i]?=some f→l[j]?=some g→f.n=g.n→i=j
theorem onceGo_iff(all:List Fld):∀(r:List Fld) (k:Nat),onceGo all k r=true ↔ ∀(i:Nat) f,r[i]?=some f→z26 f=true∧fieldAt all f.n=((k+i:Nat):Int):=by
 intro r
 induction r with
 |nil=>intro k;simp[onceGo]
 |cons g r ih=>
  intro k;rw[onceGo,Bool.and_eq_true,Bool.and_eq_true,ih (k+1)];constructor
  ·rintro⟨⟨h1,h2⟩,h3⟩ i f hf;cases i with
   |zero=>simp at hf;subst hf;exact⟨h1,by simpa using h2⟩
   |succ i=>have:=h3 i f (by simpa using hf);refine⟨this.1,this.2.trans ?_⟩;congr 1;omega
  ·intro h;have h0:=h 0 g (by simp);refine⟨⟨h0.1,by simpa using h0.2⟩,fun i f hf=> ?_⟩;have:=h (i+1) f (by simpa using hf);refine⟨this.1,this.2.trans ?_⟩;congr 1;omega
theorem dist_at{l:List Fld}(h:Dist l){i:Nat}{f:Fld}(hf:l[i]?=some f):fieldAt l f.n=i:=by
 refine firstAt_eq _ l i f hf (by simp) fun j y hj hy=> ?_;rw[beq_eq_false_iff_ne];intro he;have:=h j i y f hy hf he;omega
theorem z65(c:Cls):z18 c=true ↔ z13 c.n=true∧c.fs.length≤8∧(∀f∈c.fs,z26 f=true)∧Dist c.fs:=by
 rw[z18,Bool.and_eq_true,Bool.and_eq_true,onceGo_iff,decide_eq_true_iff];constructor
 ·rintro⟨⟨h1,h2⟩,h3⟩;refine⟨h1,h2,fun f hf=> ?_,fun i j f g hi hj he=> ?_⟩
  ·obtain⟨i,hi⟩:=List.getElem?_of_mem hf;exact(h3 i f hi).1
  ·have a:=(h3 i f hi).2;have b:=(h3 j g hj).2;rw[he]at a;have:=a.symm.trans b;simp at this;omega
 ·rintro⟨h1,h2,h3,h4⟩;exact⟨⟨h1,h2⟩,fun i f hf=>⟨h3 f (gM hf),by rw[dist_at h4 hf];simp⟩⟩
theorem nmF_right(j:Int)(h0:0≤j)(h1:j<6):z13 (nmF j)=true∧(nmF j).length≤8:=by
 have:j=0∨j=1∨j=2∨j=3∨j=4∨j=5:=by omega
 rcases this with rfl|rfl|rfl|rfl|rfl|rfl<;>decide
theorem nmC_right(j:Int)(h0:0≤j)(h1:j<6):z13 (nmC j)=true∧(nmC j).length≤8:=by
 have:j=0∨j=1∨j=2∨j=3∨j=4∨j=5:=by omega
 rcases this with rfl|rfl|rfl|rfl|rfl|rfl<;>decide
theorem fieldOf_right(r:RawF):z26 (z116 r)=true∧(z116 r).n.length≤8:=by
 have h1:=z32 r.n 6 (by omega);have h2:=z32 r.k 5 (by omega);have h3:=z32 r.o 4 (by omega);have h4:=nmF_right _ h1.1 h1.2;refine⟨?_,h4.2⟩;simp only[z26,z116,h4.1,Bool.true_and,Bool.and_eq_true];obtain⟨q,hq⟩:∃q,pick r.k 5=q:=⟨_,rfl⟩
 obtain⟨p,hp⟩:∃p,pick r.o 4=p:=⟨_,rfl⟩
 simp only[hq,hp]at*;refine⟨?_,?_⟩
 ·unfold z19;by_cases hq:q=4
  ·subst hq;simp;omega
  ·rw[if_neg (by simp;omega)];simp[hq];omega
 ·cases r.ix<;>simp
theorem dist_snoc{l:List Fld}{f:Fld}(h:Dist l)(hn:fieldAt l f.n<0):Dist (l++[f]):=by
 have hno:=(firstAt_neg _ _).1 hn;have key:∀(i:Nat) (g:Fld),l[i]?=some g→g.n≠f.n:=fun i g hg he=>by
  have:=hno g (gM hg);simp[he]at this
 intro i j a b ha hb he;rw[List.getElem?_append]at ha hb;split at ha<;>split at hb
 ·exact h i j a b ha hb he
 ·have hb':b=f:=by
   rw[List.getElem?_singleton]at hb;split at hb<;>simp_all
  subst hb';exact absurd he (key i a ha)
 ·have ha':a=f:=by
   rw[List.getElem?_singleton]at ha;split at ha<;>simp_all
  subst ha';exact absurd he.symm (key j b hb)
 ·rw[List.getElem?_singleton]at ha hb;split at ha<;>split at hb<;>simp_all
  omega
theorem fold_good:∀(rs:List RawF) (acc:List Fld),(∀f∈acc,z26 f=true∧f.n.length≤8)→Dist acc→
  (∀f∈rs.foldl addF acc,z26 f=true∧f.n.length≤8)∧Dist (rs.foldl addF acc)∧(rs.foldl addF acc).length≤acc.length+rs.length:=by
 intro rs
 induction rs with
 |nil=>intro acc h1 h2;exact⟨h1,h2,by simp⟩
 |cons r rs ih=>
  intro acc h1 h2;rw[List.foldl_cons];by_cases hn:fieldAt acc (z116 r).n<0
  ·have:addF acc r=acc++[z116 r]:=by rw[addF,if_pos hn]
   rw[this];have:=ih (acc++[z116 r]) (fun f hf=>by
    rcases List.mem_append.1 hf with hf|hf
    ·exact h1 f hf
    ·obtain rfl:=List.mem_singleton.1 hf;exact fieldOf_right r) (dist_snoc h2 hn)
   refine⟨this.1,this.2.1,?_⟩;have:=this.2.2;simp at this ⊢;omega
  ·have:addF acc r=acc:=by rw[addF,if_neg hn]
   rw[this];have:=ih acc h1 h2;refine⟨this.1,this.2.1,?_⟩;have:=this.2.2;simp at this ⊢;omega
structure GoodC(c:Cls):Prop where
 nm:z13 c.n=true∧c.n.length≤8
 fs:∀f∈c.fs,z26 f=true∧f.n.length≤8
 di:Dist c.fs
 len:c.fs.length≤6
theorem classOf_good(x:Raw):GoodC (z79 x):=by
 have h:=fold_good (x.fs.take 6) [] (by simp) (by intro i j f g h;simp at h);have hb:=z32 x.n 6 (by omega);exact⟨nmC_right _ hb.1 hb.2,h.1,h.2.1,by have:=h.2.2;simp only[z79];simp at this ⊢;omega⟩
theorem GoodC.right{c:Cls}(h:GoodC c):z18 c=true:=(z65 c).2 ⟨h.nm.1,by have:=h.len;omega,fun f hf=>(h.fs f hf).1,h.di⟩
theorem set_get{l:List Fld}{k:Nat}{f g:Fld}(hk:l[k]?=some f)(i:Nat):(l.set k g)[i]?=if i=k then some g else l[i]?:=by
 have:=(gJ hk).1;rw[List.getElem?_set];by_cases h:k=i
 ·subst h;simp[this]
 ·simp[h,Ne.symm h]
theorem dist_set{l:List Fld}{k:Nat}{f g:Fld}(h:Dist l)(hk:l[k]?=some f)(hg:∀(i:Nat) y,i≠k→l[i]?=some y→y.n≠g.n):Dist (l.set k g):=by
 intro i j a b ha hb he;rw[set_get hk]at ha hb;split at ha<;>split at hb
 ·omega
 ·injection ha with ha;subst ha;exact absurd he.symm (hg j b ‹_› hb)
 ·injection hb with hb;subst hb;exact absurd he (hg i a ‹_› ha)
 ·exact h i j a b ha hb he
end Go.Mor
end

section
namespace Go.Proofs.YtcpaleaajdilgaaGreatDoor
open Go Go.RowKit Go.Mor Go.Sh
structure GlobT(w:World):Prop where
 tab:Lib.TabIs Tryz.prog w "internal/strconv.uint64pow10" .u64 Lib.pow10Tab
 mx:∃k,w.cell? ⟨4,0,none⟩=some (.int .i64 k)
theorem pow10_named:Tryz.prog.globalNamed "internal/strconv.uint64pow10" =some 5:=by kernel_rfl
theorem tab_st{P:Program}{w w':World}{n g:Nat}{nm:String}{k:IntKind}{zs:List Int}(hg:P.globalNamed nm=some g)(hn:g<n)(h:Lib.TabIs P w nm k zs)(hk:∀k,k<n→w'.heap[k]?=w.heap[k]?):Lib.TabIs P w' nm k zs:=by
 unfold Lib.TabIs World.var? at*;rw[hg]at*;simp only[Option.bind_some]at*;rw[hk g hn];exact h
theorem globT_st{w w':World}{n:Nat}(hv:10≤n)(h:GlobT w)(hk:∀k,k<n→w'.heap[k]?=w.heap[k]?):GlobT w':=by
 refine⟨tab_st pow10_named (by omega) h.tab hk,?_⟩;obtain⟨k,h0⟩:=h.mx;exact⟨k,by rw[World.cell?_of_block (w:=w) (hk _ (show 4<n by omega))];exact h0⟩
structure GlobNT(n:Nat)(w:World):Prop extends GlobN0 n w where
 t:GlobT w
def glT(n:Nat):Sh.Glob where
 G:=GlobNT n
 n:=n
 st:=fun w w' h hk=>⟨⟨globU_st h.hv h.u hk,size_st h.sz hk,h.hv⟩,globT_st h.hv h.t hk⟩
 le:=fun w h=>h.sz
theorem sc_0T{m f:Nat}{xs:List TV}{os:List MO}{y:TV}{os':List MO}(h:SCalls Tryz.prog (gl0 m) f xs os y os'):SCalls Tryz.prog (glT m) f xs os y os':=
 sc_of (g:=gl0 m) (g':=glT m) rfl (fun w (hG:GlobNT m w)=>hG.toGlobN0) h
end Go.Proofs.YtcpaleaajdilgaaGreatDoor
end

section
namespace Go.Mor
open Go
structure Open(F:Fence):Prop where
 fn:∀f,F.fn f
 depth:F.depth=none
 calls:∀(n:Nat) (P:Program) (f:FuncId) (args:Array Value) (w:World) (R:Ending→World→Prop),Calls P f args w R→CallsIn F n P f args w R
theorem open_wide:Open Fence.wide:=⟨fun _=>trivial,rfl,fun _ _ _ _ _ _ h=>callsIn_wide.2 h⟩
theorem open_round(l:Nat):Open (Fence.wide.inRound l):=⟨fun _=>trivial,rfl,fun _ _ _ _ _ _ h=>CallsIn.inRound l (callsIn_wide.2 h)⟩
def noDefer(ops:Array Oper):Bool:=ops.all fun o=>match o.op with| .defer _=>false|_=>true
theorem noDefer_spec{ops:Array Oper}(h:noDefer ops=true){i:Nat}{o:Oper}(hi:ops[i]?=some o):∀c,o.op≠ .defer c:=by
 intro c hc;have hlt:=(gA hi)
 obtain⟨hl,rfl⟩:=hlt;have:=Array.all_eq_true.1 h i hl;rw[hc]at this;cases this
section
variable{F:Fence}{n:Nat}{P:Program}{ops:Array Oper}{md:Region.Mode}{w:World}
theorem wpOpIn_of_stOp(hF:Open F)(hnd:noDefer ops=true){i:Nat}{a:Act}{K:Act→Prop}{K':Act→World→Prop}{Q':Exit→Act→World→Prop}(h:∀a,K a→K' a w)(hh:stOp P ops w i K a):
  wpOpIn F n P ops Q' i K' a w:=by
 unfold stOp at hh;unfold wpOpIn;split
 ·rename_i ho;simp only[ho]at hh;exact h _ hh
 ·rename_i o ho;simp only[ho]at hh;split
  ·rename_i hw;simp only[hw,if_true]at hh;refine⟨fun f _=>hF.fn f,?_⟩;rw[Oper.semAt_eq _ _ _ (noDefer_spec hnd ho)];unfold Oper.still at hh;generalize(execOp a.eval o).run P w=r at*;cases r with
   |ok x w'=>
    cases x<;>simp only[Oper.stillUpon,Oper.uponIn]at hh ⊢
    ·obtain⟨rfl,hh⟩:=hh;exact h _ hh
    ·obtain⟨rfl,hh⟩:=hh;exact h _ hh
    ·obtain⟨rfl,v,hc,hh⟩:=hh;refine⟨fun hd=>(by rw[hF.depth]at hd;cases hd),hF.calls _ _ _ _ _ _ (hc.mono ?_)⟩;rintro e w'' ⟨rfl,rfl⟩;exact h _ hh
   |halt x w'=>exact hh.elim
  ·rename_i hw;simp only[hw]at hh;exact⟨fun f _=>hF.fn f,h _ hh⟩
theorem z174(hF:Open F)(hnd:noDefer ops=true){m g:Nat}{L:Array Bool→Act→Prop}{Q':Exit→Act→World→Prop}(hL:∀listed a,L listed a→wpAnyIn F n P md ops Q' g listed a w):
  ∀(f:Nat) (listed:Array Bool) (a:Act),wpAnyL P md ops w m L f listed a→wpAnyIn F n P md ops Q' (f+g) listed a w
 |0,listed,a,h=>by rw[Nat.zero_add];exact hL _ _ h
 |f+1,listed,a,h=>by
  rw[show f+1+g=(f+g)+1 by omega];exact⟨fun h0=>absurd h0 h.1,fun i hi=>wpOpIn_of_stOp hF hnd (fun a' h'=>z174 hF hnd hL f _ a' h') (h.2 i hi).2⟩
theorem z177{Q':Exit→Act→World→Prop}:∀(l:List Oper) (k:Nat) (listed:Array Bool) (a:Act) (w:World),(∀j,l[j]?=ops[k+j]?)→
  Region.seqB md ops l.length k listed=true→wpListIn F n P ops Q' l a w→wpAnyIn F n P md ops Q' l.length listed a w
 |[],_,_,_,_,_,hB,h=>⟨by simpa [Region.seqB]using hB,h⟩
 |o::l,k,listed,a,w,hl,hB,h=>by
  have h0:ops[k]?=some o:=by simpa using(hl 0).symm
  simp only[List.length_cons,Region.seqB,Bool.and_eq_true,decide_eq_true_eq]at hB;refine⟨fun h1=>(by rw[hB.1]at h1;cases h1),fun i hi=> ?_⟩;rw[hB.1]at hi;have hik:i=k:=by simpa using hi
  subst hik;have hw:wpOpIn F n P ops Q' i (wpListIn F n P ops Q' l) a w:=by unfold wpOpIn;simp only[h0];exact h
  exact wpOpIn_mono (fun a' w' h'=>z177 l (i+1) _ a' w' (fun j=>by have:=hl (j+1);simpa [Nat.add_assoc,Nat.add_comm 1 j]using this) hB.2 h') hw
theorem z92{id:Nat}{Q:Exit→Act→World→Prop}{a:Act}{w:World}{l:List Oper}(hF:Open F)(m:Nat)(hm:P.follows .mixedOrders=true)(hB:(Region.lexTailB .any l.toArray m&&noDefer l.toArray)=true)
  (h:wpStill P l.toArray w.drew (fun a'=>wpListIn F n P l.toArray Q (l.drop m) a' w.drew) (l.take m) a):(Code.region id l.toArray true).wpIn F n P Q a w:=by
 rw[Bool.and_eq_true]at hB;obtain⟨hB,hnd⟩:=hB;simp only[Region.lexTailB,Bool.and_eq_true,decide_eq_true_eq]at hB;obtain⟨⟨⟨⟨hsel,hn⟩,hs⟩,hc⟩,hlex⟩:=hB;have hn':m<l.length:=by simpa using hn
 have htl:(l.take m).length=m:=by simp;omega
 have hdl:(l.drop m).length=l.toArray.size-m:=by simp
 have inv0:HeadInv .any l.toArray m (Array.replicate l.toArray.size false):=
  ⟨by simp,fun j oj _ hl=>(by rw[getD_replicate_false]at hl;cases hl),fun t _ ht=>getD_in (by simpa using ht) (getD_replicate_false _ _)⟩
 have H:=wpAnyL_lex (md:=.any) (g:=l.toArray.size-m) hsel hs hc hn (l.take m) 0 _ a (fun j hj=>by
  have hj':j<m:=by rw[htl]at hj;exact hj
  simp[hj']) (by simpa using htl) inv0 (by rw[htl];exact hlex) h
 refine wpIn_region_any hm ?_;have:=z174 (n:=n) hF hnd (Q':=Q) (g:=l.toArray.size-m) (fun listed a' hL=>by
  have:=z177 (F:=F) (n:=n) (P:=P) (md:=.any) (Q':=Q) (l.drop m) m listed a' w.drew (fun j=>by simp[List.getElem?_drop]) (by rw[hdl];exact hL.1) hL.2
  rwa [hdl]at this) _ _ _ H
 rw[htl,show m+(l.toArray.size-m)=l.toArray.size by omega]at this;exact this
theorem z39{id:Nat}{Q:Exit→Act→World→Prop}{a:Act}{w:World}{l:List Oper}(m:Nat)(hm:P.follows .mixedOrders=true)(hB:Region.lexTailB .any l.toArray m=true)
  (h:wpStill P l.toArray w.drew (fun a'=>wpList P l.toArray Q (l.drop m) a' w.drew) (l.take m) a):(Code.region id l.toArray true).wp P Q a w:=wp_region_still_tail m hm hB h
end
end Go.Mor
end

section
namespace Go.Proofs.YtcpaleaajdilgaaGreatDoor
open Go Go.RowKit Go.Mor Go.Sh
structure GlobE(w:World):Prop where
 sy:∃t p,w.cell? ⟨6,0,none⟩=some (.iface t p)
 rg:∃t p,w.cell? ⟨7,0,none⟩=some (.iface t p)
theorem globE_st{w w':World}{n:Nat}(hv:10≤n)(h:GlobE w)(hk:∀k,k<n→w'.heap[k]?=w.heap[k]?):GlobE w':=by
 obtain⟨⟨t,p,h1⟩,⟨t',p',h2⟩⟩:=h;exact⟨⟨t,p,by rw[World.cell?_of_block (w:=w) (hk _ (show 6<n by omega))];exact h1⟩,⟨t',p',by rw[World.cell?_of_block (w:=w) (hk _ (show 7<n by omega))];exact h2⟩⟩
structure GlobNE(n:Nat)(w:World):Prop extends GlobNT n w where
 e:GlobE w
def glE(n:Nat):Sh.Glob where
 G:=GlobNE n
 n:=n
 st:=fun w w' h hk=>⟨(glT n).st w w' h.toGlobNT hk,globE_st h.hv h.e hk⟩
 le:=fun w h=>h.sz
theorem sc_TE{m f:Nat}{xs:List TV}{os:List MO}{y:TV}{os':List MO}(h:SCalls Tryz.prog (glT m) f xs os y os'):SCalls Tryz.prog (glE m) f xs os y os':=
 sc_of (g:=glT m) (g':=glE m) rfl (fun w (hG:GlobNE m w)=>hG.toGlobNT) h
theorem sc_0E{m f:Nat}{xs:List TV}{os:List MO}{y:TV}{os':List MO}(h:SCalls Tryz.prog (gl0 m) f xs os y os'):SCalls Tryz.prog (glE m) f xs os y os':=sc_TE (sc_0T h)
end Go.Proofs.YtcpaleaajdilgaaGreatDoor
end

section
namespace Go.Sh.Cd6
open Go Go.Sh
set_option maxRecDepth 100000
abbrev c_99_0:=kV [1,2] [kO 1 0,oD 2 (.new [(.string ⟨#[]⟩),(.slice none 0 0)])] [0]
abbrev c_99_1:=kR [oD 10 (.bsl 1 [.val (.string ⟨#[97]⟩),.val (.string ⟨#[98,50]⟩),.val (.string ⟨#[110,97,109,101]⟩),.val (.string ⟨#[110,101,120,116,95,111,110,101]⟩),.val (.string ⟨#[107,105,100,115]⟩),.val (.string ⟨#[120]⟩)]),oM 3 10] [10]
abbrev c_99_2:=kV [2056,2057,2058,2059,4] [oD 11 (.bsl 1 [.val (.string ⟨#[110,111,100,101]⟩),.val (.string ⟨#[105,116,101,109]⟩),.val (.string ⟨#[117,115,101,114]⟩),.val (.string ⟨#[112,97,103,101,95,49]⟩),.val (.string ⟨#[108,101,97,102]⟩),.val (.string ⟨#[113]⟩)]),kA 12 0 1,oL 13 false 1 12,oD 14 (.call 45 0 [.tmp 13,vI 6]),kX 15 1 11 14,oL 16 false 1 15,oD 17 (.build [(.string ⟨#[]⟩),(.slice none 0 0)] [(0,1,(.tmp 16))]),oD 4 (.new [(.string ⟨#[]⟩),(.slice none 0 0)]),kS 2 4 17] [11,12,13,14,15,16,17]
abbrev c_99_3:=kR [kI 5 0] []
abbrev c_99_4:=kR [oM 18 5,kA 19 1 1,oL 20 false 1 19,kZ 21 20,kB 22 .lss 3 18 21,oM 23 22,oH 24 23 true 5,kG 25 23 true .lss 3 24 6,oP 26 23 25 false] [18,19,20,21,22,23,24,25]
abbrev c_99_5:=kV [6] [kA 29 1 1,oL 30 false 1 29,oM 31 5,kX 32 4 30 31,oL 33 true 4 32,oD 6 (.new [(.int .i64 0),(.int .i64 0),(.int .i64 0),(.bool false)]),kS 4 6 33] [26,29,30,31,32,33]
abbrev c_99_6:=kV [2148,2149,2150,2151,2168,2169,2170,2171,7] [oM 34 3,kA 35 0 6,oL 36 false 1 35,oD 37 (.call 45 0 [.tmp 36,vI 6]),kX 38 1 34 37,oL 39 false 1 38,kA 40 1 6,oL 41 false 1 40,oD 42 (.call 45 0 [.tmp 41,vI 5]),oD 43 (.bin .add 3 (vI 1) (.tmp 42)),oD 44 (.build [(.int .i64 0),(.int .i64 0)] [(0,1,(.tmp 43))]),oD 45 (.build [(.string ⟨#[]⟩),(.int .i64 0),(.int .i64 0),(.bool false)] [(0,1,(.tmp 39)),(1,2,(.tmp 44))]),oD 7 (.new [(.string ⟨#[]⟩),(.int .i64 0),(.int .i64 0),(.bool false)]),kS 4 7 45] [34,35,36,37,38,39,40,41,42,43,44,45]
abbrev c_99_7:=kR [kA 46 1 7,kA 47 0 46,oL 48 false 1 47,kK 49 .eql 3 48 5] [46,47,48]
abbrev c_99_8:=kV [2208,2209,2210,2211] [kA 50 2 6,oL 51 false 1 50,oD 52 (.call 45 0 [.tmp 51,vI 4]),oD 53 (.bin .add 3 (vI 1) (.tmp 52)),kA 54 1 7,kA 55 1 54,kS 1 55 53] [49,50,51,52,53,54,55]
abbrev c_99_9:=kR [kA 56 3 6,oL 57 false 1 56,oM 58 57,kF 59 58 true 1 7,kF 60 58 true 0 59,kL 61 58 true false 1 60,kG 62 58 true .leq 3 61 3,oP 63 58 62 false,kA 64 3 7,kS 1 64 63] [6,49,56,57,58,59,60,61,62,63,64]
abbrev c_99_10:=kV [2276,2277,2278,2279] [oL 66 true 2 4,kA 67 0 7,oL 68 false 1 67,kD 69 46 0 66 68,oM 65 69,kY 70 65 0,kY 71 65 1,oM 8 70,oM 9 71] [8,65,66,67,68,69,70,71]
abbrev c_99_11:=kR [oM 72 9,kN 73 72] [9,72]
abbrev c_99_12:SCode:=.reg [([],[kA 74 1 4,oL 75 false 1 74,oL 76 true 4 7,oD 77 (.bsl 4 [.tmp 76]),oD 78 (.app 55 4 40 (.tmp 75) (.tmp 77)),kA 79 1 4,kS 1 79 78]),([78],[kA 74 1 4,oL 75 false 1 74,oL 76 true 4 7,oD 77 (.bsl 4 [.tmp 76]),oD 78 (.appN 55 4 40 (.tmp 75) (.tmp 77)),kA 79 1 4,kS 1 79 78])] [7,73,74,75,76,77,78,79]
abbrev c_99_13:=kR [oM 27 5,kK 28 .add 3 27 1,oM 5 28] [7,27,28,73]
abbrev c_99_14:SCode:=(.seq (.seq c_99_4 (.cond (.tmp 26) .skip (.exit 0))) (.seq (.block 1 (.seq c_99_5 (.seq c_99_6 (.seq (.seq c_99_7 (.cond (.tmp 49) c_99_8 .skip)) (.seq c_99_9 (.seq c_99_10 (.seq c_99_11 (.cond (.tmp 73) c_99_12 .skip)))))))) c_99_13))
abbrev c_99_15:=kR [oL 80 true 2 4,kS 2 2 80] [1,3,4,5,80]
abbrev F_99:SFunc:=⟨81,(.seq c_99_0 (.seq c_99_1 (.seq c_99_2 (.seq (.seq c_99_3 (.block 0 (.loop c_99_14))) (.seq c_99_15 .ret))))),[.cell true 2 2],false⟩
theorem tf_99:z6 Go.Proofs.Tryz.prog 12 (hintT [(10,0),(11,0),(14,0),(37,0),(42,0),(52,0),(69,0),(77,0)]) (fpT []) (killT [(0,[0]),(1,[10]),(2,[11,12,13,14,15,16,17]),(4,[18,19,20,21,22,23,24,25]),(6,[26,29,30,31,32,33]),(7,[34,35,36,37,38,39,40,41,42,43,44,45]),(8,[46,47,48]),(9,[49,50,51,52,53,54,55]),(10,[6,49,56,57,58,59,60,61,62,63,64]),(11,[8,65,66,67,68,69,70,71]),(12,[9,72]),(13,[7,73,74,75,76,77,78,79]),(5,[7,27,28,73]),(14,[1,3,4,5,80])]) false=some F_99:=by kernel_rfl
abbrev c_101_0:=kV [3] [kO 3 0,oD 6 (.mov (.val (.slice none 0 0)))] [0,6]
abbrev c_101_1:=kR [oD 7 (.mov (.val (.slice none 0 0)))] []
abbrev c_101_2:=kR [kI 8 0] []
abbrev c_101_3:=kR [oM 10 8,kA 11 1 3,oL 12 false 1 11,kZ 13 12,kB 14 .lss 3 10 13] [10,11,12,13]
abbrev c_101_4:=kR [oM 17 8,oM 9 17] [14,17]
abbrev c_101_5:=kR [oM 18 1,kZ 19 18,kK 20 .gtr 3 19 0] [18,19]
abbrev c_101_6:=kR [oM 21 1,oM 22 8,oM 23 1,kZ 24 23,kB 25 .rem 3 22 24,kX 26 1 21 25,oL 27 false 1 26,oM 28 8,kB 29 .add 3 27 28,oM 9 29] [20,21,22,23,24,25,26,27,28,29]
abbrev c_101_7:SCode:=.reg [([2156,2157,2158,2159],[oM 30 7,kA 31 1 3,oL 32 false 1 31,oM 33 8,kX 34 4 32 33,kA 35 1 34,oL 36 true 2 35,oM 37 9,oM 38 2,kE 39 47 0 36 37 38,oD 40 (.bsl 4 [.tmp 39]),oD 41 (.app 37 4 56 (.tmp 30) (.tmp 40)),oM 7 41]),([2156,2157,2158,2159,41],[oM 30 7,kA 31 1 3,oL 32 false 1 31,oM 33 8,kX 34 4 32 33,kA 35 1 34,oL 36 true 2 35,oM 37 9,oM 38 2,kE 39 47 0 36 37 38,oD 40 (.bsl 4 [.tmp 39]),oD 41 (.appN 37 4 56 (.tmp 30) (.tmp 40)),oM 7 41])] [9,20,30,31,32,33,34,35,36,37,38,39,40,41]
abbrev c_101_8:=kR [oM 15 8,kK 16 .add 3 15 1,oM 8 16] [15,16]
abbrev c_101_9:SCode:=(.seq (.seq c_101_3 (.cond (.tmp 14) .skip (.exit 0))) (.seq (.block 1 (.seq c_101_4 (.seq (.seq c_101_5 (.cond (.tmp 20) c_101_6 .skip)) c_101_7))) c_101_8))
abbrev c_101_10:=kR [oM 42 7,oM 6 42] [1,2,3,7,8,42]
abbrev F_101:SFunc:=⟨43,(.seq c_101_0 (.seq c_101_1 (.seq (.seq c_101_2 (.block 0 (.loop c_101_9))) (.seq c_101_10 .ret)))),[.tmp 6],false⟩
theorem tf_101:z6 Go.Proofs.Tryz.prog 13 (hintT [(39,0),(40,0)]) (fpT []) (killT [(0,[0,6]),(3,[10,11,12,13]),(5,[14,17]),(6,[18,19]),(7,[20,21,22,23,24,25,26,27,28,29]),(8,[9,20,30,31,32,33,34,35,36,37,38,39,40,41]),(4,[15,16]),(9,[1,2,3,7,8,42])]) false=some F_101:=by kernel_rfl
abbrev c_46_0:=kV [2] [kO 2 0,kI 4 0,kI 5 0] [0,4,5]
abbrev c_46_1:=kV [2036,2037,2038,2039] [oL 8 true 2 2,kC 9 33 0 8,kN 10 9] [8,9]
abbrev c_46_2:=kR [kI 4 0,kI 5 40] [1,2,10]
abbrev c_46_3:=kR [oM 11 1,kZ 12 11,kA 13 1 2,oL 14 false 1 13,kZ 15 14,kB 16 .neq 3 12 15] [4,5,10,11,12,13,14,15]
abbrev c_46_4:=kR [oM 17 1,kZ 18 17,kA 19 1 2,oL 20 false 1 19,kZ 21 20,oD 22 (.imm false (.tmp 18) (.tmp 21)),oM 4 22,kI 5 42] [1,2,16,17,18,19,20,21,22]
abbrev c_46_5:=kR [kA 23 1 2,oL 24 false 1 23,kZ 25 24,kI 26 0] [2,4,5,16,23]
abbrev c_46_6:=kR [kB 27 .lss 3 26 25] []
abbrev c_46_7:=kV [7] [oM 28 26,kX 29 4 24 26,oL 30 true 4 29,oD 7 (.new [(.string ⟨#[]⟩),(.int .i64 0),(.int .i64 0),(.bool false)]),oM 6 28,kS 4 7 30] [27,28,29,30]
abbrev c_46_8:=kV [2148,2149,2150,2151] [oM 31 1,oM 32 6,kX 33 4 31 32,oL 34 true 4 33,kA 35 1 7,oL 36 true 2 35,kD 37 56 0 34 36,kN 38 37] [7,31,32,33,34,35,36,37]
abbrev c_46_9:=kR [oM 39 6,oM 4 39,kI 5 42] [1,6,24,25,26,38,39]
abbrev c_46_10:=kR [kK 40 .add 3 26 1,oM 26 40] [4,5,6,38,40]
abbrev c_46_11:SCode:=(.seq c_46_6 (.seq (.cond (.tmp 27) .skip (.exit 0)) (.seq (.block 1 (.seq c_46_7 (.seq c_46_8 (.cond (.tmp 38) (.seq c_46_9 .ret) .skip)))) c_46_10)))
abbrev c_46_12:=kR [kI 4 0,kI 5 0] [1,24,25,26]
abbrev F_46:SFunc:=⟨41,(.seq c_46_0 (.seq (.seq c_46_1 (.cond (.tmp 10) (.seq c_46_2 .ret) .skip)) (.seq (.seq c_46_3 (.cond (.tmp 16) (.seq c_46_4 .ret) .skip)) (.seq (.seq c_46_5 (.block 0 (.loop c_46_11))) (.seq c_46_12 .ret))))),[.tmp 4,.tmp 5],false⟩
theorem tf_46:kU 19 [(9,0),(37,0)] [] F_46:=by unfold kU;kernel_rfl
abbrev c_49_0:=kV [1] [kO 1 0,kT 2 false] [0,2]
abbrev c_49_1:=kV [2036,2037,2038,2039] [kA 7 0 1,oL 8 false 1 7,kC 9 69 0 8,kN 10 9,oM 11 10,kF 12 11 false 1 1,kL 13 11 false false 1 12,oG 14 11 false (.len (.tmp 13)),kG 15 11 false .gtr 3 14 8,oQ 16 11 15 true] [7,8,9,10,11,12,13,14,15]
abbrev c_49_2:=kR [kT 2 false] [1,16]
abbrev c_49_3:=kR [kA 17 1 1,oL 18 false 1 17,kZ 19 18,kI 20 0] [2,16,17]
abbrev c_49_4:=kR [kB 21 .lss 3 20 19] []
abbrev c_49_5:=kV [4] [oM 22 20,kX 23 4 18 20,oL 24 true 4 23,oD 4 (.new [(.string ⟨#[]⟩),(.int .i64 0),(.int .i64 0),(.bool false)]),oM 3 22,kS 4 4 24] [21,22,23,24]
abbrev c_49_6:=kV [2104,2105,2106,2107] [oL 25 true 4 4,kC 26 70 0 25,kN 27 26] [25,26]
abbrev c_49_7:=kR [kT 2 false] [1,3,4,18,19,20,27]
abbrev c_49_8:=kV [2128,2129,2130,2131] [oL 29 true 2 1,kA 30 0 4,oL 31 false 1 30,kD 32 34 0 29 31,oM 28 32,kY 33 28 0,kY 34 28 1,oM 5 33,oM 6 34] [2,4,6,27,28,29,30,31,32,33,34]
abbrev c_49_9:=kR [oM 35 5,oM 36 3,kB 37 .neq 3 35 36] [3,5,35,36]
abbrev c_49_10:=kR [kT 2 false] [1,18,19,20,37]
abbrev c_49_11:=kR [kK 38 .add 3 20 1,oM 20 38] [2,37,38]
abbrev c_49_12:SCode:=(.seq c_49_4 (.seq (.cond (.tmp 21) .skip (.exit 0)) (.seq (.block 1 (.seq c_49_5 (.seq (.seq c_49_6 (.cond (.tmp 27) (.seq c_49_7 .ret) .skip)) (.seq c_49_8 (.seq c_49_9 (.cond (.tmp 37) (.seq c_49_10 .ret) .skip)))))) c_49_11)))
abbrev c_49_13:=kR [kT 2 true] [1,18,19,20]
abbrev F_49:SFunc:=⟨39,(.seq c_49_0 (.seq (.seq c_49_1 (.cond (.tmp 16) (.seq c_49_2 .ret) .skip)) (.seq (.seq c_49_3 (.block 0 (.loop c_49_12))) (.seq c_49_13 .ret)))),[.tmp 2],false⟩
theorem tf_49:kU 33 [(9,0),(26,0),(32,0)] [] F_49:=by unfold kU;kernel_rfl
abbrev c_47_0:=kV [2,3] [kO 2 0,kO 3 1,kI 4 0,kT 5 false] [0,1,4,5]
abbrev c_47_1:=kV [2040,2041,2042,2043] [kA 7 1 2,oL 8 false 1 7,oD 9 (.mkf (.func 72) [] [.tmp 3]),kD 10 71 1 8 9,oM 6 10] [2,3,7,8,9,10]
abbrev c_47_2:=kR [oM 11 6,kK 12 .lss 3 11 0] [11]
abbrev c_47_3:=kR [kI 4 0,kT 5 false] [6,12]
abbrev c_47_4:=kR [oM 13 6,oM 4 13,kT 5 true] [6,12,13]
abbrev F_47:SFunc:=⟨14,(.seq c_47_0 (.seq c_47_1 (.seq (.seq c_47_2 (.cond (.tmp 12) (.seq c_47_3 .ret) .skip)) (.seq c_47_4 .ret)))),[.tmp 4,.tmp 5],false⟩
theorem tf_47:kU 34 [(10,1)] [] F_47:=by unfold kU;kernel_rfl
abbrev c_59_0:=kV [3,4,6] [kO 3 0,kO 4 1,oD 6 (.new zV),kI 7 0] [0,1,7]
abbrev c_59_1:=kV [2064,2065,2066,2067,8] [oL 14 true 4 3,oL 15 true 2 4,kD 16 78 0 14 15,oM 13 16,kY 17 13 0,kY 18 13 1,oD 8 (.new [(.int .i64 0),(.int .i64 0)]),kS 2 8 17,oM 9 18] [8,13,14,15,16,17,18]
abbrev c_59_2:=kR [oM 19 9,kK 20 .neq 33 19 0] [19]
abbrev c_59_3:=kR [oD 21 (.build zV []),oM 22 9,kS 4 6 21,oM 7 22] [2,3,4,9,20,21,22]
abbrev c_59_4:=kV [2104,2105,2106,2107] [oL 24 true 2 4,oM 25 2,kD 26 19 0 24 25,oM 23 26,kY 27 23 0,kY 28 23 1,oM 10 27,oM 11 28] [7,9,10,20,23,24,25,26,27,28]
abbrev c_59_5:=kR [oM 29 11,kK 30 .neq 33 29 0] [29]
abbrev c_59_6:=kR [oD 31 (.build zV []),oM 32 11,kS 4 6 31,oM 7 32] [2,3,4,11,30,31,32]
abbrev c_59_7:=kV [2140,2141,2142,2143,12] [oL 33 true 2 4,oM 34 2,oD 35 (.call 79 0 []),oD 36 (.build [(.string ⟨#[]⟩),(.slice none 0 0),(.slice none 0 0),(.map none)] [(0,2,(.tmp 33)),(2,1,(.tmp 34)),(3,1,(.tmp 35))]),oD 12 (.new [(.string ⟨#[]⟩),(.slice none 0 0),(.slice none 0 0),(.map none)]),kS 4 12 36] [2,4,7,11,30,33,34,35,36]
abbrev c_59_8:=kV [2152,2153,2154,2155] [oL 37 true 4 3,kD 38 80 1 12 37,kS 4 6 38,kI 7 0] [3,12,37,38]
abbrev F_59:SFunc:=⟨39,(.seq c_59_0 (.seq (.seq c_59_1 (.seq c_59_2 (.cond (.tmp 20) (.seq c_59_3 .ret) .skip))) (.seq (.seq c_59_4 (.seq c_59_5 (.cond (.tmp 30) (.seq c_59_6 .ret) .skip))) (.seq c_59_7 (.seq c_59_8 .ret))))),[.cell true 4 6,.tmp 7],false⟩
theorem tf_59:kU 37 [(16,0),(26,0),(35,0),(38,1)] [] F_59:=by unfold kU;kernel_rfl
abbrev c_50_0:=kV [1] [kO 1 0,kT 2 false] [0,2]
abbrev c_50_1:=kR [kA 3 0 1,oL 4 false 1 3,kK 5 .eql 3 4 5] [3,4]
abbrev c_50_2:=kR [kA 6 1 1,oL 7 false 1 6,kK 8 .geq 3 7 1,oM 9 8,kF 10 9 true 1 1,kL 11 9 true false 1 10,kG 12 9 true .leq 3 11 4,oP 13 9 12 false,oM 2 13] [1,5,6,7,8,9,10,11,12,13]
abbrev c_50_3:=kR [kA 14 0 1,oL 15 false 1 14,kK 16 .geq 3 15 1,oM 17 16,kF 18 17 true 0 1,kL 19 17 true false 1 18,kG 20 17 true .leq 3 19 4,oP 21 17 20 false,oM 22 21,kF 23 22 true 1 1,kL 24 22 true false 1 23,kG 25 22 true .eql 3 24 0,oP 26 22 25 false,oM 2 26] [1,5,14,15,16,17,18,19,20,21,22,23,24,25,26]
abbrev F_50:SFunc:=⟨27,(.seq c_50_0 (.seq (.seq c_50_1 (.cond (.tmp 5) (.seq c_50_2 .ret) .skip)) (.seq c_50_3 .ret))),[.tmp 2],false⟩
theorem tf_50:kU 44 [] [] F_50:=by unfold kU;kernel_rfl
abbrev c_102_0:=kR [kI 4 0] [4]
abbrev c_102_1:=kR [oM 5 0,kK 6 .lss 3 5 0] [5]
abbrev c_102_2:=kR [oM 7 0,kK 8 .add 3 7 1,oD 9 (.un .neg (.tmp 8)),oM 0 9] [6,7,8,9]
abbrev c_102_3:=kR [oM 10 0,oM 11 1,kB 12 .rem 3 10 11,oM 4 12] [0,1,6,10,11,12]
abbrev F_102:SFunc:=⟨13,(.seq c_102_0 (.seq (.seq c_102_1 (.cond (.tmp 6) c_102_2 .skip)) (.seq c_102_3 .ret))),[.tmp 4],false⟩
theorem tf_102:kU 45 [] [] F_102:=by unfold kU;kernel_rfl
abbrev c_108_0:=kV [2] [kO 2 0,kI 4 0,kT 5 false] [0,4,5]
abbrev c_108_1:=kR [kI 6 0] []
abbrev c_108_2:=kR [oM 7 6,kA 8 1 2,oL 9 false 1 8,kZ 10 9,kB 11 .lss 3 7 10] [7,8,9,10]
abbrev c_108_3:=kR [kA 14 1 2,oL 15 false 1 14,oM 16 6,kX 17 4 15 16,kA 18 0 17,oL 19 false 1 18,oM 20 1,kB 21 .eql 9 19 20] [11,14,15,16,17,18,19,20]
abbrev c_108_4:=kR [oM 22 6,oM 4 22,kT 5 true] [1,2,6,21,22]
abbrev c_108_5:=kR [oM 12 6,kK 13 .add 3 12 1,oM 6 13] [4,5,12,13,21]
abbrev c_108_6:SCode:=(.seq (.seq c_108_2 (.cond (.tmp 11) .skip (.exit 0))) (.seq (.block 1 (.seq c_108_3 (.cond (.tmp 21) (.seq c_108_4 .ret) .skip))) c_108_5))
abbrev c_108_7:=kR [kI 4 0,kT 5 false] [1,2,6]
abbrev F_108:SFunc:=⟨23,(.seq c_108_0 (.seq (.seq c_108_1 (.block 0 (.loop c_108_6))) (.seq c_108_7 .ret))),[.tmp 4,.tmp 5],false⟩
theorem tf_108:z6 Go.Proofs.Tryz.prog 46 (hintT []) (fpT []) (killT [(0,[0,4,5]),(2,[7,8,9,10]),(4,[11,14,15,16,17,18,19,20]),(5,[1,2,6,21,22]),(3,[4,5,12,13,21]),(6,[1,2,6])]) false=some F_108:=by kernel_rfl
abbrev c_100_0:=kV [3,6] [kO 3 0,oD 6 (.new zV)] [0]
abbrev c_100_1:=kR [oD 10 (.bsl 1 [.val (.string ⟨#[]⟩),.val (.string ⟨#[97]⟩),.val (.string ⟨#[98,99]⟩),.val (.string ⟨#[195,169,116,195,169]⟩),.val (.string ⟨#[97,32,98]⟩),.val (.string ⟨#[122,122,32,116,111,112]⟩),.val (.string ⟨#[48]⟩),.val (.string ⟨#[45,55]⟩)]),oM 7 10] [10]
abbrev c_100_2:=kR [kA 11 0 3,oL 12 false 1 11] [11]
abbrev c_100_3:=kR [kK 14 .eql 3 12 1,oM 13 14] [14]
abbrev c_100_4:=kV [2064,2065,2066,2067] [oM 15 1,oD 16 (.call 45 0 [.tmp 15,vI 41]),kK 17 .sub 3 16 20,oD 18 (.build zV [(0,1,(vI 1)),(1,1,(.tmp 17))]),kS 4 6 18] [1,2,3,7,12,13,15,16,17,18]
abbrev c_100_5:=kR [kK 20 .eql 3 12 2,oM 19 20] [13,20]
abbrev c_100_6:=kV [2092,2093,2094,2095] [oM 21 7,oM 22 1,oD 23 (.call 45 0 [.tmp 22,vI 8]),kX 24 1 21 23,oL 25 false 1 24,oD 26 (.build zV [(0,1,(vI 2)),(2,1,(.tmp 25))]),kS 4 6 26] [1,2,3,7,12,19,21,22,23,24,25,26]
abbrev c_100_7:=kR [kK 28 .eql 3 12 3,oM 27 28] [7,19,28]
abbrev c_100_8:=kR [kK 29 .eql 3 12 4,oM 27 29] [12,29]
abbrev c_100_9:=kV [2136,2137,2138,2139] [oM 30 2,kK 31 .lss 3 30 1,oM 32 31,oH 33 32 false 1,oG 34 32 false (.call 45 0 [.tmp 33,vI 5]),kG 35 32 false .eql 3 34 4,oQ 36 32 35 true] [12,27,30,31,32,33,34,35]
abbrev c_100_10:=kR [oD 37 (.build zV []),kS 4 6 37] [1,2,3,36,37]
abbrev c_100_11:=kV [2168,2169,2170,2171] [kA 38 0 3,oL 39 false 1 38,oM 40 1,oM 41 2,kD 42 45 0 40 41,oD 43 (.bin .add 3 (vI 1) (.tmp 42)),oD 44 (.build zV [(0,1,(.tmp 39)),(1,1,(.tmp 43))]),kS 4 6 44] [1,2,3,36,38,39,40,41,42,43,44]
abbrev c_100_12:=kV [8] [oD 45 (.build zV [(0,1,(vI 5))]),oD 8 (.new zV),kS 4 8 45] [12,27,45]
abbrev c_100_13:=kR [kI 9 0] []
abbrev c_100_14:=kV [2192,2193,2194,2195] [oM 46 9,oM 47 1,oD 48 (.call 45 0 [.tmp 47,vI 4]),kB 49 .lss 3 46 48] [46,47,48]
abbrev c_100_15:SCode:=.reg [([2248,2249,2250,2251],[kA 52 3 8,oL 53 false 1 52,kA 54 1 3,oL 55 false 1 54,oD 56 (.build [(.int .i64 0),(.int .i64 0)] [(0,1,(.tmp 55))]),oM 57 1,kK 58 .quo 3 57 4,oM 59 9,kB 60 .add 3 58 59,oM 61 2,kE 62 47 0 56 60 61,oD 63 (.bsl 4 [.tmp 62]),oD 64 (.app 37 4 56 (.tmp 53) (.tmp 63)),kA 65 3 8,kS 1 65 64]),([2248,2249,2250,2251,64],[kA 52 3 8,oL 53 false 1 52,kA 54 1 3,oL 55 false 1 54,oD 56 (.build [(.int .i64 0),(.int .i64 0)] [(0,1,(.tmp 55))]),oM 57 1,kK 58 .quo 3 57 4,oM 59 9,kB 60 .add 3 58 59,oM 61 2,kE 62 47 0 56 60 61,oD 63 (.bsl 4 [.tmp 62]),oD 64 (.appN 37 4 56 (.tmp 53) (.tmp 63)),kA 65 3 8,kS 1 65 64])] [49,52,53,54,55,56,57,58,59,60,61,62,63,64,65]
abbrev c_100_16:=kR [oM 50 9,kK 51 .add 3 50 1,oM 9 51] [50,51]
abbrev c_100_17:SCode:=(.seq (.seq c_100_14 (.cond (.tmp 49) .skip (.exit 1))) (.seq (.block 2 c_100_15) c_100_16))
abbrev c_100_18:=kR [oL 66 true 4 8,kS 4 6 66] [1,2,3,8,9,66]
abbrev F_100:SFunc:=⟨67,(.seq c_100_0 (.seq c_100_1 (.seq (.seq c_100_2 (.block 0 (.seq c_100_3 (.cond (.tmp 13) (.seq c_100_4 .ret) (.seq c_100_5 (.cond (.tmp 19) (.seq c_100_6 .ret) (.seq (.seq c_100_7 (.cond (.tmp 27) .skip c_100_8)) (.cond (.tmp 27) (.seq (.seq c_100_9 (.cond (.tmp 36) (.seq c_100_10 .ret) .skip)) (.seq c_100_11 .ret)) .skip)))))))) (.seq c_100_12 (.seq (.seq c_100_13 (.block 1 (.loop c_100_17))) (.seq c_100_18 .ret)))))),[.cell true 4 6],false⟩
theorem tf_100:z6 Go.Proofs.Tryz.prog 47 (hintT [(10,0),(16,0),(23,0),(34,0),(42,0),(48,0),(62,0),(63,0)]) (fpT []) (killT [(0,[0]),(1,[10]),(2,[11]),(3,[14]),(4,[1,2,3,7,12,13,15,16,17,18]),(5,[13,20]),(6,[1,2,3,7,12,19,21,22,23,24,25,26]),(7,[7,19,28]),(8,[12,29]),(9,[12,27,30,31,32,33,34,35]),(10,[1,2,3,36,37]),(11,[1,2,3,36,38,39,40,41,42,43,44]),(12,[12,27,45]),(14,[46,47,48]),(16,[49,52,53,54,55,56,57,58,59,60,61,62,63,64,65]),(15,[50,51]),(17,[1,2,3,8,9,66])]) false=some F_100:=by kernel_rfl
abbrev c_52_0:=kV [1] [kO 1 0,kT 2 false] [0,2]
abbrev c_52_1:=kV [2020,2021,2022,2023,2040,2041,2042,2043] [kA 3 0 1,oL 4 false 1 3,kC 5 69 0 4,kN 6 5,oM 7 6,kF 8 7 false 1 1,kL 9 7 false true 2 8,oG 10 7 false (.call 44 0 [.tmp 9]),oG 11 7 false (.un .not (.tmp 10)),oQ 12 7 11 true] [3,4,5,6,7,8,9,10,11]
abbrev c_52_2:=kR [kT 2 false] [1,12]
abbrev c_52_3:=kR [kA 13 3 1,oL 14 false 1 13,kN 15 14,oM 16 15,kF 17 16 false 1 1,kF 18 16 false 0 17,kL 19 16 false false 1 18,kG 20 16 false .leq 3 19 3,oQ 21 16 20 true,oM 2 21] [1,12,13,14,15,16,17,18,19,20,21]
abbrev F_52:SFunc:=⟨22,(.seq c_52_0 (.seq (.seq c_52_1 (.cond (.tmp 12) (.seq c_52_2 .ret) .skip)) (.seq c_52_3 .ret))),[.tmp 2],false⟩
theorem tf_52:kU 70 [(5,0),(10,0)] [] F_52:=by unfold kU;kernel_rfl
abbrev c_115_0:=kR [kI 4 0] [4]
abbrev c_115_1:=kR [oM 6 0,kZ 7 6,kI 8 0] [6]
abbrev c_115_2:=kR [kB 9 .lss 3 8 7] []
abbrev c_115_3:=kR [oM 10 8,oM 5 10] [9,10]
abbrev c_115_4:=kV [2064,2065,2066,2067] [oM 11 1,oM 12 0,oM 13 5,kX 14 4 12 13,oL 15 true 4 14,oD 16 (.callv (.tmp 11) 1 [.tmp 15])] [11,12,13,14,15]
abbrev c_115_5:=kR [oM 17 5,oM 4 17] [0,1,5,7,8,16,17]
abbrev c_115_6:=kR [kK 18 .add 3 8 1,oM 8 18] [4,5,16,18]
abbrev c_115_7:SCode:=(.seq c_115_2 (.seq (.cond (.tmp 9) .skip (.exit 0)) (.seq (.block 1 (.seq c_115_3 (.seq c_115_4 (.cond (.tmp 16) (.seq c_115_5 .ret) .skip)))) c_115_6)))
abbrev c_115_8:=kR [oD 4 (.mov (.val (.int .i64 (-1))))] [0,1,7,8]
abbrev F_115:SFunc:=⟨19,(.seq c_115_0 (.seq (.seq c_115_1 (.block 0 (.loop c_115_7))) (.seq c_115_8 .ret))),[.tmp 4],false⟩
theorem tf_115:kU 71 [(16,1)] [] F_115:=by unfold kU;kernel_rfl
abbrev c_48_0:=kV [2] [kO 2 0,kT 3 false] [0,3]
abbrev c_48_1:=kR [kA 4 0 2,oL 5 false 1 4,oL 6 false 1 1,kB 7 .eql 9 5 6,oM 3 7] [1,2,4,5,6,7]
abbrev F_48:SFunc:=⟨8,(.seq c_48_0 (.seq c_48_1 .ret)),[.tmp 3],false⟩
theorem tf_48:kU 72 [] [] F_48:=by unfold kU;kernel_rfl
abbrev c_60_0:=kV [2,3,4] [kO 2 0,kO 3 1,oD 4 (.new [(.int .i64 0),(.int .i64 0)]),kI 5 0] [0,1,5]
abbrev c_60_1:=kV [2040,2041,2042,2043] [oL 9 true 4 2,kC 10 77 0 9,kN 11 10] [9,10]
abbrev c_60_2:=kR [oD 12 (.build [(.int .i64 0),(.int .i64 0)] []),kS 2 4 12,kI 5 50] [2,3,11,12]
abbrev c_60_3:=kV [2056,2057,2058,2059] [oL 13 true 2 3,kC 14 33 0 13,kN 15 14] [5,11,13,14]
abbrev c_60_4:=kR [oD 16 (.build [(.int .i64 0),(.int .i64 0)] []),kS 2 4 16,kI 5 40] [2,3,15,16]
abbrev c_60_5:=kV [2072,2073,2074,2075,6] [oL 17 true 2 3,oD 18 (.call 79 0 []),oD 19 (.build [(.string ⟨#[]⟩),(.slice none 0 0),(.slice none 0 0),(.map none)] [(0,2,(.tmp 17)),(3,1,(.tmp 18))]),oD 6 (.new [(.string ⟨#[]⟩),(.slice none 0 0),(.slice none 0 0),(.map none)]),kS 4 6 19] [3,5,15,17,18,19]
abbrev c_60_6:=kV [2088,2089,2090,2091,7] [oL 21 true 4 2,kD 22 135 1 6 21,oM 20 22,kY 23 20 0,kY 24 20 1,oD 7 (.new [(.int .i64 0),(.int .i64 0)]),kS 2 7 23,oM 8 24] [2,6,20,21,22,23,24]
abbrev c_60_7:=kR [oM 25 8,kN 26 25] [8,25]
abbrev c_60_8:=kR [oD 27 (.build [(.int .i64 0),(.int .i64 0)] []),kS 2 4 27,kI 5 60] [7,26,27]
abbrev c_60_9:=kR [oL 28 true 2 7,kS 2 4 28,kI 5 0] [7,26,28]
abbrev F_60:SFunc:=⟨29,(.seq c_60_0 (.seq (.seq c_60_1 (.cond (.tmp 11) (.seq c_60_2 .ret) .skip)) (.seq (.seq c_60_3 (.cond (.tmp 15) (.seq c_60_4 .ret) .skip)) (.seq c_60_5 (.seq c_60_6 (.seq (.seq c_60_7 (.cond (.tmp 26) (.seq c_60_8 .ret) .skip)) (.seq c_60_9 .ret))))))),[.cell true 2 4,.tmp 5],false⟩
theorem tf_60:kU 78 [(10,0),(14,0),(18,0),(22,1)] [] F_60:=by unfold kU;kernel_rfl
abbrev c_21_0:=kV [3,4] [kO 3 1,oD 4 (.new zV)] [1]
abbrev c_21_1:=kV [13] [kA 10 3 3,oL 11 false 1 10,kZ 12 11,oD 13 (.mks 56 zV (.tmp 12)),oM 5 13] [10,11,12,13]
abbrev c_21_2:=kR [kA 14 3 3,oL 15 false 1 14,kZ 16 15,kI 17 0] [14]
abbrev c_21_3:=kR [kB 18 .lss 3 17 16] []
abbrev c_21_4:=kV [7] [oM 19 17,kX 20 4 15 17,oL 21 true 4 20,oD 7 (.new zV),oM 6 19,kS 4 7 21] [18,19,20,21]
abbrev c_21_5:=kV [2104,2105,2106,2107] [oM 22 5,oM 23 6,oM 24 0,oL 25 true 4 7,kD 26 80 1 24 25,kX 27 4 22 23,kS 4 27 26] [6,7,22,23,24,25,26,27]
abbrev c_21_6:=kR [kK 28 .add 3 17 1,oM 17 28] [28]
abbrev c_21_7:SCode:=(.seq c_21_3 (.seq (.cond (.tmp 18) .skip (.exit 0)) (.seq (.block 1 (.seq c_21_4 c_21_5)) c_21_6)))
abbrev c_21_8:=kR [kA 29 0 3,oL 30 false 1 29] [15,16,17,29]
abbrev c_21_9:=kR [kK 32 .eql 3 30 2,oM 31 32] [32]
abbrev c_21_10:=kV [2140,2141,2142,2143] [kA 33 2 3,oL 34 false 1 33,kC 35 141 0 34,kS 4 4 35] [0,3,5,30,31,33,34,35]
abbrev c_21_11:=kR [kK 37 .eql 3 30 3,oM 36 37] [31,37]
abbrev c_21_12:=kV [2180,2181,2182,2183] [oM 39 0,kQ 40 39,kA 41 0 40,oL 42 true 2 41,kA 43 2 3,oL 44 false 1 43,kD 45 34 0 42 44,oM 38 45,kY 46 38 0,kY 47 38 1,oM 8 46,oM 9 47] [3,5,9,30,36,38,39,40,41,42,43,44,45,46,47]
abbrev c_21_13:=kV [2220,2221,2222,2223] [oM 48 0,kQ 49 48,kA 50 2 49,oL 51 false 1 50,oM 52 8,kX 53 4 51 52,oL 54 true 4 53,kC 55 154 0 54,kS 4 4 55] [0,8,48,49,50,51,52,53,54,55]
abbrev c_21_14:=kR [kK 57 .eql 3 30 4,oM 56 57] [36,57]
abbrev c_21_15:=kV [2264,2265,2266,2267] [kA 58 2 3,oL 59 false 1 58,oM 60 5,oD 61 (.idxA 4 (.tmp 60) (vI 0)),oL 62 true 4 61,oM 63 5,oD 64 (.idxA 4 (.tmp 63) (vI 1)),oL 65 true 4 64,kE 66 155 0 59 62 65,kS 4 4 66] [0,3,5,30,56,58,59,60,61,62,63,64,65,66]
abbrev c_21_16:=kR [kK 68 .eql 3 30 5,oM 67 68] [56,68]
abbrev c_21_17:=kV [2296,2297,2298,2299] [oM 69 5,oD 70 (.idxA 4 (.tmp 69) (vI 0)),kA 71 1 70,oL 72 false 1 71,oD 73 (.un .neg (.tmp 72)),kC 74 138 0 73,kS 4 4 74] [0,3,5,30,67,69,70,71,72,73,74]
abbrev c_21_18:=kR [kK 76 .eql 3 30 6,oM 75 76] [30,67,76]
abbrev c_21_19:=kV [2344,2345,2346,2347] [oM 77 0,kQ 78 77,kA 79 3 78,oL 80 false 1 79,kA 81 2 3,oL 82 false 1 81,oD 83 (.lkp true (.agg #[.nilFunc,.nilFunc]) (.tmp 80) (.tmp 82)),oD 84 (.fld false 1 1 (.tmp 83)),oM 85 5,oD 86 (.callv (.tmp 84) 1 [.tmp 85]),kS 4 4 86] [0,3,5,75,77,78,79,80,81,82,83,84,85,86]
abbrev c_21_20:=kV [2356,2357,2358,2359] [kA 87 1 3,oL 88 false 1 87,kC 89 138 0 88,kS 4 4 89] [0,3,5,75,87,88,89]
abbrev F_21:SFunc:=⟨90,(.seq c_21_0 (.seq c_21_1 (.seq (.seq c_21_2 (.block 0 (.loop c_21_7))) (.seq (.seq c_21_8 (.block 2 (.seq c_21_9 (.cond (.tmp 31) (.seq c_21_10 .ret) (.seq c_21_11 (.cond (.tmp 36) (.seq c_21_12 (.seq c_21_13 .ret)) (.seq c_21_14 (.cond (.tmp 56) (.seq c_21_15 .ret) (.seq c_21_16 (.cond (.tmp 67) (.seq c_21_17 .ret) (.seq c_21_18 (.cond (.tmp 75) (.seq c_21_19 .ret) .skip)))))))))))) (.seq c_21_20 .ret))))),[.cell true 4 4],false⟩
theorem tf_21:kU 80 [(26,1),(35,0),(45,0),(55,0),(66,0),(74,0),(86,1),(89,0)] [] F_21:=by unfold kU;kernel_rfl
abbrev c_20_0:=kV [3,4] [kO 3 1,oD 4 (.new [(.int .i64 0),(.int .i64 0)]),kT 5 false] [1,5]
abbrev c_20_1:=kV [16] [kA 13 3 3,oL 14 false 1 13,kZ 15 14,oD 16 (.mks 16 [(.int .i64 0),(.int .i64 0)] (.tmp 15)),oM 6 16] [13,14,15,16]
abbrev c_20_2:=kR [kA 17 3 3,oL 18 false 1 17,kZ 19 18,kI 20 0] [17]
abbrev c_20_3:=kR [kB 21 .lss 3 20 19] []
abbrev c_20_4:=kV [8] [oM 22 20,kX 23 4 18 20,oL 24 true 4 23,oD 8 (.new zV),oM 7 22,kS 4 8 24] [21,22,23,24]
abbrev c_20_5:=kV [2112,2113,2114,2115,9] [oM 26 0,oL 27 true 4 8,kD 28 135 1 26 27,oM 25 28,kY 29 25 0,kY 30 25 1,oD 9 (.new [(.int .i64 0),(.int .i64 0)]),kS 2 9 29,oM 10 30] [8,25,26,27,28,29,30]
abbrev c_20_6:=kR [oM 31 10,kN 32 31] [10,31]
abbrev c_20_7:=kR [oD 33 (.build [(.int .i64 0),(.int .i64 0)] []),kS 2 4 33,kT 5 false] [0,3,6,7,9,18,19,20,32,33]
abbrev c_20_8:=kR [oM 34 6,oM 35 7,oL 36 true 2 9,kX 37 2 34 35,kS 2 37 36] [5,7,9,32,34,35,36,37]
abbrev c_20_9:=kR [kK 38 .add 3 20 1,oM 20 38] [38]
abbrev c_20_10:SCode:=(.seq c_20_3 (.seq (.cond (.tmp 21) .skip (.exit 0)) (.seq (.block 1 (.seq c_20_4 (.seq c_20_5 (.seq (.seq c_20_6 (.cond (.tmp 32) (.seq c_20_7 .ret) .skip)) c_20_8)))) c_20_9)))
abbrev c_20_11:=kR [kA 39 0 3,oL 40 false 1 39] [18,19,20,39]
abbrev c_20_12:=kR [kK 42 .eql 3 40 2,oM 41 42] [42]
abbrev c_20_13:=kR [oD 43 (.build [(.int .i64 0),(.int .i64 0)] [(0,1,(vI 2))]),kS 2 4 43,kT 5 true] [0,3,6,40,41,43]
abbrev c_20_14:=kR [kK 45 .eql 3 40 3,oM 44 45] [41,45]
abbrev c_20_15:=kV [2212,2213,2214,2215] [oM 47 0,kQ 48 47,kA 49 0 48,oL 50 true 2 49,kA 51 2 3,oL 52 false 1 51,kD 53 34 0 50 52,oM 46 53,kY 54 46 0,kY 55 46 1,oM 11 54,oM 12 55] [3,6,40,44,46,47,48,49,50,51,52,53,54,55]
abbrev c_20_16:=kR [oM 56 12,kN 57 56] [12,56]
abbrev c_20_17:=kR [oD 58 (.build [(.int .i64 0),(.int .i64 0)] []),kS 2 4 58,kT 5 false] [0,11,57,58]
abbrev c_20_18:=kR [oM 59 0,kQ 60 59,kA 61 0 60,kA 62 1 61,oL 63 false 1 62,oM 64 11,kX 65 4 63 64,kA 66 1 65,oL 67 true 2 66,kS 2 4 67,kT 5 true] [0,11,57,59,60,61,62,63,64,65,66,67]
abbrev c_20_19:=kR [kK 69 .eql 3 40 4,oM 68 69] [44,69]
abbrev c_20_20:=kV [2288,2289,2290,2291,2296,2297,2298,2299] [kA 70 2 3,oL 71 false 1 70,kC 72 210 0 71,oM 73 6,oD 74 (.callv (.tmp 72) 1 [.tmp 73]),kY 75 74 0,kY 76 74 1,kS 2 4 75,oM 5 76] [0,3,6,40,68,70,71,72,73,74,75,76]
abbrev c_20_21:=kR [kK 78 .eql 3 40 5,oM 77 78] [68,78]
abbrev c_20_22:=kV [2320,2321,2322,2323,2328,2329,2330,2331] [oD 79 (.bsl 1 [vI 1]),oD 80 (.call 136 0 [vI 1,.tmp 79]),oM 81 6,oD 82 (.callv (.tmp 80) 1 [.tmp 81]),kY 83 82 0,kY 84 82 1,kS 2 4 83,oM 5 84] [0,3,6,40,77,79,80,81,82,83,84]
abbrev c_20_23:=kR [kK 86 .eql 3 40 6,oM 85 86] [40,77,86]
abbrev c_20_24:=kV [2384,2385,2386,2387] [oM 87 0,kQ 88 87,kA 89 3 88,oL 90 false 1 89,kA 91 2 3,oL 92 false 1 91,oD 93 (.lkp true (.agg #[.nilFunc,.nilFunc]) (.tmp 90) (.tmp 92)),oD 94 (.fld false 0 1 (.tmp 93)),oM 95 6,oD 96 (.callv (.tmp 94) 1 [.tmp 95]),kY 97 96 0,kY 98 96 1,kS 2 4 97,oM 5 98] [0,3,6,85,87,88,89,90,91,92,93,94,95,96,97,98]
abbrev c_20_25:=kR [oD 99 (.build [(.int .i64 0),(.int .i64 0)] [(0,1,(vI 1))]),kS 2 4 99,kT 5 true] [0,3,6,85,99]
abbrev F_20:SFunc:=⟨100,(.seq c_20_0 (.seq c_20_1 (.seq (.seq c_20_2 (.block 0 (.loop c_20_10))) (.seq (.seq c_20_11 (.block 2 (.seq c_20_12 (.cond (.tmp 41) (.seq c_20_13 .ret) (.seq c_20_14 (.cond (.tmp 44) (.seq c_20_15 (.seq (.seq c_20_16 (.cond (.tmp 57) (.seq c_20_17 .ret) .skip)) (.seq c_20_18 .ret))) (.seq c_20_19 (.cond (.tmp 68) (.seq c_20_20 .ret) (.seq c_20_21 (.cond (.tmp 77) (.seq c_20_22 .ret) (.seq c_20_23 (.cond (.tmp 85) (.seq c_20_24 .ret) .skip)))))))))))) (.seq c_20_25 .ret))))),[.cell true 2 4,.tmp 5],false⟩
theorem tf_20:kU 135 [(28,1),(53,0),(72,0),(74,1),(79,0),(80,0),(82,1),(96,1)] [] F_20:=by unfold kU;kernel_rfl
abbrev c_84_0:=kV [2,3] [kO 2 0,kO 3 1,oD 4 (.mov (.val .nilFunc))] [0,1,4]
abbrev c_84_1:=kR [oD 5 (.mkf (.func 211) [] [.tmp 3,.tmp 2]),oM 4 5] [2,3,5]
abbrev F_84:SFunc:=⟨6,(.seq c_84_0 (.seq c_84_1 .ret)),[.tmp 4],false⟩
theorem tf_84:kU 136 [] [] F_84:=by unfold kU;kernel_rfl
abbrev c_63_0:=kV [2] [oD 2 (.new zV)] []
abbrev c_63_1:=kV [2028,2029,2030,2031,2032,2033,2034,2035] [oM 3 0,oD 4 (.idxA 4 (.tmp 3) (vI 0)),kA 5 2 4,oL 6 false 1 5,kC 7 139 0 6,kC 8 138 0 7,kS 4 2 8] [0,3,4,5,6,7,8]
abbrev F_63:SFunc:=⟨9,(.seq c_63_0 (.seq c_63_1 .ret)),[.cell true 4 2],false⟩
theorem tf_63:kU 137 [(7,0),(8,0)] [] F_63:=by unfold kU;kernel_rfl
abbrev c_77_0:=kV [2] [oD 2 (.new zV)] []
abbrev c_77_1:=kR [oM 3 0,oD 4 (.imm false (.tmp 3) (vI 1000000000000000)),oD 5 (.imm true (.val (.int .i64 (-1000000000000000))) (.tmp 4)),oD 6 (.build zV [(0,1,(vI 1)),(1,1,(.tmp 5))]),kS 4 2 6] [0,3,4,5,6]
abbrev F_77:SFunc:=⟨7,(.seq c_77_0 (.seq c_77_1 .ret)),[.cell true 4 2],false⟩
theorem tf_77:kU 138 [] [] F_77:=by unfold kU;kernel_rfl
abbrev c_83_0:=kR [kI 2 0] [2]
abbrev c_83_1:=kR [kI 3 0] []
abbrev c_83_2:=kV [5] [oM 4 0,oD 5 (.rng (.tmp 4))] [0,4]
abbrev c_83_3:=kR [oD 6 (.nxt (.tmp 5)),kY 7 6 0] [6]
abbrev c_83_4:=kR [oM 8 3,kK 9 .add 3 8 1,oM 3 9] [7,8,9]
abbrev c_83_5:SCode:=(.seq c_83_3 (.seq (.cond (.tmp 7) .skip (.exit 0)) (.block 1 c_83_4)))
abbrev c_83_6:=kR [oM 10 3,oM 2 10] [3,5,10]
abbrev F_83:SFunc:=⟨11,(.seq c_83_0 (.seq c_83_1 (.seq (.seq c_83_2 (.block 0 (.loop c_83_5))) (.seq c_83_6 .ret)))),[.tmp 2],false⟩
theorem tf_83:kU 139 [] [] F_83:=by unfold kU;kernel_rfl
abbrev c_65_0:=kV [2] [oD 2 (.new zV)] []
abbrev c_65_1:=kR [oM 4 0,oD 5 (.idxA 4 (.tmp 4) (vI 0)),kA 6 2 5,oL 7 false 1 6,oM 3 7] [4,5,6,7]
abbrev c_65_2:=kV [2056,2057,2058,2059,2064,2065,2066,2067] [oM 8 3,oM 9 3,oM 10 0,oD 11 (.idxA 4 (.tmp 10) (vI 1)),kA 12 1 11,oL 13 false 1 12,kD 14 142 0 9 13,oD 15 (.ssub (.tmp 8) none (some (.tmp 14))),kC 16 141 0 15,kS 4 2 16] [0,3,8,9,10,11,12,13,14,15,16]
abbrev F_65:SFunc:=⟨17,(.seq c_65_0 (.seq c_65_1 (.seq c_65_2 .ret))),[.cell true 4 2],false⟩
theorem tf_65:kU 140 [(14,0),(16,0)] [] F_65:=by unfold kU;kernel_rfl
abbrev c_86_0:=kV [2] [oD 2 (.new zV)] []
abbrev c_86_1:=kV [6] [oM 5 0,oD 6 (.rng (.tmp 5))] [5]
abbrev c_86_2:=kR [oD 7 (.nxt (.tmp 6)),kY 8 7 0] []
abbrev c_86_3:=kR [kY 9 7 1,kY 10 7 2,oM 3 9,oM 4 10] [7,8,9,10]
abbrev c_86_4:=kV [2052,2053,2054,2055] [oM 11 3,oM 12 4,kC 13 212 0 12,kB 14 .add 3 11 13,kK 15 .gtr 3 14 60] [4,11,12,13,14]
abbrev c_86_5:=kR [oM 16 0,oM 17 3,oD 18 (.ssub (.tmp 16) none (some (.tmp 17))),oD 19 (.build zV [(0,1,(vI 2)),(2,1,(.tmp 18))]),kS 4 2 19] [0,3,6,15,16,17,18,19]
abbrev c_86_6:SCode:=(.seq c_86_2 (.seq (.cond (.tmp 8) .skip (.exit 0)) (.block 1 (.seq c_86_3 (.seq c_86_4 (.cond (.tmp 15) (.seq c_86_5 .ret) .skip))))))
abbrev c_86_7:=kR [oM 20 0,oD 21 (.build zV [(0,1,(vI 2)),(2,1,(.tmp 20))]),kS 4 2 21] [0,6,20,21]
abbrev F_86:SFunc:=⟨22,(.seq c_86_0 (.seq (.seq c_86_1 (.block 0 (.loop c_86_6))) (.seq c_86_7 .ret))),[.cell true 4 2],false⟩
theorem tf_86:kU 141 [(13,0)] [] F_86:=by unfold kU;kernel_rfl
abbrev c_62_0:=kR [kI 4 0] [4]
abbrev c_62_1:=kR [kI 5 0] []
abbrev c_62_2:=kV [8] [oM 7 0,oD 8 (.rng (.tmp 7))] [7]
abbrev c_62_3:=kR [oD 9 (.nxt (.tmp 8)),kY 10 9 0] []
abbrev c_62_4:=kR [kY 11 9 1,oM 6 11] [9,10,11]
abbrev c_62_5:=kR [oM 12 5,oM 13 1,kB 14 .geq 3 12 13] [12,13]
abbrev c_62_6:=kR [oM 15 6,oM 4 15] [0,1,5,6,8,14,15]
abbrev c_62_7:=kR [oM 16 5,kK 17 .add 3 16 1,oM 5 17] [4,6,14,16,17]
abbrev c_62_8:SCode:=(.seq c_62_3 (.seq (.cond (.tmp 10) .skip (.exit 0)) (.block 1 (.seq c_62_4 (.seq (.seq c_62_5 (.cond (.tmp 14) (.seq c_62_6 .ret) .skip)) c_62_7)))))
abbrev c_62_9:=kR [oM 18 0,oD 19 (.slen (.tmp 18)),oM 4 19] [0,1,5,8,18,19]
abbrev F_62:SFunc:=⟨20,(.seq c_62_0 (.seq c_62_1 (.seq (.seq c_62_2 (.block 0 (.loop c_62_8))) (.seq c_62_9 .ret)))),[.tmp 4],false⟩
theorem tf_62:kU 142 [] [] F_62:=by unfold kU;kernel_rfl
abbrev c_66_0:=kV [2] [oD 2 (.new zV)] []
abbrev c_66_1:=kR [oM 4 0,oD 5 (.idxA 4 (.tmp 4) (vI 0)),kA 6 2 5,oL 7 false 1 6,oM 3 7] [4,5,6,7]
abbrev c_66_2:=kV [2044,2045,2046,2047,2068,2069,2070,2071,2076,2077,2078,2079] [oM 8 3,oM 9 3,oM 10 3,kC 11 139 0 10,oM 12 0,oD 13 (.idxA 4 (.tmp 12) (vI 1)),kA 14 1 13,oL 15 false 1 14,kB 16 .sub 3 11 15,kD 17 142 0 9 16,oD 18 (.ssub (.tmp 8) (some (.tmp 17)) none),kC 19 141 0 18,kS 4 2 19] [0,3,8,9,10,11,12,13,14,15,16,17,18,19]
abbrev F_66:SFunc:=⟨20,(.seq c_66_0 (.seq c_66_1 (.seq c_66_2 .ret))),[.cell true 4 2],false⟩
theorem tf_66:kU 143 [(11,0),(17,0),(19,0)] [] F_66:=by unfold kU;kernel_rfl
abbrev c_67_0:=kV [2] [oD 2 (.new zV)] []
abbrev c_67_1:=kR [oM 4 0,oD 5 (.idxA 4 (.tmp 4) (vI 0)),kA 6 2 5,oL 7 false 1 6,oM 3 7] [4,5,6,7]
abbrev c_67_2:=kV [2056,2057,2058,2059,2064,2065,2066,2067] [oM 8 3,oM 9 3,oM 10 0,oD 11 (.idxA 4 (.tmp 10) (vI 1)),kA 12 1 11,oL 13 false 1 12,kD 14 142 0 9 13,oD 15 (.ssub (.tmp 8) (some (.tmp 14)) none),kC 16 141 0 15,kS 4 2 16] [0,3,8,9,10,11,12,13,14,15,16]
abbrev F_67:SFunc:=⟨17,(.seq c_67_0 (.seq c_67_1 (.seq c_67_2 .ret))),[.cell true 4 2],false⟩
theorem tf_67:kU 144 [(14,0),(16,0)] [] F_67:=by unfold kU;kernel_rfl
abbrev c_68_0:=kV [2] [oD 2 (.new zV)] []
abbrev c_68_1:=kV [2044,2045,2046,2047,2048,2049,2050,2051] [oM 3 0,oD 4 (.idxA 4 (.tmp 3) (vI 0)),kA 5 2 4,oL 6 false 1 5,oM 7 0,oD 8 (.idxA 4 (.tmp 7) (vI 1)),kA 9 2 8,oL 10 false 1 9,kD 11 146 0 6 10,kC 12 138 0 11,kS 4 2 12] [0,3,4,5,6,7,8,9,10,11,12]
abbrev F_68:SFunc:=⟨13,(.seq c_68_0 (.seq c_68_1 .ret)),[.cell true 4 2],false⟩
theorem tf_68:kU 145 [(11,0),(12,0)] [] F_68:=by unfold kU;kernel_rfl
abbrev c_74_0:=kR [kI 4 0] [4]
abbrev c_74_1:=kV [2032,2033,2034,2035] [oM 6 0,oM 7 1,kD 8 213 0 6 7,oM 5 8] [1,6,7,8]
abbrev c_74_2:=kR [oM 9 5,kK 10 .lss 3 9 0] [9]
abbrev c_74_3:=kR [oD 4 (.mov (.val (.int .i64 (-1))))] [0,5,10]
abbrev c_74_4:=kV [2056,2057,2058,2059] [oM 11 0,oM 12 5,oD 13 (.ssub (.tmp 11) none (some (.tmp 12))),kC 14 139 0 13,oM 4 14] [0,5,10,11,12,13,14]
abbrev F_74:SFunc:=⟨15,(.seq c_74_0 (.seq c_74_1 (.seq (.seq c_74_2 (.cond (.tmp 10) (.seq c_74_3 .ret) .skip)) (.seq c_74_4 .ret)))),[.tmp 4],false⟩
theorem tf_74:kU 146 [(8,0),(14,0)] [] F_74:=by unfold kU;kernel_rfl
abbrev c_69_0:=kV [2] [oD 2 (.new zV)] []
abbrev c_69_1:=kV [2028,2029,2030,2031,2032,2033,2034,2035] [oM 3 0,oD 4 (.idxA 4 (.tmp 3) (vI 0)),kA 5 1 4,oL 6 false 1 5,kC 7 97 0 6,kC 8 141 0 7,kS 4 2 8] [0,3,4,5,6,7,8]
abbrev F_69:SFunc:=⟨9,(.seq c_69_0 (.seq c_69_1 .ret)),[.cell true 4 2],false⟩
theorem tf_69:kU 147 [(7,0),(8,0)] [] F_69:=by unfold kU;kernel_rfl
abbrev c_70_0:=kV [2] [oD 2 (.new zV)] []
abbrev c_70_1:=kV [2028,2029,2030,2031,2032,2033,2034,2035] [oM 3 0,oD 4 (.idxA 4 (.tmp 3) (vI 0)),kA 5 2 4,oL 6 false 1 5,kC 7 149 0 6,kC 8 138 0 7,kS 4 2 8] [0,3,4,5,6,7,8]
abbrev F_70:SFunc:=⟨9,(.seq c_70_0 (.seq c_70_1 .ret)),[.cell true 4 2],false⟩
theorem tf_70:kU 148 [(7,0),(8,0)] [] F_70:=by unfold kU;kernel_rfl
abbrev c_73_0:=kV [2] [oD 2 (.new [(.int .i64 0),(.int .i64 0)]),kT 3 false] [3]
abbrev c_73_1:=kV [2048,2049,2050,2051] [oM 4 0,oD 5 (.idxA 2 (.tmp 4) (vI 0)),kA 6 0 5,oL 7 false 1 6,kK 8 .neq 3 7 1,oM 9 8,oH 10 9 false 0,oG 11 9 false (.sub 2 (.tmp 10) (some (vI 1)) none),oG 12 9 false (.call 215 1 [.tmp 11]),oG 13 9 false (.un .not (.tmp 12)),oQ 14 9 13 true] [4,5,6,7,8,9,10,11,12,13]
abbrev c_73_2:=kR [oD 15 (.build [(.int .i64 0),(.int .i64 0)] []),kS 2 2 15,kT 3 false] [0,14,15]
abbrev c_73_3:=kR [oM 16 0,oD 17 (.idxA 2 (.tmp 16) (vI 1)),oL 18 true 2 17,kS 2 2 18,kT 3 true] [0,14,16,17,18]
abbrev F_73:SFunc:=⟨19,(.seq c_73_0 (.seq (.seq c_73_1 (.cond (.tmp 14) (.seq c_73_2 .ret) .skip)) (.seq c_73_3 .ret))),[.cell true 2 2,.tmp 3],false⟩
theorem tf_73:kU 150 [(12,1)] [] F_73:=by unfold kU;kernel_rfl
abbrev c_71_0:=kV [2] [oD 2 (.new zV)] []
abbrev c_71_1:=kR [oM 3 0,oD 4 (.idxA 4 (.tmp 3) (vI 0)),kA 5 1 4,oL 6 false 1 5,kK 7 .neq 3 6 0] [3,4,5,6]
abbrev c_71_2:=kR [oM 8 0,oD 9 (.idxA 4 (.tmp 8) (vI 1)),oL 10 true 4 9,kS 4 2 10] [0,7,8,9,10]
abbrev c_71_3:=kR [oM 11 0,oD 12 (.idxA 4 (.tmp 11) (vI 2)),oL 13 true 4 12,kS 4 2 13] [0,7,11,12,13]
abbrev F_71:SFunc:=⟨14,(.seq c_71_0 (.seq (.seq c_71_1 (.cond (.tmp 7) (.seq c_71_2 .ret) .skip)) (.seq c_71_3 .ret))),[.cell true 4 2],false⟩
theorem tf_71:kU 151 [] [] F_71:=by unfold kU;kernel_rfl
abbrev c_72_0:=kV [2] [oD 2 (.new zV)] []
abbrev c_72_1:=kV [2048,2049,2050,2051] [oM 3 0,oD 4 (.idxA 4 (.tmp 3) (vI 0)),kA 5 1 4,oL 6 false 1 5,oM 7 0,oD 8 (.idxA 4 (.tmp 7) (vI 1)),kA 9 1 8,oL 10 false 1 9,oD 11 (.imm false (.tmp 6) (.tmp 10)),kC 12 138 0 11,kS 4 2 12] [0,3,4,5,6,7,8,9,10,11,12]
abbrev F_72:SFunc:=⟨13,(.seq c_72_0 (.seq c_72_1 .ret)),[.cell true 4 2],false⟩
theorem tf_72:kU 152 [(12,0)] [] F_72:=by unfold kU;kernel_rfl
abbrev c_64_0:=kV [2] [oD 2 (.new zV)] []
abbrev c_64_1:=kV [2048,2049,2050,2051] [oM 3 0,oD 4 (.idxA 4 (.tmp 3) (vI 0)),kA 5 1 4,oL 6 false 1 5,oM 7 0,oD 8 (.idxA 4 (.tmp 7) (vI 1)),kA 9 1 8,oL 10 false 1 9,oD 11 (.imm true (.tmp 6) (.tmp 10)),kC 12 138 0 11,kS 4 2 12] [0,3,4,5,6,7,8,9,10,11,12]
abbrev F_64:SFunc:=⟨13,(.seq c_64_0 (.seq c_64_1 .ret)),[.cell true 4 2],false⟩
theorem tf_64:kU 153 [(12,0)] [] F_64:=by unfold kU;kernel_rfl
abbrev c_75_0:=kV [1,2] [kO 1 0,oD 2 (.new zV)] [0]
abbrev c_75_1:=kR [oD 3 (.mov (.val (.slice none 0 0)))] []
abbrev c_75_2:=kR [kA 6 3 1,oL 7 false 1 6,kZ 8 7,kI 9 0] [6]
abbrev c_75_3:=kR [kB 10 .lss 3 9 8] []
abbrev c_75_4:=kV [5] [kX 11 4 7 9,oL 12 true 4 11,oD 5 (.new zV),kS 4 5 12] [10,11,12]
abbrev c_75_5:SCode:=.reg [([2060,2061,2062,2063],[oM 13 3,oL 14 true 4 5,kC 15 154 0 14,oD 16 (.bsl 4 [.tmp 15]),oD 17 (.app 37 4 56 (.tmp 13) (.tmp 16)),oM 3 17]),([2060,2061,2062,2063,17],[oM 13 3,oL 14 true 4 5,kC 15 154 0 14,oD 16 (.bsl 4 [.tmp 15]),oD 17 (.appN 37 4 56 (.tmp 13) (.tmp 16)),oM 3 17])] [5,13,14,15,16,17]
abbrev c_75_6:=kR [kK 18 .add 3 9 1,oM 9 18] [18]
abbrev c_75_7:SCode:=(.seq c_75_3 (.seq (.cond (.tmp 10) .skip (.exit 0)) (.seq (.block 1 (.seq c_75_4 c_75_5)) c_75_6)))
abbrev c_75_8:=kR [oM 19 3,kA 20 3 1,kS 1 20 19] [3,7,8,9,19,20]
abbrev c_75_9:=kR [oL 21 true 4 1,kS 4 2 21] [1,21]
abbrev F_75:SFunc:=⟨22,(.seq c_75_0 (.seq c_75_1 (.seq (.seq c_75_2 (.block 0 (.loop c_75_7))) (.seq c_75_8 (.seq c_75_9 .ret))))),[.cell true 4 2],false⟩
theorem tf_75:kU 154 [(15,0),(16,0)] [] F_75:=by unfold kU;kernel_rfl
abbrev c_78_0:=kV [4,5,6] [kO 4 1,kO 5 2,oD 6 (.new zV)] [1,2]
abbrev c_78_1:=kR [oM 7 0] []
abbrev c_78_2:=kR [oD 9 (.bin .eql 9 (.tmp 7) (.val (.string ⟨#[45]⟩))),oM 8 9] [9]
abbrev c_78_3:=kR [oD 11 (.bin .eql 9 (.tmp 7) (.val (.string ⟨#[43]⟩))),oM 10 11] [8,11]
abbrev c_78_4:=kR [oD 13 (.bin .eql 9 (.tmp 7) (.val (.string ⟨#[42]⟩))),oM 12 13] [10,13]
abbrev c_78_5:=kR [oD 15 (.bin .eql 9 (.tmp 7) (.val (.string ⟨#[47]⟩))),oM 14 15] [12,15]
abbrev c_78_6:=kR [oD 16 (.bin .eql 9 (.tmp 7) (.val (.string ⟨#[37]⟩))),oM 14 16] [16]
abbrev c_78_7:=kR [oD 18 (.bin .eql 9 (.tmp 7) (.val (.string ⟨#[38]⟩))),oM 17 18] [7,14,18]
abbrev c_78_8:=kR [kA 19 1 5,oL 20 false 1 19,oD 21 (.un .neg (.tmp 20)),kA 22 1 5,kS 1 22 21] [0,17,19,20,21,22]
abbrev c_78_9:=kV [2112,2113,2114,2115] [kA 23 1 4,oL 24 false 1 23,kA 25 1 5,oL 26 false 1 25,kB 27 .add 3 24 26,kC 28 138 0 27,kS 4 6 28] [4,5,23,24,25,26,27,28]
abbrev c_78_10:=kV [2132,2133,2134,2135,2136,2137,2138,2139] [kA 29 1 4,oL 30 false 1 29,kA 31 1 5,oL 32 false 1 31,kD 33 216 0 30 32,kC 34 138 0 33,kS 4 6 34] [4,5,29,30,31,32,33,34]
abbrev c_78_11:=kV [2160,2161,2162,2163,2164,2165,2166,2167] [oM 35 0,kA 36 1 4,oL 37 false 1 36,kA 38 1 5,oL 39 false 1 38,kE 40 217 0 35 37 39,kC 41 138 0 40,kS 4 6 41] [0,4,5,35,36,37,38,39,40,41]
abbrev c_78_12:=kV [2188,2189,2190,2191] [kA 42 2 4,oL 43 false 1 42,kA 44 2 5,oL 45 false 1 44,kB 46 .add 9 43 45,kC 47 141 0 46,kS 4 6 47] [4,5,42,43,44,45,46,47]
abbrev c_78_13:=kV [2204,2205,2206,2207,2208,2209,2210,2211] [oM 48 0,oL 49 true 4 4,oL 50 true 4 5,kD 51 55 0 49 50,kD 52 218 0 48 51] [0,4,5,48,49,50,51]
abbrev c_78_14:=kV [2212,2213,2214,2215] [oD 53 (.call 138 0 [vI 1]),kS 4 6 53] [52,53]
abbrev c_78_15:=kV [2216,2217,2218,2219] [oD 54 (.call 138 0 [vI 0]),kS 4 6 54] [52,54]
abbrev F_78:SFunc:=⟨55,(.seq c_78_0 (.seq (.seq c_78_1 (.block 0 (.seq (.block 5 (.seq (.block 4 (.seq (.block 3 (.seq (.block 2 (.seq (.block 1 (.seq (.seq (.seq c_78_2 (.cond (.tmp 8) (.exit 1) .skip)) (.seq (.seq c_78_3 (.cond (.tmp 10) (.exit 2) .skip)) (.seq (.seq c_78_4 (.cond (.tmp 12) (.exit 3) .skip)) (.seq (.seq (.seq c_78_5 (.cond (.tmp 14) .skip c_78_6)) (.cond (.tmp 14) (.exit 4) .skip)) (.seq c_78_7 (.cond (.tmp 17) (.exit 5) .skip)))))) (.exit 0))) c_78_8)) (.seq (.seq c_78_9 .ret) (.exit 0)))) (.seq (.seq c_78_10 .ret) (.exit 0)))) (.seq (.seq c_78_11 .ret) (.exit 0)))) (.seq (.seq c_78_12 .ret) (.exit 0))))) (.seq (.seq c_78_13 (.cond (.tmp 52) (.seq c_78_14 .ret) .skip)) (.seq c_78_15 .ret)))),[.cell true 4 6],false⟩
theorem tf_78:kU 155 [(28,0),(33,0),(34,0),(40,0),(41,0),(47,0),(51,0),(52,0),(53,0),(54,0)] [] F_78:=by unfold kU;kernel_rfl
abbrev c_79_0:=kR [oD 2 (.mov (.val .nilFunc))] [2]
abbrev c_79_1:=kR [oM 3 0] [0]
abbrev c_79_2:=kR [oD 5 (.bin .eql 9 (.tmp 3) (.val (.string ⟨#[43]⟩))),oM 4 5] [5]
abbrev c_79_3:=kR [oD 6 (.bin .eql 9 (.tmp 3) (.val (.string ⟨#[45]⟩))),oM 4 6] [6]
abbrev c_79_4:=kR [oD 7 (.bin .eql 9 (.tmp 3) (.val (.string ⟨#[42]⟩))),oM 4 7] [7]
abbrev c_79_5:=kR [oD 8 (.bin .eql 9 (.tmp 3) (.val (.string ⟨#[47]⟩))),oM 4 8] [8]
abbrev c_79_6:=kR [oD 9 (.bin .eql 9 (.tmp 3) (.val (.string ⟨#[37]⟩))),oM 4 9] [9]
abbrev c_79_7:=kV [2044,2045,2046,2047] [oD 10 (.bsl 1 [vI 1,vI 1]),oD 11 (.call 136 0 [vI 1,.tmp 10]),oM 2 11] [3,4,10,11]
abbrev c_79_8:=kR [oD 13 (.bin .eql 9 (.tmp 3) (.val (.string ⟨#[38]⟩))),oM 12 13] [3,4,13]
abbrev c_79_9:=kV [2060,2061,2062,2063] [oD 14 (.bsl 1 [vI 2,vI 2]),oD 15 (.call 136 0 [vI 2,.tmp 14]),oM 2 15] [12,14,15]
abbrev c_79_10:=kR [oD 2 (.mov (.val (.func (.func 251) #[] #[])))] [12]
abbrev F_79:SFunc:=⟨16,(.seq c_79_0 (.seq (.seq c_79_1 (.block 0 (.seq (.seq c_79_2 (.cond (.tmp 4) .skip (.seq c_79_3 (.cond (.tmp 4) .skip (.seq c_79_4 (.cond (.tmp 4) .skip (.seq c_79_5 (.cond (.tmp 4) .skip c_79_6)))))))) (.cond (.tmp 4) (.seq c_79_7 .ret) (.seq c_79_8 (.cond (.tmp 12) (.seq c_79_9 .ret) .skip)))))) (.seq c_79_10 .ret))),[.tmp 2],false⟩
theorem tf_79:kU 210 [(10,0),(11,0),(14,0),(15,0)] [] F_79:=by unfold kU;kernel_rfl
abbrev c_85_0:=kV [4] [oD 4 (.new [(.int .i64 0),(.int .i64 0)]),kT 5 false] [5]
abbrev c_85_1:=kR [oM 8 0,kZ 9 8,kI 10 0] [0]
abbrev c_85_2:=kR [kB 11 .lss 3 10 9] []
abbrev c_85_3:=kV [7] [oM 12 10,kX 13 2 8 10,oL 14 true 2 13,oD 7 (.new [(.int .i64 0),(.int .i64 0)]),oM 6 12,kS 2 7 14] [11,12,13,14]
abbrev c_85_4:=kR [kA 15 0 7,oL 16 false 1 15,oL 17 false 1 1,oM 18 6,kX 19 1 17 18,oL 20 false 1 19,kB 21 .neq 3 16 20] [6,7,15,16,17,18,19,20]
abbrev c_85_5:=kR [oD 22 (.build [(.int .i64 0),(.int .i64 0)] []),kS 2 4 22,kT 5 false] [1,2,8,9,10,21,22]
abbrev c_85_6:=kR [kK 23 .add 3 10 1,oM 10 23] [5,21,23]
abbrev c_85_7:SCode:=(.seq c_85_2 (.seq (.cond (.tmp 11) .skip (.exit 0)) (.seq (.block 1 (.seq c_85_3 (.seq c_85_4 (.cond (.tmp 21) (.seq c_85_5 .ret) .skip)))) c_85_6)))
abbrev c_85_8:=kR [oL 24 false 1 2,oD 25 (.build [(.int .i64 0),(.int .i64 0)] [(0,1,(.tmp 24))]),kS 2 4 25,kT 5 true] [1,2,8,9,10,24,25]
abbrev F_85:SFunc:=⟨26,(.seq c_85_0 (.seq (.seq c_85_1 (.block 0 (.loop c_85_7))) (.seq c_85_8 .ret))),[.cell true 2 4,.tmp 5],false⟩
theorem tf_85:kU 211 [] [] F_85:=by unfold kU;kernel_rfl
abbrev c_61_0:=kR [kT 2 false] [2]
abbrev c_61_1:=kR [oM 3 0,oD 4 (.idxA 2 (.tmp 3) (vI 0)),oL 5 true 2 4,oM 6 0,oD 7 (.idxA 2 (.tmp 6) (vI 1)),oL 8 true 2 7,kB 9 .eql 46 5 8,oM 10 9,oH 11 10 true 0,oG 12 10 true (.idxA 2 (.tmp 11) (vI 0)),kF 13 10 true 0 12,kL 14 10 true false 1 13,kG 15 10 true .eql 3 14 1,oH 16 10 true 15,oH 17 16 false 0,oG 18 16 false (.idxA 2 (.tmp 17) (vI 0)),kF 19 16 false 0 18,kL 20 16 false false 1 19,kG 21 16 false .eql 3 20 2,oG 22 10 true (.pick (.tmp 16) (.val (.bool true)) (.tmp 21)),oP 23 10 22 false,oM 2 23] [0,3,4,5,6,7,8,9,10,11,12,13,14,15,16,17,18,19,20,21,22,23]
abbrev F_61:SFunc:=⟨24,(.seq c_61_0 (.seq c_61_1 .ret)),[.tmp 2],false⟩
theorem tf_61:kU 215 [] [] F_61:=by unfold kU;kernel_rfl
abbrev c_81_0:=kR [kI 4 0] [4]
abbrev c_81_1:=kR [oM 5 0,kK 6 .eql 3 5 0,oM 7 6,oH 8 7 false 1,oH 9 7 false 1,oG 10 7 false (.un .neg (.tmp 9)),oG 11 7 false (.imm true (.tmp 8) (.tmp 10)),oH 12 7 false 0,oH 13 7 false 0,oG 14 7 false (.un .neg (.tmp 13)),oG 15 7 false (.imm true (.tmp 12) (.tmp 14)),oG 16 7 false (.bin .quo 3 (vI 1000000000000000) (.tmp 15)),kH 17 7 false .leq 3 11 16,oQ 18 7 17 true] [5,6,7,8,9,10,11,12,13,14,15,16,17]
abbrev c_81_2:=kR [oM 19 0,oM 20 1,kB 21 .mul 3 19 20,oM 4 21] [0,1,18,19,20,21]
abbrev c_81_3:=kR [oM 22 0,kK 23 .lss 3 22 0,oM 24 1,kK 25 .lss 3 24 0,kB 26 .eql 4 23 25] [0,1,4,18,22,23,24,25]
abbrev c_81_4:=kR [kI 4 1000000000000000] [26]
abbrev c_81_5:=kR [oD 4 (.mov (.val (.int .i64 (-1000000000000000))))] [26]
abbrev F_81:SFunc:=⟨27,(.seq c_81_0 (.seq (.seq c_81_1 (.cond (.tmp 18) (.seq c_81_2 .ret) .skip)) (.seq (.seq c_81_3 (.cond (.tmp 26) (.seq c_81_4 .ret) .skip)) (.seq c_81_5 .ret)))),[.tmp 4],false⟩
theorem tf_81:kU 216 [] [] F_81:=by unfold kU;kernel_rfl
abbrev c_82_0:=kR [kI 6 0] [6]
abbrev c_82_1:=kR [oM 7 2,kK 8 .eql 3 7 0] [7]
abbrev c_82_2:=kR [kI 6 0] [0,1,2,8]
abbrev c_82_3:=kR [oM 9 0,oD 10 (.bin .eql 9 (.tmp 9) (.val (.string ⟨#[47]⟩)))] [0,6,8,9]
abbrev c_82_4:=kR [oM 11 1,oM 12 2,kB 13 .quo 3 11 12,oM 6 13] [1,2,10,11,12,13]
abbrev c_82_5:=kR [oM 14 1,oM 15 2,kB 16 .rem 3 14 15,oM 6 16] [1,2,10,14,15,16]
abbrev F_82:SFunc:=⟨17,(.seq c_82_0 (.seq (.seq c_82_1 (.cond (.tmp 8) (.seq c_82_2 .ret) .skip)) (.seq (.seq c_82_3 (.cond (.tmp 10) (.seq c_82_4 .ret) .skip)) (.seq c_82_5 .ret)))),[.tmp 6],false⟩
theorem tf_82:kU 217 [] [] F_82:=by unfold kU;kernel_rfl
abbrev c_76_0:=kR [kT 4 false] [4]
abbrev c_76_1:=kR [oM 5 0] [0]
abbrev c_76_2:=kR [oD 7 (.bin .eql 9 (.tmp 5) (.val (.string ⟨#[60,61]⟩))),oM 6 7] [7]
abbrev c_76_3:=kR [oD 9 (.bin .eql 9 (.tmp 5) (.val (.string ⟨#[61]⟩))),oM 8 9] [6,9]
abbrev c_76_4:=kR [oD 11 (.bin .eql 9 (.tmp 5) (.val (.string ⟨#[62,61]⟩))),oM 10 11] [8,11]
abbrev c_76_5:=kR [oD 13 (.bin .eql 9 (.tmp 5) (.val (.string ⟨#[62]⟩))),oM 12 13] [10,13]
abbrev c_76_6:=kR [oD 15 (.bin .eql 9 (.tmp 5) (.val (.string ⟨#[60,62]⟩))),oM 14 15] [5,12,15]
abbrev c_76_7:=kR [oM 16 1,kK 17 .lss 3 16 0] [14,16]
abbrev c_76_8:=kR [kT 4 true] [1,17]
abbrev c_76_9:=kR [oM 18 1,kK 19 .eql 3 18 0,oM 4 19] [1,17,18,19]
abbrev c_76_10:=kR [oM 20 1,kK 21 .eql 3 20 0] [4,20]
abbrev c_76_11:=kR [kT 4 true] [1,21]
abbrev c_76_12:=kR [oM 22 1,kK 23 .gtr 3 22 0,oM 4 23] [1,21,22,23]
abbrev c_76_13:=kR [oM 24 1,kK 25 .neq 3 24 0,oM 4 25] [1,24,25]
abbrev c_76_14:=kR [oM 26 1,kK 27 .lss 3 26 0,oM 4 27] [1,26,27]
abbrev F_76:SFunc:=⟨28,(.seq c_76_0 (.seq (.seq c_76_1 (.block 0 (.seq (.block 5 (.seq (.block 4 (.seq (.block 3 (.seq (.block 2 (.seq (.block 1 (.seq (.seq (.seq c_76_2 (.cond (.tmp 6) (.exit 1) .skip)) (.seq (.seq c_76_3 (.cond (.tmp 8) (.exit 2) .skip)) (.seq (.seq c_76_4 (.cond (.tmp 10) (.exit 3) .skip)) (.seq (.seq c_76_5 (.cond (.tmp 12) (.exit 4) .skip)) (.seq c_76_6 (.cond (.tmp 14) (.exit 5) .skip)))))) (.exit 0))) (.seq c_76_7 (.cond (.tmp 17) (.seq c_76_8 .ret) .skip)))) (.seq (.seq c_76_9 .ret) (.exit 0)))) (.seq c_76_10 (.cond (.tmp 21) (.seq c_76_11 .ret) .skip)))) (.seq (.seq c_76_12 .ret) (.exit 0)))) (.seq (.seq c_76_13 .ret) (.exit 0))))) (.seq c_76_14 .ret))),[.tmp 4],false⟩
theorem tf_76:kU 218 [] [] F_76:=by unfold kU;kernel_rfl
abbrev c_80_0:=kV [2] [oD 2 (.new [(.int .i64 0),(.int .i64 0)]),kT 3 false] [3]
abbrev c_80_1:=kV [2024,2025,2026,2027] [oD 4 (.build [(.int .i64 0),(.int .i64 0)] [(0,1,(vI 1))]),oM 5 0,kC 6 215 1 5,kS 2 2 4,oM 3 6] [0,4,5,6]
abbrev F_80:SFunc:=⟨7,(.seq c_80_0 (.seq c_80_1 .ret)),[.cell true 2 2,.tmp 3],false⟩
theorem tf_80:kU 251 [(6,1)] [] F_80:=by unfold kU;kernel_rfl
def funcs:Nat→Option SFunc
 |_=>none
end Go.Sh.Cd6
end

section
namespace Go.Proofs.YtcpaleaajdilgaaGreatDoor
open Go Go.RowKit Go.Mor Go.Sh Go.Sh.Cd1 Go.Sh.Cd6
set_option maxRecDepth 100000
set_option maxHeartbeats 4000000
def flR1(f:Fld):List PV:=[.v (.string (str f.n)),.v (.int .i64 f.t.k),.v (.int .i64 f.t.o),.v (.bool f.ix)]
def flR(l:List Fld):List (List PV):=l.map flR1
def flT(f:Fld):TV:=.agg [S (str f.n),I f.t.k,I f.t.o,.pv (.v (.bool f.ix))]
def clT(c:Cls):TV:=.agg [S (str c.n),.pv (.sl 4 (flR c.fs))]
theorem flGet(l:List Fld)(k:Nat):(flR l)[k]?=(l[k]?).map flR1:=by unfold flR;rw[List.getElem?_map]
theorem flLen(l:List Fld):(flR l).length=l.length:=by unfold flR;rw[List.length_map]
theorem clV:(type_of% @flGet)∧(type_of% @flLen)∧(type_of% @flR1.eq_1)∧(type_of% @flT.eq_1)∧(type_of% @clT.eq_1):=⟨@flGet,@flLen,@flR1.eq_1,@flT.eq_1,@clT.eq_1⟩
def Short(s:List UInt8):Prop:=s.length<4611686018427387904
structure ClsOk(c:Cls):Prop where
 n:Short c.n
 fs:∀f∈c.fs,Short f.n
 len:c.fs.length≤4611686018427387904
theorem rightTypeC_ok(g:Sh.Glob)(t:Ty):SCalls Tryz.prog g 44 [tyT t] [] (B (z19 t)) []:=by
 refine z7 hmix tf_50 rfl ?_;obtain⟨k,o⟩:=t;unfold B;simp only[vW,seval];unfold z19
 repeat' (first|(apply And.intro)|(intro _))
 all_goals(first|(simp_all;done)|(simp_all;omega))
theorem field1_ok(g:Sh.Glob)(f:Fld)(s:List UInt8):SCalls Tryz.prog g 72 [flT f,.ptr 1000 0] [.box [S (str s)]] (B (f.n==s)) [.box [S (str s)]]:=by
 refine z17 hmix tf_48 rfl rfl rfl ?_;unfold B;simp only[vW,seval,clV]
theorem indexFld_ok(g:Sh.Glob)(l:List Fld)(s:List UInt8)(hl:l.length≤maxLen):SCalls Tryz.prog g 71 [.pv (.sl 4 (flR l)),.fn (.func 72) [] [.ptr 1000 0]] [.box [S (str s)]] (I (fieldAt l s)) [.box [S (str s)]]:=by
 refine z17 hmix tf_115 rfl rfl rfl ?_;have hm:maxLen=9223372036854775807:=rfl;simp only[vW,seval,clV];refine v_loop (σ:={i:Nat // i≤l.length∧∀j x,j<i→l[j]?=some x→(x.n==s)=false}) (fun i=>⟨[(0,.pv (.sl 4 (flR l))),(1,.fn (.func 72) [] [.ptr 1000 0]),(7,I (l.length:Int)),(8,I (i.1:Int))],[(1000,[S (str s)])],[],[]⟩) (fun i=>l.length-i.1) ⟨0,Nat.zero_le _,fun j x hj=>by omega⟩ (lw_eq (by simp[I,S])) ?_;rintro⟨i,hi,hno⟩;by_cases hlt:i<l.length
 ·have d1:(i:Int)<(l.length:Int):=by omega
  obtain⟨x,ex⟩:∃x,l[i]?=some x:=⟨_,gE hlt⟩
  have HN:=field1_ok g x s;have w1:IntKind.i64.wrap ((i:Int)+1)=((i+1:Nat):Int):=by rw[wrap64 (by omega) (by omega)];omega
  unfold flT B at HN;simp only[vW,seval,d1,ex,clV];(with_reducible apply z22);exact kv;exact HN;rfl;exact kv;cases hp:(x.n==s)
  ·simp only[vW,seval,w1];refine z10 ⟨i+1,by omega,fun j y hj hy=> ?_⟩ (by show l.length-(i+1)<l.length-i;omega) ?_
   ·by_cases hji:j=i
    ·subst hji;rw[ex]at hy;cases hy;exact hp
    ·exact hno j y (by omega) hy
   ·apply lw_of<;>simp[leL,lk,sv,Nat.beq,I,S,ES.kill,has,drp,nilT]
  ·simp only[vW,seval];unfold fieldAt;rw[z108 (fun f=>f.n==s) l i hno x ex hp]
 ·have d1:¬(i:Int)<(l.length:Int):=by omega
  simp only[vW,seval,d1];unfold fieldAt;rw[z109 (fun f=>f.n==s) l (fun x hx=>by
   obtain⟨j,hj⟩:=List.getElem?_of_mem hx;exact hno j x (by have:=(gJ hj).1;omega) hj)]
def fieldT(l:List Fld)(s:List UInt8):TV:=if fieldAt l s<0 then .tuple [I 0,B false] else .tuple [I (fieldAt l s),B true]
theorem field_ok(g:Sh.Glob)(c:Cls)(s:List UInt8)(hl:c.fs.length≤4611686018427387904):SCalls Tryz.prog g 34 [clT c,S (str s)] [] (fieldT c.fs s) []:=by
 have HI:=indexFld_ok g c.fs s (by unfold maxLen;omega);unfold fieldT;refine z7 hmix tf_47 rfl ?_;by_cases h:fieldAt c.fs s<0
 ·rw[if_pos h];simp only[vW,seval,clV];(with_reducible apply v_call);exact kv;rfl;exact HI;exact km;exact kv;simp only[vW,seval,h,B]
 ·rw[if_neg h];simp only[vW,seval,clV];(with_reducible apply v_call);exact kv;rfl;exact HI;exact km;exact kv;simp only[vW,seval,h,B]
theorem rightField_ok(g:Sh.Glob)(f:Fld)(hf:Short f.n):SCalls Tryz.prog g 70 [flT f] [] (B (z26 f)) []:=by
 have HN:=rightName_ok g f.n hf;have HT:=rightTypeC_ok g f.t;unfold z26;refine z7 hmix tf_52 rfl ?_;unfold B at*;simp only[vW,seval,clV];(with_reducible apply v_call);exact kv;rfl;exact HN;exact km;exact kv;cases h1:z13 f.n
 ·simp only[vW,seval]
 ·simp only[vW,seval];(with_reducible apply v_call);exact kv;rfl;exact HT;exact km;exact kv;cases h2:z19 f.t
  ·simp only[vW,seval]
  ·cases h3:f.ix
   ·simp only[vW,seval,h3];rfl
   ·simp only[vW,seval,h3]
theorem once_step{all:List Fld}{k:Nat}{f:Fld}{r:List Fld}:onceGo all k (f::r)=(z26 f&&fieldAt all f.n==k&&onceGo all (k+1) r):=rfl
theorem fieldAt_mem{l:List Fld}{f:Fld}(h:f∈l):¬fieldAt l f.n<0:=by
 unfold fieldAt;rw[firstAt_neg];intro hn;have:=hn f h;simp at this
theorem classRight_ok(g:Sh.Glob)(c:Cls)(hc:ClsOk c):SCalls Tryz.prog g 33 [clT c] [] (B (z18 c)) []:=by
 have HN:=rightName_ok g c.n hc.n;have hlen:=hc.len;obtain⟨R,hR⟩:∃R,z18 c=R:=⟨_,rfl⟩
 rw[hR];unfold z18 at hR;refine z7 hmix tf_49 rfl ?_;unfold B at*;simp only[vW,seval,clV];(with_reducible apply v_call);exact kv;rfl;exact HN;exact km;exact kv;cases h1:z13 c.n
 ·rw[h1]at hR;subst hR;simp only[vW,seval]
 rw[h1,Bool.true_and]at hR;by_cases h8:c.fs.length≤8
 ·rw[decide_eq_true h8,Bool.true_and]at hR;have d8:¬(8:Int)<(c.fs.length:Int):=by omega
  simp only[vW,seval,d8,clV];refine v_loop (σ:={k:Nat // k≤c.fs.length∧onceGo c.fs k (c.fs.drop k)=R}) (fun k=>⟨[(18,.pv (.sl 4 (flR c.fs))),(19,I (c.fs.length:Int)),(20,I (k.1:Int)),(1,.ptr 1 0)],[(1,[S (str c.n),.pv (.sl 4 (flR c.fs))])],[],[]⟩) (fun k=>c.fs.length-k.1) ⟨0,Nat.zero_le _,by simpa using hR⟩ ?_ ?_
  ·apply lw_of<;>simp[leL,lk,sv,Nat.beq,I,S,ES.kill,has,drp,nilT]
  rintro⟨k,hk,hT⟩;by_cases hlt:k<c.fs.length
  ·have d1:(k:Int)<(c.fs.length:Int):=by omega
   obtain⟨f,ef⟩:∃f,c.fs[k]?=some f:=⟨_,gE hlt⟩
   have hmem:=gM ef;have HF:=rightField_ok g f (hc.fs f hmem);have HA:=field_ok g c f.n hlen;have hne:=fieldAt_mem hmem;have w1:IntKind.i64.wrap ((k:Int)+1)=((k+1:Nat):Int):=by rw[wrap64 (by omega) (by omega)];omega
   have hdr:c.fs.drop k=f::c.fs.drop (k+1):=by
    rw[List.drop_eq_getElem_cons hlt];congr 1;rw[gE hlt]at ef;exact Option.some.inj ef
   rw[hdr,once_step]at hT;unfold fieldT at HA;rw[if_neg hne]at HA;unfold flT clT B at*;simp only[vW,seval,d1,ef,clV];(with_reducible apply v_call);exact kv;rfl;exact HF;exact km;exact kv;cases h2:z26 f
   ·rw[h2]at hT;subst hT;simp only[vW,seval]
   rw[h2,Bool.true_and]at hT;simp only[vW,seval];(with_reducible apply v_call);exact kv;rfl;exact HA;exact km;exact kv;by_cases hat:fieldAt c.fs f.n=(k:Int)
   ·have hb:(fieldAt c.fs f.n==(k:Int))=true:=by simpa using hat
    rw[hb,Bool.true_and]at hT;simp only[vW,seval,hat,w1];refine z10 ⟨k+1,hlt,hT⟩ (by show c.fs.length-(k+1)<c.fs.length-k;omega) ?_;apply lw_of<;>simp[leL,lk,sv,Nat.beq,I,S,ES.kill,has,drp,nilT]
   ·have hb:(fieldAt c.fs f.n==(k:Int))=false:=by simpa using hat
    rw[hb]at hT;subst hT;simp only[vW,seval,hat]
  ·have d1:¬(k:Int)<(c.fs.length:Int):=by omega
   have hdr:c.fs.drop k=[]:=List.drop_eq_nil_of_le (by omega);rw[hdr]at hT;simp only[vW,seval,d1];rw[←hT];rfl
 ·rw[decide_eq_false h8]at hR;subst hR;have d8:(8:Int)<(c.fs.length:Int):=by omega
  simp only[vW,seval,d8,clV]
def checkT(r:Int×Int):TV:=.tuple [I r.1,I r.2]
theorem classCheck_ok(m:Nat)(c:Cls)(vs:List V)(hc:ClsOk c)(hv:∀x∈vs,VOk x∧x.l.length≤maxLen)(hl:vs.length≤4611686018427387904):SCalls Tryz.prog (gl0 m) 19 [clT c,.pv (.sl 4 (V.rows vs))] [] (checkT (check c vs)) []:=by
 have HR:=classRight_ok (gl0 m) c hc;have hlen:=hc.len;obtain⟨R,hR⟩:∃R,check c vs=R:=⟨_,rfl⟩
 rw[hR];unfold check at hR;refine z7 hmix tf_46 rfl ?_;unfold checkT clT B at*;simp only[vW,seval,clV];(with_reducible apply v_call);exact kv;rfl;exact HR;exact km;exact kv;cases h1:z18 c
 ·rw[h1]at hR;simp at hR;subst hR;simp only[vW,seval]
 rw[h1]at hR;simp only[Bool.not_true,Bool.false_eq_true,if_false]at hR;by_cases h2:vs.length=c.fs.length
 ·have d2:(vs.length:Int)=(c.fs.length:Int):=by omega
  rw[if_neg (by simpa using h2)]at hR;simp only[vW,seval,d2,clV];refine v_loop (σ:={k:Nat // k≤c.fs.length∧z95 k (c.fs.drop k) (vs.drop k)=R}) (fun k=>⟨[(1,.pv (.sl 4 (V.rows vs))),(24,.pv (.sl 4 (flR c.fs))),(25,I (c.fs.length:Int)),(26,I (k.1:Int))],[(2,[S (str c.n),.pv (.sl 4 (flR c.fs))])],[],[]⟩) (fun k=>c.fs.length-k.1) ⟨0,Nat.zero_le _,by simpa using hR⟩ ?_ ?_
  ·apply lw_of<;>simp[leL,lk,sv,Nat.beq,I,S,ES.kill,has,drp,nilT]
  rintro⟨k,hk,hT⟩;by_cases hlt:k<c.fs.length
  ·have d1:(k:Int)<(c.fs.length:Int):=by omega
   obtain⟨f,ef⟩:∃f,c.fs[k]?=some f:=⟨_,gE hlt⟩
   have hlt2:k<vs.length:=by omega
   obtain⟨v,ev⟩:∃v,vs[k]?=some v:=⟨_,gE hlt2⟩
   obtain⟨hv1,hv2⟩:=hv v (gM ev);have HF:=fits_ok0 m v f.t hv1 hv2;have w1:IntKind.i64.wrap ((k:Int)+1)=((k+1:Nat):Int):=by rw[wrap64 (by omega) (by omega)];omega
   have hdr:c.fs.drop k=f::c.fs.drop (k+1):=by
    rw[List.drop_eq_getElem_cons hlt];congr 1;rw[gE hlt]at ef;exact Option.some.inj ef
   have hdv:vs.drop k=v::vs.drop (k+1):=by
    rw[List.drop_eq_getElem_cons hlt2];congr 1;rw[gE hlt2]at ev;exact Option.some.inj ev
   rw[hdr,hdv,z95]at hT;unfold B at HF;simp only[vW,seval,d1,ef,ev,clV];(with_reducible apply v_call);exact kv;rfl;exact HF;exact km;exact kv;cases h3:fitsV v f.t
   ·rw[h3]at hT;simp only[Bool.false_eq_true,if_false]at hT;subst hT;simp only[vW,seval]
   ·rw[h3]at hT;simp only[if_true]at hT;simp only[vW,seval,w1];refine z10 ⟨k+1,hlt,hT⟩ (by show c.fs.length-(k+1)<c.fs.length-k;omega) ?_;apply lw_of<;>simp[leL,lk,sv,Nat.beq,I,S,ES.kill,has,drp,nilT]
  ·have d1:¬(k:Int)<(c.fs.length:Int):=by omega
   have hdr:c.fs.drop k=[]:=List.drop_eq_nil_of_le (by omega);rw[hdr,z95]at hT;subst hT;simp only[vW,seval,d1]
 ·have d2:¬(vs.length:Int)=(c.fs.length:Int):=by omega
  rw[if_pos h2]at hR;subst hR;have hmin:min (vs.length:Int) (c.fs.length:Int)=((min vs.length c.fs.length:Nat):Int):=by omega
  simp only[vW,seval,d2,hmin,clV]
theorem refField_ok(g:Sh.Glob)(c:Cls)(s:List UInt8)(hl:c.fs.length≤4611686018427387904):SCalls Tryz.prog g 46 [clT c,S (str s)] [] (fieldT c.fs s) []:=by
 unfold fieldT;refine z7 hmix tf_108 rfl ?_;simp only[vW,seval,clV];refine v_loop (σ:={i:Nat // i≤c.fs.length∧∀j x,j<i→c.fs[j]?=some x→(x.n==s)=false}) (fun i=>⟨[(1,S (str s)),(6,I (i.1:Int)),(2,.ptr 2 0)],[(2,[S (str c.n),.pv (.sl 4 (flR c.fs))])],[],[]⟩) (fun i=>c.fs.length-i.1) ⟨0,Nat.zero_le _,fun j x hj=>by omega⟩ ?_ ?_
 ·apply lw_of<;>simp[leL,lk,sv,Nat.beq,I,S,ES.kill,has,drp,nilT]
 rintro⟨i,hi,hno⟩;by_cases hlt:i<c.fs.length
 ·have d1:(i:Int)<(c.fs.length:Int):=by omega
  obtain⟨x,ex⟩:∃x,c.fs[i]?=some x:=⟨_,gE hlt⟩
  have w1:IntKind.i64.wrap ((i:Int)+1)=((i+1:Nat):Int):=by rw[wrap64 (by omega) (by omega)];omega
  cases hp:(x.n==s)
  ·simp only[vW,seval,d1,ex,hp,w1,clV];refine z10 ⟨i+1,by omega,fun j y hj hy=> ?_⟩ (by show c.fs.length-(i+1)<c.fs.length-i;omega) ?_
   ·by_cases hji:j=i
    ·subst hji;rw[ex]at hy;cases hy;exact hp
    ·exact hno j y (by omega) hy
   ·apply lw_of<;>simp[leL,lk,sv,Nat.beq,I,S,ES.kill,has,drp,nilT]
  ·have hf:fieldAt c.fs s=(i:Int):=z108 (fun f:Fld=>f.n==s) c.fs i hno x ex hp;rw[hf,if_neg (by omega)];simp only[vW,seval,d1,ex,hp,clV];rfl
 ·have d1:¬(i:Int)<(c.fs.length:Int):=by omega
  have hf:fieldAt c.fs s= -1:=z109 (fun f:Fld=>f.n==s) c.fs (fun x hx=>by
   obtain⟨j,hj⟩:=List.getElem?_of_mem hx;exact hno j x (by have:=(gJ hj).1;omega) hj)
  rw[hf,if_pos (by omega)];simp only[vW,seval,d1,clV];rfl
end Go.Proofs.YtcpaleaajdilgaaGreatDoor
end

section
namespace Go.Proofs.YtcpaleaajdilgaaGreatDoor
open Go Go.Mor
structure Tri(p q r:Int):Prop where
 a: -1≤p∧p≤1
 b: -1≤q∧q≤1
 c: -1≤r∧r≤1
 d:p=0→r=q
 e:q=0→r=p
 f:p= -1→q= -1→r= -1
 g:p=1→q=1→r=1
theorem Tri.lex{p q r p' q' r':Int}(h:Tri p q r)(h':Tri p' q' r'):Tri (thenI p p') (thenI q q') (thenI r r'):=by
 obtain⟨a,b,c,d,e,f,g⟩:=h;obtain⟨a',b',c',d',e',f',g'⟩:=h';unfold thenI;constructor<;>(repeat' split)<;>omega
theorem ordI_anti(a b:Int):ordI b a= -ordI a b:=by
 unfold ordI;(repeat' split)<;>omega
def lexB:List UInt8→List UInt8→Int
 |[],[]=>0
 |[],_::_=> -1
 |_::_,[]=>1
 |a::x,b::y=>thenI (ordI a.toNat b.toNat) (lexB x y)
theorem ordS_lex:∀(x y:List UInt8),ordS x y=lexB x y
 |[],[]=>by simp[ordS,lexB,Op.bytesLess]
 |[],b::y=>by simp[ordS,lexB,Op.bytesLess]
 |a::x,[]=>by simp[ordS,lexB,Op.bytesLess]
 |a::x,b::y=>by
  have ih:=ordS_lex x y;simp only[lexB,←ih];unfold ordS ordI thenI;simp only[Op.bytesLess];have hlt:(a<b) ↔ a.toNat<b.toNat:=UInt8.lt_iff_toNat_lt;have heq:(a=b) ↔ a.toNat=b.toNat:=⟨fun h=>by rw[h],fun h=>UInt8.toNat_inj.1 h⟩
  by_cases h1:a.toNat<b.toNat
  ·have:a<b:=hlt.2 h1;simp[this];omega
  ·have n1:¬a<b:=fun h=>h1 (hlt.1 h);by_cases h2:a=b
   ·subst h2;simp
   ·have n2:¬a.toNat=b.toNat:=fun h=>h2 (heq.2 h);have h3:b.toNat<a.toNat:=by omega
    simp[n1,h2];omega
def Rng(p:Int):Prop:= -1≤p∧p≤1
theorem Rng.lex{p q:Int}(h:Rng p)(h':Rng q):Rng (thenI p q):=by unfold thenI;split<;>assumption
theorem z144{a b c d:Int}(h:b= -a)(h':d= -c):thenI b d= -thenI a c:=by
 unfold thenI;(repeat' split)<;>omega
theorem lexB_anti:∀(x y:List UInt8),lexB y x= -lexB x y
 |[],[]=>by simp[lexB]
 |[],b::y=>by simp[lexB]
 |a::x,[]=>by simp[lexB]
 |a::x,b::y=>by simp only[lexB];exact z144 (ordI_anti _ _) (lexB_anti x y)
theorem ordS_anti(a b:List UInt8):ordS b a= -ordS a b:=by rw[ordS_lex,ordS_lex];exact lexB_anti a b
theorem cmpL_anti:∀(x y:List V),(∀a∈x,∀b,cmpV b a= -cmpV a b)→cmpL y x= -cmpL x y
 |[],[],_=>by simp[cmpL]
 |[],b::y,_=>by simp[cmpL]
 |a::x,[],_=>by simp[cmpL]
 |a::x,b::y,h=>by simp only[cmpL];exact z144 (h a (by simp) b) (cmpL_anti x y fun c hc=>h c (by simp[hc]))
theorem cmpV_antiN(n:Nat):∀x y:V,SizeOf.sizeOf x≤n→cmpV y x= -cmpV x y:=by
 induction n with
 |zero=>intro x y h;cases x;simp at h
 |succ n ih=>
  intro x y h;rw[cmpV_eq x y,cmpV_eq y x];refine z144 (ordI_anti _ _) (z144 (ordI_anti _ _) (z144 (ordS_anti _ _) (cmpL_anti _ _ fun a ha b=>ih a b ?_)));have:=List.sizeOf_lt_of_mem ha;cases x;simp[V.l]at h this ⊢;omega
theorem cmpV_anti(x y:V):cmpV y x= -cmpV x y:=cmpV_antiN _ x y (Nat.le_refl _)
theorem cmpV_self(x:V):cmpV x x=0:=by have:=cmpV_anti x x;omega
end Go.Proofs.YtcpaleaajdilgaaGreatDoor
end

section
namespace Go.Mor
open Go
def ty0:Ty:=⟨0,0⟩
def eqTy(a b:Ty):Bool:=a.k==b.k&&a.o==b.o
def alikeT(a b:Ty):Bool:=eqTy a b&&(a.k==1||a.k==2)
def takeG:List Ty→List Int→Bool
 |[],_=>true
 |t::l,k::r=>t.k==k&&takeG l r
 |_::_,[]=>false
def takeT(k:Int)(ks:List Int)(ps:List Ty):Ty×Bool:=if takeG ps ks then(⟨k,0⟩,true)else(ty0,false)
def operT(s:List UInt8)(ps:List Ty):Ty×Bool:=
 if s=[43]∨s=[45]∨s=[42]∨s=[47]∨s=[37] then takeT 1 [1,1] ps
 else if s=[38] then takeT 2 [2,2] ps
 else(⟨1,0⟩,alikeT (ps.getD 0 ty0) (ps.getD 1 ty0))
def nLen:List UInt8:=[108,101,110]
def nLeft:List UInt8:=[108,101,102,116]
def nRight:List UInt8:=[114,105,103,104,116]
def nFrom:List UInt8:=[102,114,111,109]
def nFind:List UInt8:=[102,105,110,100]
def nText:List UInt8:=[116,101,120,116]
def nNum:List UInt8:=[110,117,109]
def nIf:List UInt8:=[105,102]
def nMin:List UInt8:=[109,105,110]
def nMax:List UInt8:=[109,97,120]
def chooseT(ps:List Ty):Ty×Bool:=if(ps.getD 0 ty0).k=1∧alikeT (ps.getD 1 ty0) (ps.getD 2 ty0)=true then(ps.getD 1 ty0,true)else(ty0,false)
def callT(s:List UInt8)(ps:List Ty):Ty×Bool:=
 if s=nLen then takeT 1 [2] ps else if s=nLeft then takeT 2 [2,1] ps else if s=nRight then takeT 2 [2,1] ps else if s=nFrom then takeT 2 [2,1] ps
 else if s=nFind then takeT 1 [2,2] ps else if s=nText then takeT 2 [1] ps else if s=nNum then takeT 1 [2] ps else if s=nIf then chooseT ps
 else takeT 1 [1,1] ps
def kidsT(t:V→Ty×Bool):List V→Option (List Ty)
 |[]=>some []
 |x::l=>if(t x).2 then(kidsT t l).map ((t x).1::·)else none
def nodeT(fs:List Fld)(e:V)(ps:List Ty):Ty×Bool:=
 if e.k=2 then(⟨2,0⟩,true)
 else if e.k=3 then(if fieldAt fs e.s<0 then(ty0,false)else((fs.getD (fieldAt fs e.s).toNat ⟨[],ty0,false⟩).t,true))
 else if e.k=4 then operT e.s ps
 else if e.k=5 then takeT 1 [1] ps
 else if e.k=6 then callT e.s ps
 else(⟨1,0⟩,true)
def typeV(fs:List Fld):Nat→V→Ty×Bool
 |0,_=>(ty0,false)
 |d+1,e=>match kidsT (typeV fs d) e.l with
  |none=>(ty0,false)
  |some ps=>nodeT fs e ps
def cutN(n:Int):Int:=max (-1000000000000000) (min n 1000000000000000)
def numE(n:Int):V:=.mk 1 (cutN n) [] []
def cutGo:Nat→List UInt8→Nat→Nat
 |0,_,a=>a
 |f+1,l,a=>if l=[] then a else if 60<(a:Int)+Lib.runeLen ((Lib.decodeL l).1:Int)then a else cutGo f (l.drop (Lib.decodeL l).2) (a+(Lib.decodeL l).2)
def cutT(s:List UInt8):List UInt8:=s.take (cutGo s.length s 0)
def textE(s:List UInt8):V:=.mk 2 0 (cutT s) []
def signsGo:Nat→List UInt8→Nat
 |0,_=>0
 |f+1,l=>if l=[] then 0 else signsGo f (l.drop (Lib.decodeL l).2)+1
def signsV(s:List UInt8):Nat:=signsGo s.length s
def behGo:Nat→List UInt8→Nat→Nat→Int→Nat
 |0,_,a,_,_=>a
 |f+1,l,a,k,n=>if l=[] then a else if n≤(k:Int)then a else behGo f (l.drop (Lib.decodeL l).2) (a+(Lib.decodeL l).2) (k+1) n
def behV(s:List UInt8)(n:Int):Nat:=behGo s.length s 0 0 n
def findV(t u:List UInt8):Int:=if Lib.index t u<0 then -1 else(signsV (t.take (Lib.index t u).toNat):Int)
def toldV(t:List UInt8):Int:=match Lib.atoiAll t with
 | .ok v=>if v< -1000000000000000∨1000000000000000<v∨Lib.itoa v≠t then 0 else v
 |_=>0
def prodV(a b:Int):Int:=if a=0∨max b (-b)≤(1000000000000000:Int).tdiv (max a (-a))then a*b else if(decide (a<0)==decide (b<0))=true then 1000000000000000 else -1000000000000000
def quotV(s:List UInt8)(a b:Int):Int:=if b=0 then 0 else if s=[47] then a.tdiv b else a.tmod b
def holdsV(s:List UInt8)(c:Int):Bool:=
 if s=[60,61] then decide (c≤0)else if s=[61] then decide (c=0)else if s=[62,61] then decide (0≤c)else if s=[62] then decide (0<c)else if s=[60,62] then decide (c≠0)else decide (c<0)
def opV(s:List UInt8)(a b:V):V:=
 if s=[45] then numE (a.n+ -b.n)else if s=[43] then numE (a.n+b.n)else if s=[42] then numE (prodV a.n b.n)
 else if s=[47]∨s=[37] then numE (quotV s a.n b.n)else if s=[38] then textE (a.s++b.s)
 else if holdsV s (Go.Proofs.YtcpaleaajdilgaaGreatDoor.cmpV a b)then numE 1 else numE 0
def callV(s:List UInt8)(l:List V):V:=
 let x:=l.getD 0 V.nil
 let y:=l.getD 1 V.nil
 if s=nLen then numE (signsV x.s)else if s=nLeft then textE (x.s.take (behV x.s y.n))else if s=nRight then textE (x.s.drop (behV x.s (signsV x.s-y.n)))
 else if s=nFrom then textE (x.s.drop (behV x.s y.n))else if s=nFind then numE (findV x.s y.s)else if s=nText then textE (Lib.itoa x.n)else if s=nNum then numE (toldV x.s)
 else if s=nIf then(if x.n≠0 then y else l.getD 2 V.nil)else if s=nMin then numE (min x.n y.n)else numE (max x.n y.n)
def nodeW(fs:List Fld)(vals:List V)(e:V)(ps:List V):V:=
 if e.k=2 then textE e.s
 else if e.k=3 then vals.getD (fieldAt fs e.s).toNat V.nil
 else if e.k=4 then opV e.s (ps.getD 0 V.nil) (ps.getD 1 V.nil)
 else if e.k=5 then numE (-(ps.getD 0 V.nil).n)
 else if e.k=6 then callV e.s ps
 else numE e.n
def worthV(fs:List Fld)(vals:List V):Nat→V→V
 |0,_=>V.nil
 |d+1,e=>nodeW fs vals e (e.l.map (worthV fs vals d))
def typeA(c:Cls)(e:V):Ty×Int:=if rightE e then(if z18 c then(if(typeV c.fs 8 e).2 then((typeV c.fs 8 e).1,0)else(ty0,60))else(ty0,40))else(ty0,50)
def evalA(c:Cls)(vals:List V)(e:V):V×Int:=if(typeA c e).2≠0 then(V.nil,(typeA c e).2)else if(check c vals).2≠0 then(V.nil,(check c vals).2)else(worthV c.fs vals 8 e,0)
end Go.Mor
end

section
namespace Go.Mor
open Go
set_option maxRecDepth 100000
set_option maxHeartbeats 4000000
structure Sgn(g:List UInt8):Prop where
 pos:1≤g.length
 le:g.length≤4
 dec:∀t,Lib.decodeL (g++t)=((Lib.decodeL g).1,g.length)
 rl:Lib.runeLen ((Lib.decodeL g).1:Int)=(g.length:Int)
 ok:¬((Lib.decodeL g).1=65533∧g.length=1)
 hd:(g.getD 0 0).toNat<128∨192≤(g.getD 0 0).toNat
 tl:∀c∈g.drop 1,128≤c.toNat∧c.toNat<192
 pl:plainR (Lib.decodeL g).1=true
theorem dec2{b c:UInt8}(h0:¬b.toNat<128)(h1:b.toNat / 32=6)(h2:c.toNat / 64=2)(hr:b.toNat%32*64+c.toNat%64≥128)(t:List UInt8):Lib.decodeL (b::c::t)=(b.toNat%32*64+c.toNat%64,2):=by
 rw[Lib.decodeL_N];simp only[List.getD_cons_zero,List.getD_cons_succ,List.length_cons];unfold Lib.decodeN;rw[if_neg h0,if_pos ⟨h1,by omega,h2⟩,if_pos hr]
theorem dec3{b c d:UInt8}(h0:¬b.toNat<128)(h1:b.toNat / 16=14)(h2:c.toNat / 64=2)(h3:d.toNat / 64=2)
  (hr:b.toNat%16*4096+c.toNat%64*64+d.toNat%64≥2048∧(b.toNat%16*4096+c.toNat%64*64+d.toNat%64<55296∨(57344≤b.toNat%16*4096+c.toNat%64*64+d.toNat%64∧b.toNat%16*4096+c.toNat%64*64+d.toNat%64≤1114111))) (t:List UInt8):
  Lib.decodeL (b::c::d::t)=(b.toNat%16*4096+c.toNat%64*64+d.toNat%64,3):=by
 rw[Lib.decodeL_N];simp only[List.getD_cons_zero,List.getD_cons_succ,List.length_cons];unfold Lib.decodeN;rw[if_neg h0,if_neg (by omega),if_pos ⟨h1,⟨by omega,h2⟩,by omega,h3⟩,if_pos hr]
theorem dec4{b c d e:UInt8}(h0:¬b.toNat<128)(h1:b.toNat / 8=30)(h2:c.toNat / 64=2)(h3:d.toNat / 64=2)(h4:e.toNat / 64=2)
  (hr:b.toNat%8*262144+c.toNat%64*4096+d.toNat%64*64+e.toNat%64≥65536∧(b.toNat%8*262144+c.toNat%64*4096+d.toNat%64*64+e.toNat%64<55296∨(57344≤b.toNat%8*262144+c.toNat%64*4096+d.toNat%64*64+e.toNat%64∧b.toNat%8*262144+c.toNat%64*4096+d.toNat%64*64+e.toNat%64≤1114111))) (t:List UInt8):
  Lib.decodeL (b::c::d::e::t)=(b.toNat%8*262144+c.toNat%64*4096+d.toNat%64*64+e.toNat%64,4):=by
 rw[Lib.decodeL_N];simp only[List.getD_cons_zero,List.getD_cons_succ,List.length_cons];unfold Lib.decodeN;rw[if_neg h0,if_neg (by omega),if_neg (by omega),if_pos ⟨h1,⟨by omega,h2⟩,⟨by omega,h3⟩,by omega,h4⟩,if_pos hr]
theorem rl_of{n:Nat}{k:Int}(h:(n<128∧k=1)∨(128≤n∧n<2048∧k=2)∨(2048≤n∧(n<55296∨57344≤n)∧n<65536∧k=3)∨(65536≤n∧n≤1114111∧k=4)):Lib.runeLen (n:Int)=k:=by
 unfold Lib.runeLen
 repeat' split
 all_goals omega
theorem one_of{r:List UInt8}(h:1≤r.length):∃c t,r=c::t:=by
 match r,h with
 |c::t,_=>exact⟨c,t,rfl⟩
theorem two_of{r:List UInt8}(h:2≤r.length):∃c d t,r=c::d::t:=by
 match r,h with
 |c::d::t,_=>exact⟨c,d,t,rfl⟩
theorem three_of{r:List UInt8}(h:3≤r.length):∃c d e t,r=c::d::e::t:=by
 match r,h with
 |c::d::e::t,_=>exact⟨c,d,e,t,rfl⟩
theorem sgn_of{l:List UInt8}(hne:l≠[])(hv:¬((Lib.decodeL l).1=65533∧(Lib.decodeL l).2=1))(hp:plainR (Lib.decodeL l).1=true):Sgn (l.take (Lib.decodeL l).2):=by
 obtain⟨b,r,rfl⟩:=List.exists_cons_of_ne_nil hne;have hN:=Lib.decodeL_N (b::r);unfold Lib.decodeN at hN;by_cases h0:b.toNat<128
 ·have hd:=fun t=>Lib.decodeL_ascii b t h0;rw[hd]at hp hv ⊢;rw[List.take_succ_cons,List.take_zero];exact⟨by simp,by simp,fun t=>by rw[List.singleton_append,hd,hd];rfl,by rw[hd];exact rl_of (.inl ⟨h0,rfl⟩),by rw[hd];simp;omega,.inl h0,by simp,by rw[hd];exact hp⟩
 ·simp only[List.getD_cons_zero,if_neg h0,List.getD_cons_succ,List.length_cons]at hN;split at hN
  ·rename_i h1;split at hN
   ·rename_i h2;obtain⟨c,t,rfl⟩:=one_of (r:=r) (by omega)
    ·simp only[List.getD_cons_zero]at h1 h2;have hd:=fun t=>dec2 h0 h1.1 h1.2.2 h2 t;have hc:=c.toNat_lt;rw[hd]at hp hv ⊢;simp only[List.take_succ_cons,List.take_zero];refine⟨by simp,by simp,fun t=> ?_,by rw[hd];exact rl_of (.inr (.inl ⟨h2,by omega,rfl⟩)),by simp,.inr (by show 192≤b.toNat;omega),?_,by rw[hd];exact hp⟩
     ·rw[List.cons_append,List.cons_append,List.nil_append,hd,hd];rfl
     ·intro x hx;simp at hx;subst hx;omega
   ·exact absurd (by rw[hN];exact⟨rfl,rfl⟩) hv
  split at hN
  ·rename_i h1;split at hN
   ·rename_i h2;obtain⟨c,d,t,rfl⟩:=two_of (r:=r) (by omega)
    ·simp only[List.getD_cons_zero,List.getD_cons_succ]at h1 h2;have hd:=fun t=>dec3 h0 h1.1 h1.2.1.2 h1.2.2.2 h2 t;have hc:=c.toNat_lt;have hc2:=d.toNat_lt;rw[hd]at hp hv ⊢;simp only[List.take_succ_cons,List.take_zero];refine⟨by simp,by simp,fun t=> ?_,by rw[hd];exact rl_of (.inr (.inr (.inl ⟨h2.1,by omega,by omega,rfl⟩))),by simp,.inr (by show 192≤b.toNat;omega),?_,by rw[hd];exact hp⟩
     ·rw[List.cons_append,List.cons_append,List.cons_append,List.nil_append,hd,hd];rfl
     ·intro x hx;simp at hx;rcases hx with rfl|rfl<;>omega
   ·exact absurd (by rw[hN];exact⟨rfl,rfl⟩) hv
  split at hN
  ·rename_i h1;split at hN
   ·rename_i h2;obtain⟨c,d,e,t,rfl⟩:=three_of (r:=r) (by omega)
    ·simp only[List.getD_cons_zero,List.getD_cons_succ]at h1 h2;have hd:=fun t=>dec4 h0 h1.1 h1.2.1.2 h1.2.2.1.2 h1.2.2.2.2 h2 t;have hc:=c.toNat_lt;have hc2:=d.toNat_lt;have hc3:=e.toNat_lt;rw[hd]at hp hv ⊢;simp only[List.take_succ_cons,List.take_zero];refine⟨by simp,by simp,fun t=> ?_,by rw[hd];exact rl_of (.inr (.inr (.inr ⟨h2.1,by omega,rfl⟩))),by simp,.inr (by show 192≤b.toNat;omega),?_,by rw[hd];exact hp⟩
     ·rw[List.cons_append,List.cons_append,List.cons_append,List.cons_append,List.nil_append,hd,hd];rfl
     ·intro x hx;simp at hx;rcases hx with rfl|rfl|rfl<;>omega
   ·exact absurd (by rw[hN];exact⟨rfl,rfl⟩) hv
  ·exact absurd (by rw[hN];exact⟨rfl,rfl⟩) hv
theorem Sgn.ne{g:List UInt8}(h:Sgn g):g≠[]:=by intro e;have:=h.pos;rw[e]at this;simp at this
def Txt(gs:List (List UInt8)):Prop:=∀g∈gs,Sgn g
theorem Txt.tail{g:List UInt8}{gs:List (List UInt8)}(h:Txt (g::gs)):Txt gs:=fun x hx=>h x (List.mem_cons_of_mem _ hx)
theorem Txt.head{g:List UInt8}{gs:List (List UInt8)}(h:Txt (g::gs)):Sgn g:=h g (List.mem_cons_self ..)
theorem Txt.take{gs:List (List UInt8)}(h:Txt gs)(n:Nat):Txt (gs.take n):=fun x hx=>h x (List.mem_of_mem_take hx)
theorem Txt.drop{gs:List (List UInt8)}(h:Txt gs)(n:Nat):Txt (gs.drop n):=fun x hx=>h x (List.mem_of_mem_drop hx)
theorem Txt.app{gs hs:List (List UInt8)}(h:Txt gs)(h':Txt hs):Txt (gs++hs):=fun x hx=>(List.mem_append.1 hx).elim (h x) (h' x)
theorem txt_of:∀(n:Nat) (s:List UInt8),s.length≤n→Lib.validD s=true→plainD s=true→∃gs,Txt gs∧gs.flatten=s
 |0,s,h,_,_=>by
  obtain rfl:=List.eq_nil_of_length_eq_zero (Nat.le_zero.1 h);exact⟨[],by intro g hg;simp at hg,rfl⟩
 |n+1,s,h,hv,hp=>by
  by_cases hne:s=[]
  ·subst hne;exact⟨[],by intro g hg;simp at hg,rfl⟩
  rw[Lib.validD_step s hne]at hv;rw[plainD_step s hne,Bool.and_eq_true]at hp;split at hv
  ·cases hv
  ·rename_i hok;have hw:=Lib.decodeL_width s;obtain⟨gs,h1,h2⟩:=txt_of n (s.drop (Lib.decodeL s).2) (by rw[List.length_drop];omega) hv hp.2;refine⟨s.take (Lib.decodeL s).2::gs,fun g hg=> ?_,by rw[List.flatten_cons,h2,List.take_append_drop]⟩;rcases List.mem_cons.1 hg with rfl|hg
   ·exact sgn_of hne hok hp.1
   ·exact h1 g hg
theorem txt_dec{g:List UInt8}{gs:List (List UInt8)}(h:Txt (g::gs)):Lib.decodeL (g::gs).flatten=((Lib.decodeL g).1,g.length):=by rw[List.flatten_cons];exact h.head.dec _
theorem flat_ne{g:List UInt8}{gs:List (List UInt8)}(h:Txt (g::gs)):(g::gs).flatten≠[]:=by
 rw[List.flatten_cons];intro e;exact h.head.ne (List.append_eq_nil_iff.1 e).1
theorem flat_drop{g:List UInt8}{gs:List (List UInt8)}:((g::gs).flatten).drop g.length=gs.flatten:=by rw[List.flatten_cons,List.drop_left]
theorem txt_valid:∀(gs:List (List UInt8)),Txt gs→Lib.validD gs.flatten=true∧plainD gs.flatten=true
 |[],_=>⟨rfl,rfl⟩
 |g::gs,h=>by
  obtain⟨h1,h2⟩:=txt_valid gs h.tail;rw[Lib.validD_step _ (flat_ne h),plainD_step _ (flat_ne h),txt_dec h];simp only[flat_drop];rw[if_neg h.head.ok,h1,h2,h.head.pl];exact⟨rfl,rfl⟩
theorem txt_right{gs:List (List UInt8)}(h:Txt gs)(hl:gs.flatten.length≤60):z15 gs.flatten=true:=by
 obtain⟨h1,h2⟩:=txt_valid gs h;unfold z15;rw[h1,h2];simpa using hl
theorem z158{s:List UInt8}(h:z15 s=true):∃gs,Txt gs∧gs.flatten=s∧s.length≤60:=by
 unfold z15 at h;rw[Bool.and_eq_true,Bool.and_eq_true,decide_eq_true_eq]at h;obtain⟨gs,h1,h2⟩:=txt_of s.length s (Nat.le_refl _) h.2.1 h.2.2;exact⟨gs,h1,h2,h.1⟩
theorem flat_len:∀(gs:List (List UInt8)),Txt gs→gs.length≤gs.flatten.length
 |[],_=>by simp
 |g::gs,h=>by
  have:=flat_len gs h.tail;have:=h.head.pos;rw[List.flatten_cons,List.length_append,List.length_cons];omega
theorem behGo_txt:∀(gs:List (List UInt8)) (f a k:Nat) (n:Int),Txt gs→gs.flatten.length≤f→behGo f gs.flatten a k n=a+(gs.take (n-k).toNat).flatten.length
 |[],f,a,k,n,_,_=>by cases f<;>simp[behGo]
 |g::gs,f,a,k,n,h,hf=>by
  have hp:=h.head.pos;rw[List.flatten_cons,List.length_append]at hf;obtain⟨j,rfl⟩:∃j,f=j+1:=⟨f-1,by omega⟩
  rw[behGo,if_neg (flat_ne h),txt_dec h];simp only[flat_drop];by_cases hk:n≤(k:Int)
  ·rw[if_pos hk,show(n-k).toNat=0 by omega];simp
  ·rw[if_neg hk,behGo_txt gs j _ (k+1) n h.tail (by omega),show(n-(k:Int)).toNat=(n-((k+1:Nat):Int)).toNat+1 by omega,List.take_succ_cons,List.flatten_cons,List.length_append];omega
theorem beh_txt{gs:List (List UInt8)}(h:Txt gs)(n:Int):behV gs.flatten n=(gs.take n.toNat).flatten.length:=by
 unfold behV;rw[behGo_txt gs _ 0 0 n h (Nat.le_refl _)];simp
theorem z164(gs:List (List UInt8))(n:Nat):gs.flatten=(gs.take n).flatten++(gs.drop n).flatten:=by
 rw[←List.flatten_append,List.take_append_drop]
theorem take_beh{gs:List (List UInt8)}(h:Txt gs)(n:Int):gs.flatten.take (behV gs.flatten n)=(gs.take n.toNat).flatten:=by
 rw[beh_txt h]
 conv=>lhs;rw[z164 gs n.toNat]
 rw[List.take_left]
theorem drop_beh{gs:List (List UInt8)}(h:Txt gs)(n:Int):gs.flatten.drop (behV gs.flatten n)=(gs.drop n.toNat).flatten:=by
 rw[beh_txt h]
 conv=>lhs;rw[z164 gs n.toNat]
 rw[List.drop_left]
theorem cutGo_txt:∀(gs:List (List UInt8)) (f a:Nat),Txt gs→gs.flatten.length≤f→a≤60→∃k,k≤gs.length∧cutGo f gs.flatten a=a+(gs.take k).flatten.length∧a+(gs.take k).flatten.length≤60∧(k=gs.length∨60<a+(gs.take (k+1)).flatten.length)
 |[],f,a,_,_,ha=>⟨0,by simp,by cases f<;>simp[cutGo],by simpa using ha,.inl rfl⟩
 |g::gs,f,a,h,hf,ha=>by
  have hp:=h.head.pos;rw[List.flatten_cons,List.length_append]at hf;obtain⟨j,rfl⟩:∃j,f=j+1:=⟨f-1,by omega⟩
  rw[cutGo,if_neg (flat_ne h),txt_dec h];simp only[flat_drop];rw[h.head.rl];by_cases hk:(60:Int)<(a:Int)+(g.length:Int)
  ·rw[if_pos hk];refine⟨0,by simp,by simp,by simpa using ha,.inr ?_⟩;simp;omega
  ·rw[if_neg hk];obtain⟨k,h1,h2,h3,h4⟩:=cutGo_txt gs j (a+g.length) h.tail (by omega) (by omega);refine⟨k+1,by simpa using h1,?_,?_,?_⟩
   ·rw[h2,List.take_succ_cons,List.flatten_cons,List.length_append];omega
   ·rw[List.take_succ_cons,List.flatten_cons,List.length_append];omega
   ·rcases h4 with h4|h4
    ·left;simp[h4]
    ·right;rw[List.take_succ_cons,List.flatten_cons,List.length_append];omega
theorem cut_txt{gs:List (List UInt8)}(h:Txt gs):∃k,k≤gs.length∧cutT gs.flatten=(gs.take k).flatten∧(gs.take k).flatten.length≤60∧(k=gs.length∨60<(gs.take (k+1)).flatten.length):=by
 obtain⟨k,h1,h2,h3,h4⟩:=cutGo_txt gs _ 0 h (Nat.le_refl _) (by omega);rw[Nat.zero_add]at h2 h3 h4;refine⟨k,h1,?_,h3,h4⟩;unfold cutT;rw[h2]
 conv=>lhs;rw[z164 gs k]
 rw[List.take_left]
theorem take_flat_le(gs:List (List UInt8))(k:Nat):(gs.take k).flatten.length≤gs.flatten.length:=by
 have:=congrArg List.length (z164 gs k);rw[List.length_append]at this;omega
theorem cut_id{gs:List (List UInt8)}(h:Txt gs)(hl:gs.flatten.length≤60):cutT gs.flatten=gs.flatten:=by
 obtain⟨k,h1,h2,h3,h4⟩:=cut_txt h;rcases h4 with h4|h4
 ·rw[h2,h4,List.take_length]
 ·have:=take_flat_le gs (k+1);omega
theorem cut_right{gs:List (List UInt8)}(h:Txt gs):z15 (cutT gs.flatten)=true:=by
 obtain⟨k,h1,h2,h3,_⟩:=cut_txt h;rw[h2];exact txt_right (h.take k) h3
theorem cut_of_right{s:List UInt8}(h:z15 s=true):cutT s=s:=by
 obtain⟨gs,h1,rfl,h3⟩:=z158 h;exact cut_id h1 h3
theorem sgn_ascii{b:UInt8}(h0:32≤b.toNat)(h1:b.toNat<127):Sgn [b]:=by
 have hd:=Lib.decodeL_ascii b [] (by omega);have hp:plainR b.toNat=true:=by unfold plainR;simp;omega
 have:=sgn_of (l:=[b]) (by simp) (by rw[hd];simp;omega) (by rw[hd];exact hp);rw[hd]at this;simpa using this
theorem txt_ascii{s:List UInt8}(h:∀b∈s,32≤b.toNat∧b.toNat<127):Txt (s.map fun b=>[b])∧(s.map fun b=>[b]).flatten=s:=by
 refine⟨fun g hg=> ?_,?_⟩
 ·obtain⟨b,hb,rfl⟩:=List.mem_map.1 hg;exact sgn_ascii (h b hb).1 (h b hb).2
 ·induction s with
  |nil=>rfl
  |cons b s ih=>rw[List.map_cons,List.flatten_cons,ih fun c hc=>h c (List.mem_cons_of_mem _ hc)];rfl
end Go.Mor
end

section
namespace Go.Mor
open Go Go.RowKit
set_option maxHeartbeats 1000000
def txts(i:Int):List UInt8:=([[],[97],[98,99],[195,169,116,195,169],[97,32,98],[122,122,32,116,111,112],[48],[45,55]]:List (List UInt8)).getD i.toNat []
def mkVal1(k n many:Int):V:=
 if k=1 then .mk 1 (pick n 41-20) [] []
 else if k=2 then .mk 2 0 (txts (pick n 8)) []
 else if many<1∨pick n 5=4 then V.nil
 else .mk k (1+pick n many) [] []
def mkVal(t:Ty)(n many:Int):V:=
 if t.k=5 then .mk 5 0 [] ((List.range (pick n 4).toNat).map fun i:Nat=>mkVal1 t.o (n.tdiv 4+(i:Int)) many)else mkVal1 t.k n many
def rawN(l:List Int)(i:Nat):Int:=if l=[] then i else IntKind.i64.wrap (l.getD (i%l.length) 0+i)
def mkVals(fs:List Fld)(l:List Int)(many:Int):List V:=fs.mapIdx fun i f=>mkVal f.t (rawN l i) many
theorem txts_right(j:Int)(h0:0≤j)(h1:j<8):z15 (txts j)=true:=by
 have:j=0∨j=1∨j=2∨j=3∨j=4∨j=5∨j=6∨j=7:=by omega
 rcases this with rfl|rfl|rfl|rfl|rfl|rfl|rfl|rfl<;>rfl
theorem right1_of(k n many:Int)(hk:1≤k∧k≤4)(hm:many≤100000):right1 (mkVal1 k n many)=true∧(mkVal1 k n many).l=[]∧ofKind (mkVal1 k n many) k=true∧(mkVal1 k n many).k≠5∧(mkVal1 k n many).s.length≤60:=by
 unfold mkVal1;by_cases h1:k=1
 ·subst h1;have:=z32 n 41 (by omega);simp[right1,bare,ofKind,V.k,V.n,V.s,V.l];omega
 ·rw[if_neg h1];by_cases h2:k=2
  ·subst h2;have h8:=z32 n 8 (by omega);have:=txts_right _ h8.1 h8.2;have hl:(txts (pick n 8)).length≤60:=by simp only[z15,Bool.and_eq_true,decide_eq_true_iff]at this;exact this.1
   simp[right1,ofKind,V.k,V.n,V.s,V.l,this,hl]
  ·rw[if_neg h2];by_cases h3:many<1∨pick n 5=4
   ·rw[if_pos h3];have hk34:k=3∨k=4:=by omega
    refine⟨by decide,rfl,?_,by decide,by decide⟩;rcases hk34 with rfl|rfl<;>decide
   ·rw[if_neg h3];have:=z32 n many (by omega);have hk34:k=3∨k=4:=by omega
    have hid:rightID (1+pick n many)=true:=by simp[rightID];omega
    refine⟨?_,rfl,by simp[ofKind,V.k],by simp[V.k];omega,by simp[V.s]⟩;rcases hk34 with rfl|rfl<;>simp[right1,bare,V.k,V.n,V.s,V.l,hid]
end Go.Mor
end

section
namespace Go.Mor
open Go
set_option maxHeartbeats 2000000
theorem cutN_rng(n:Int): -1000000000000000≤cutN n∧cutN n≤1000000000000000:=by unfold cutN;omega
theorem z56(n:Int):fitsV (numE n) ⟨1,0⟩=true:=by
 have:=cutN_rng n;unfold numE;simp[fitsV,rightV,right1,bare,z19,ofKind,V.k,V.n,V.s,V.l,this.1,this.2]
theorem z134{s:List UInt8}(h:z15 s=true):fitsV (.mk 2 0 s []) ⟨2,0⟩=true:=by
 simp[fitsV,rightV,right1,z19,ofKind,V.k,V.n,V.s,V.l,h]
theorem fits_right{v:V}{t:Ty}(h:fitsV v t=true):rightV v=true:=by
 unfold fitsV at h;simp only[Bool.and_eq_true]at h;exact h.1.1.1
theorem fits_kind{v:V}{t:Ty}(h:fitsV v t=true)(hk:t.k≠3)(hk4:t.k≠4):v.k=t.k:=by
 unfold fitsV ofKind at h;simp only[Bool.and_eq_true,Bool.or_eq_true,beq_iff_eq]at h;rcases h.1.2 with h|h
 ·exact h
 ·rcases h.2 with h|h
  ·exact absurd h hk
  ·exact absurd h hk4
theorem text_of{v:V}{t:Ty}(h:fitsV v t=true)(hk:t.k=2):v.k=2∧v.n=0∧v.l=[]∧z15 v.s=true:=by
 have h1:=fits_kind h (by omega) (by omega);have h2:=fits_right h;rw[hk]at h1;unfold rightV right1 at h2;rw[if_neg (by omega),if_neg (by omega),if_neg (by omega),if_pos h1]at h2;simp only[Bool.and_eq_true,beq_iff_eq,List.length_eq_zero_iff]at h2;exact⟨h1,h2.1.1,h2.1.2,h2.2⟩
theorem num_of{v:V}{t:Ty}(h:fitsV v t=true)(hk:t.k=1):v.k=1∧ -1000000000000000≤v.n∧v.n≤1000000000000000∧v.s=[]∧v.l=[]:=by
 have h1:=fits_kind h (by omega) (by omega);have h2:=fits_right h;rw[hk]at h1;unfold rightV right1 bare at h2;rw[if_neg (by omega),if_neg (by omega),if_pos h1]at h2;simp only[Bool.and_eq_true,beq_iff_eq,List.length_eq_zero_iff,decide_eq_true_eq]at h2;exact⟨h1,h2.1.2,h2.2,h2.1.1.1,h2.1.1.2⟩
theorem right_of_text{s:List UInt8}(h:z15 s=true):z15 (cutT s)=true:=by rw[cut_of_right h];exact h
theorem cut_app{s t:List UInt8}(hs:z15 s=true)(ht:z15 t=true):z15 (cutT (s++t))=true:=by
 obtain⟨gs,h1,rfl,_⟩:=z158 hs;obtain⟨hs',h2,rfl,_⟩:=z158 ht;rw[←List.flatten_append];exact cut_right (h1.app h2)
theorem cut_take{s:List UInt8}(hs:z15 s=true)(n:Int):z15 (cutT (s.take (behV s n)))=true:=by
 obtain⟨gs,h1,rfl,_⟩:=z158 hs;rw[take_beh h1];exact cut_right (h1.take _)
theorem cut_drop{s:List UInt8}(hs:z15 s=true)(n:Int):z15 (cutT (s.drop (behV s n)))=true:=by
 obtain⟨gs,h1,rfl,_⟩:=z158 hs;rw[drop_beh h1];exact cut_right (h1.drop _)
theorem itoa_ascii(n:Int):∀b∈Lib.itoa n,32≤b.toNat∧b.toNat<127:=by
 have hd:∀m:Nat,∀b∈Lib.decDigits m,32≤b.toNat∧b.toNat<127:=by
  intro m
  induction m using Nat.strongRecOn with
  |_ m ih=>
   intro b hb;by_cases hm:m<10
   ·rw[Lib.decDigits_one hm]at hb;simp only[List.mem_cons,List.not_mem_nil,or_false]at hb;subst hb;rw[digC m hm];omega
   ·rw[Lib.decDigits,dif_neg hm,List.mem_append]at hb;rcases hb with hb|hb
    ·exact ih _ (by omega) b hb
    ·simp only[List.mem_cons,List.not_mem_nil,or_false]at hb;subst hb;rw[digC (m%10) (by omega)];omega
 intro b hb;unfold Lib.itoa at hb;split at hb
 ·rcases List.mem_cons.1 hb with rfl|hb
  ·decide
  ·exact hd _ b hb
 ·exact hd _ b hb
theorem cut_itoa(n:Int):z15 (cutT (Lib.itoa n))=true:=by
 obtain⟨h1,h2⟩:=txt_ascii (itoa_ascii n);have:=cut_right h1
 rwa [h2]at this
theorem z67{k:Int}{ks:List Int}{ps:List Ty}{t:Ty}(h:takeT k ks ps=(t,true)):t=⟨k,0⟩∧takeG ps ks=true:=by
 unfold takeT at h;split at h
 ·rename_i h1;cases h;exact⟨rfl,h1⟩
 ·cases h
theorem takeG_at:∀{ps:List Ty} {ks:List Int} {i:Nat} {t:Ty},takeG ps ks=true→ps[i]?=some t→ks[i]?=some t.k
 |t::l,k::r,0,t',h,e=>by
  cases e;rw[takeG,Bool.and_eq_true,beq_iff_eq]at h;simp[h.1]
 |t::l,k::r,i+1,t',h,e=>by
  rw[takeG,Bool.and_eq_true]at h;have:=takeG_at (ps:=l) (ks:=r) (i:=i) (t:=t') h.2 (by simpa using e);simpa using this
 |t::l,[],_,_,h,_=>by simp[takeG]at h
 |[],_,_,_,_,e=>by simp at e
theorem kidsT_at{t:V→Ty×Bool}:∀{l:List V} {ps:List Ty},kidsT t l=some ps→ps.length=l.length∧∀(i:Nat) x,l[i]?=some x→(t x).2=true∧ps[i]?=some (t x).1
 |[],ps,h=>by cases h;exact⟨rfl,fun i x e=>by simp at e⟩
 |x::l,ps,h=>by
  unfold kidsT at h;split at h
  ·rename_i h1;obtain⟨qs,h2,rfl⟩:=gO h;obtain⟨h3,h4⟩:=kidsT_at h2;refine⟨by simp[h3],fun i y e=> ?_⟩;cases i with
   |zero=>cases e;exact⟨h1,rfl⟩
   |succ i=>simpa using h4 i y (by simpa using e)
  ·cases h
def FitAll(fs:List Fld)(vals:List V):Prop:=(∀f∈fs,z19 f.t=true)∧vals.length=fs.length∧∀(i:Nat) f v,fs[i]?=some f→vals[i]?=some v→fitsV v f.t=true
theorem getD_at{α:Type}{l:List α}{i:Nat}{x d:α}(h:l[i]?=some x):l.getD i d=x:=by rw[List.getD_eq_getElem?_getD,h];rfl
theorem field_at{fs:List Fld}{vals:List V}(hf:FitAll fs vals){s:List UInt8}(h:¬fieldAt fs s<0):∃f v,fs[(fieldAt fs s).toNat]?=some f∧vals[(fieldAt fs s).toNat]?=some v∧fitsV v f.t=true∧f.n=s:=by
 obtain⟨k,hk⟩:∃k:Nat,fieldAt fs s=k:=⟨(fieldAt fs s).toNat,by omega⟩
 obtain⟨f,h1,h2⟩:=z163 _ _ k hk;rw[hk,Int.toNat_natCast];have hlt:k<vals.length:=by rw[hf.2.1];exact(gJ h1).1
 exact⟨f,vals[k],h1,gE hlt,hf.2.2 k f _ h1 (gE hlt),by simpa using h2⟩
theorem z151{s:List UInt8}(h:0<takesV s):s=nLen∨s=nText∨s=nNum∨s=nLeft∨s=nRight∨s=nFrom∨s=nFind∨s=nMin∨s=nMax∨s=nIf:=by
 unfold takesV at h;split at h
 ·rename_i h1;rcases h1 with h1|h1|h1<;>simp[h1,nLen,nText,nNum]
 split at h
 ·rename_i h1;rcases h1 with h1|h1|h1|h1|h1|h1<;>simp[h1,nLeft,nRight,nFrom,nFind,nMin,nMax]
 split at h
 ·rename_i h1;simp[h1,nIf]
 ·omega
theorem alike_inv{a b:Ty}(h:alikeT a b=true):a=b∧(a.k=1∨a.k=2):=by
 unfold alikeT eqTy at h;simp only[Bool.and_eq_true,Bool.or_eq_true,beq_iff_eq]at h;obtain⟨ak,ao⟩:=a;obtain⟨bk,bo⟩:=b;exact⟨by simp only at h;simp[h.1.1,h.1.2],h.2⟩
section
variable{fs:List Fld}{vals:List V}
def PartsFit(ws:List V)(ps:List Ty):Prop:=ws.length=ps.length∧∀(i:Nat) w t,ws[i]?=some w→ps[i]?=some t→fitsV w t=true
theorem part_fit{ws:List V}{ps:List Ty}(h:PartsFit ws ps){i:Nat}(hi:i<ps.length){k:Int}(hk:(ps.getD i ty0).k=k):fitsV (ws.getD i V.nil) (ps.getD i ty0)=true:=by
 rw[List.getD_eq_getElem?_getD,List.getD_eq_getElem?_getD,gE hi,gE (by rw[h.1];exact hi)];exact h.2 i _ _ (gE (by rw[h.1];exact hi)) (gE hi)
theorem kind_of{ps:List Ty}{ks:List Int}(h:takeG ps ks=true){i:Nat}(hi:i<ps.length):ks[i]?=some (ps.getD i ty0).k:=by
 rw[List.getD_eq_getElem?_getD,gE hi];exact takeG_at h (gE hi)
theorem node_fits(hf:FitAll fs vals){e:V}(hn:nodeE e=true){ps:List Ty}{ws:List V}(hl:ps.length=e.l.length)(hp:PartsFit ws ps){t:Ty}(ht:nodeT fs e ps=(t,true)):fitsV (nodeW fs vals e ws) t=true:=by
  unfold nodeT at ht
  unfold nodeW
  rcases z156 hn with k|k|k|k|k|k
  · rw[if_neg (by omega),if_neg (by omega),if_neg (by omega),if_neg (by omega),if_neg (by omega)]at ht ⊢
    cases ht;exact z56 _
  · rw[if_pos k]at ht ⊢
    cases ht;exact z134 (right_of_text (node2 hn k).2.1)
  · rw[if_neg (by omega),if_pos k]at ht ⊢
    split at ht
    · cases ht
    · rename_i hne
      obtain⟨f,v,h1,h2,h3,_⟩:=field_at hf hne
      rw[getD_at h1]at ht
      cases ht
      rw[getD_at h2];exact h3
  · rw[if_neg (by omega),if_neg (by omega),if_pos k]at ht ⊢
    obtain⟨_,hb,a,b,hab⟩:=node4 hn k
    rw[hab]at hl
    have hl:ps.length=2:=hl
    unfold operT at ht
    unfold opV
    split at ht
    · rename_i h1
      obtain⟨rfl,_⟩:=z67 ht
      rcases h1 with h1|h1|h1|h1|h1<;>simp only[h1]
      · exact z56 _
      · exact z56 _
      · exact z56 _
      · exact z56 _
      · exact z56 _
    · rename_i h1
      rw[not_or,not_or,not_or,not_or]at h1
      rw[if_neg h1.2.1,if_neg h1.1,if_neg h1.2.2.1,if_neg (by rw[not_or];exact h1.2.2.2)]
      split at ht
      · rename_i h2
        rw[if_pos h2]
        obtain⟨rfl,hg⟩:=z67 ht
        have k0:=kind_of hg (i:=0) (by omega)
        have k1:=kind_of hg (i:=1) (by omega)
        simp at k0 k1
        have f0:=text_of (part_fit hp (i:=0) (by omega) rfl) k0.symm
        have f1:=text_of (part_fit hp (i:=1) (by omega) rfl) k1.symm
        exact z134 (cut_app f0.2.2.2 f1.2.2.2)
      · rename_i h2
        rw[if_neg h2]
        have:t=⟨1,0⟩:=by injection ht with h1 h2;exact h1.symm
        subst this
        split<;>exact z56 _
  · rw[if_neg (by omega),if_neg (by omega),if_neg (by omega),if_pos k]at ht ⊢
    obtain⟨rfl,_⟩:=z67 ht
    exact z56 _
  · rw[if_neg (by omega),if_neg (by omega),if_neg (by omega),if_neg (by omega),if_pos k]at ht ⊢
    obtain⟨_,hb,hlen⟩:=node6 hn k
    rw[←hl]at hlen
    have hc:=z151 hb
    generalize e.s=s at hc ht hlen
    have tx:∀(i:Nat),i<ps.length→(ps.getD i ty0).k=2→z15 (ws.getD i V.nil).s=true:=fun i hi hk=>(text_of (part_fit hp hi rfl) hk).2.2.2
    have kd:∀{ks:List Int} (i:Nat),takeG ps ks=true→i<ps.length→∀q,ks[i]?=some q→(ps.getD i ty0).k=q:=fun i hg hi q hq=>by
      have:=kind_of hg hi;rw[hq]at this;exact(Option.some.inj this).symm
    rcases hc with rfl|rfl|rfl|rfl|rfl|rfl|rfl|rfl|rfl|rfl
    · obtain⟨rfl,hg⟩:=z67 (show takeT 1 [2] ps=(t,true) from ht);exact z56 _
    · obtain⟨rfl,hg⟩:=z67 (show takeT 2 [1] ps=(t,true) from ht);exact z134 (cut_itoa _)
    · obtain⟨rfl,hg⟩:=z67 (show takeT 1 [2] ps=(t,true) from ht);exact z56 _
    · obtain⟨rfl,hg⟩:=z67 (show takeT 2 [2,1] ps=(t,true) from ht)
      have h2 : ps.length = 2 := by have : takesV nLeft = 2 := by decide
                                    omega
      exact z134 (cut_take (tx 0 (by omega) (kd 0 hg (by omega) 2 rfl)) _)
    · obtain⟨rfl,hg⟩:=z67 (show takeT 2 [2,1] ps=(t,true) from ht)
      have h2 : ps.length = 2 := by have : takesV nRight = 2 := by decide
                                    omega
      exact z134 (cut_drop (tx 0 (by omega) (kd 0 hg (by omega) 2 rfl)) _)
    · obtain⟨rfl,hg⟩:=z67 (show takeT 2 [2,1] ps=(t,true) from ht)
      have h2 : ps.length = 2 := by have : takesV nFrom = 2 := by decide
                                    omega
      exact z134 (cut_drop (tx 0 (by omega) (kd 0 hg (by omega) 2 rfl)) _)
    · obtain⟨rfl,hg⟩:=z67 (show takeT 1 [2,2] ps=(t,true) from ht);exact z56 _
    · obtain⟨rfl,hg⟩:=z67 (show takeT 1 [1,1] ps=(t,true) from ht);exact z56 _
    · obtain⟨rfl,hg⟩:=z67 (show takeT 1 [1,1] ps=(t,true) from ht);exact z56 _
    · have h3 : ps.length = 3 := by have : takesV nIf = 3 := by decide
                                    omega
      have ht':chooseT ps=(t,true):=ht
      unfold chooseT at ht'
      split at ht'
      · rename_i h1
        obtain⟨h4,h5⟩:=alike_inv h1.2
        cases ht'
        show fitsV (if(ws.getD 0 V.nil).n≠0 then ws.getD 1 V.nil else ws.getD 2 V.nil) _=true
        split
        · exact part_fit hp (by omega) rfl
        · rw[h4];exact part_fit hp (by omega) rfl
      · cases ht'
theorem fits_worth(hf:FitAll fs vals):∀(d:Nat) (e:V) (t:Ty),okE d e=true→typeV fs d e=(t,true)→fitsV (worthV fs vals d e) t=true
 |0,e,t,h,_=>by simp[okE]at h
 |d+1,e,t,h,ht=>by
  obtain⟨hn,hk⟩:=ok_kids h;unfold typeV at ht;unfold worthV;cases hp:kidsT (typeV fs d) e.l with
  |none=>rw[hp]at ht;cases ht
  |some ps=>
   rw[hp]at ht;obtain⟨h1,h2⟩:=kidsT_at hp;refine node_fits hf hn h1 ⟨by rw[List.length_map,h1],fun i w u hw hu=> ?_⟩ ht;rw[List.getElem?_map]at hw;obtain⟨x,hx,rfl⟩:=gO hw;obtain⟨h3,h4⟩:=h2 i x hx;rw[h4]at hu;cases hu;exact fits_worth hf d x _ (hk x (gM hx)) (by rw[←h3])
end
end Go.Mor
end

section
namespace Go.Mor
open Go
theorem z96{l:List UInt8}(h:l≠[]):1≤(Lib.decodeL l).2∧(Lib.decodeL l).2≤l.length:=by
 have h1:=Lib.decodeL_width l;have h2:=Lib.decodeL_le l h;omega
theorem cutGo_more:∀(f:Nat) (l:List UInt8) (a:Nat),l.length≤f→cutGo f l a=cutGo l.length l a:=by
 intro f
 induction f using Nat.strongRecOn with
 |_ f ih=>
  intro l a hl;cases f with
  |zero=>rw[Nat.le_zero.1 hl]
  |succ f=>
   by_cases h:l=[]
   ·subst h;simp[cutGo]
   ·obtain⟨n,hn⟩:∃n,l.length=n+1:=⟨l.length-1,by have:=List.length_pos_iff.2 h;omega⟩
    have hd:=z96 h;have hle:(l.drop (Lib.decodeL l).2).length≤n:=by rw[List.length_drop];omega
    rw[hn,cutGo,cutGo,if_neg h,if_neg h];split
    ·rfl
    ·rw[ih f (by omega) _ _ (by omega),ih n (by omega) _ _ hle]
def cutP(l:List UInt8)(a:Nat):Nat:=cutGo l.length l a
theorem cutP_step(l:List UInt8)(a:Nat):cutP l a=if l=[] then a else if 60<(a:Int)+Lib.runeLen ((Lib.decodeL l).1:Int)then a else cutP (l.drop (Lib.decodeL l).2) (a+(Lib.decodeL l).2):=by
 unfold cutP;by_cases h:l=[]
 ·subst h;rfl
 ·obtain⟨n,hn⟩:∃n,l.length=n+1:=⟨l.length-1,by have:=List.length_pos_iff.2 h;omega⟩
  have hd:=z96 h;have hle:(l.drop (Lib.decodeL l).2).length≤n:=by rw[List.length_drop];omega
  rw[hn,cutGo,if_neg h,if_neg h];split
  ·rfl
  ·rw[cutGo_more n _ _ hle]
theorem cutT_P(s:List UInt8):cutT s=s.take (cutP s 0):=rfl
theorem signsGo_more:∀(f:Nat) (l:List UInt8),l.length≤f→signsGo f l=signsGo l.length l:=by
 intro f
 induction f using Nat.strongRecOn with
 |_ f ih=>
  intro l hl;cases f with
  |zero=>rw[Nat.le_zero.1 hl]
  |succ f=>
   by_cases h:l=[]
   ·subst h;simp[signsGo]
   ·obtain⟨n,hn⟩:∃n,l.length=n+1:=⟨l.length-1,by have:=List.length_pos_iff.2 h;omega⟩
    have hd:=z96 h;have hle:(l.drop (Lib.decodeL l).2).length≤n:=by rw[List.length_drop];omega
    rw[hn,signsGo,signsGo,if_neg h,if_neg h,ih f (by omega) _ (by omega),ih n (by omega) _ hle]
theorem signs_step(l:List UInt8):signsV l=if l=[] then 0 else signsV (l.drop (Lib.decodeL l).2)+1:=by
 unfold signsV;by_cases h:l=[]
 ·subst h;rfl
 ·obtain⟨n,hn⟩:∃n,l.length=n+1:=⟨l.length-1,by have:=List.length_pos_iff.2 h;omega⟩
  have hd:=z96 h;have hle:(l.drop (Lib.decodeL l).2).length≤n:=by rw[List.length_drop];omega
  rw[hn,signsGo,if_neg h,if_neg h,signsGo_more n _ hle]
theorem signs_le:∀(n:Nat) (l:List UInt8),l.length≤n→signsV l≤l.length:=by
 intro n
 induction n using Nat.strongRecOn with
 |_ n ih=>
  intro l hl;rw[signs_step];split
  ·omega
  ·rename_i h;have hd:=z96 h;have h1:(l.drop (Lib.decodeL l).2).length<n:=by rw[List.length_drop];omega
   have h2:=ih _ h1 _ (Nat.le_refl _);rw[List.length_drop]at h2;omega
theorem behGo_more:∀(f:Nat) (l:List UInt8) (a k:Nat) (n:Int),l.length≤f→behGo f l a k n=behGo l.length l a k n:=by
 intro f
 induction f using Nat.strongRecOn with
 |_ f ih=>
  intro l a k m hl;cases f with
  |zero=>rw[Nat.le_zero.1 hl]
  |succ f=>
   by_cases h:l=[]
   ·subst h;simp[behGo]
   ·obtain⟨n,hn⟩:∃n,l.length=n+1:=⟨l.length-1,by have:=List.length_pos_iff.2 h;omega⟩
    have hd:=z96 h;have hle:(l.drop (Lib.decodeL l).2).length≤n:=by rw[List.length_drop];omega
    rw[hn,behGo,behGo,if_neg h,if_neg h];split
    ·rfl
    ·rw[ih f (by omega) _ _ _ _ (by omega),ih n (by omega) _ _ _ _ hle]
def behP(l:List UInt8)(a k:Nat)(n:Int):Nat:=behGo l.length l a k n
theorem behP_step(l:List UInt8)(a k:Nat)(m:Int):behP l a k m=if l=[] then a else if m≤(k:Int)then a else behP (l.drop (Lib.decodeL l).2) (a+(Lib.decodeL l).2) (k+1) m:=by
 unfold behP;by_cases h:l=[]
 ·subst h;rfl
 ·obtain⟨n,hn⟩:∃n,l.length=n+1:=⟨l.length-1,by have:=List.length_pos_iff.2 h;omega⟩
  have hd:=z96 h;have hle:(l.drop (Lib.decodeL l).2).length≤n:=by rw[List.length_drop];omega
  rw[hn,behGo,if_neg h,if_neg h];split
  ·rfl
  ·rw[behGo_more n _ _ _ _ hle]
theorem behV_P(s:List UInt8)(n:Int):behV s n=behP s 0 0 n:=rfl
theorem behP_le:∀(n:Nat) (l:List UInt8) (a k:Nat) (m:Int),l.length≤n→a≤behP l a k m∧behP l a k m≤a+l.length:=by
 intro n
 induction n using Nat.strongRecOn with
 |_ n ih=>
  intro l a k m hl;rw[behP_step];split
  ·omega
  ·rename_i h;have hd:=z96 h;split
   ·omega
   ·have h1:(l.drop (Lib.decodeL l).2).length<n:=by rw[List.length_drop];omega
    have h2:=ih _ h1 (l.drop (Lib.decodeL l).2) (a+(Lib.decodeL l).2) (k+1) m (Nat.le_refl _);rw[List.length_drop]at h2;omega
theorem behV_le(s:List UInt8)(n:Int):behV s n≤s.length:=by
 have:=(behP_le _ s 0 0 n (Nat.le_refl _)).2;rw[behV_P];omega
end Go.Mor
end

section
namespace Go.Sh
open Go Go.RowKit
set_option maxHeartbeats 4000000
def z110:Nat→Nat→List TV
 |_,0=>[]
 |d,n+1=> .ptr d 0::z110 (d+1) n
theorem ptrs_get:∀(n d j:Nat),j<n→(z110 d n)[j]?=some (.ptr (d+j) 0)
 |0,d,j,h=>by omega
 |n+1,d,0,_=>rfl
 |n+1,d,j+1,h=>by
  rw[z110,List.getElem?_cons_succ,ptrs_get n (d+1) j (by omega)];congr 2;omega
theorem ptrs_len:∀(n d:Nat),(z110 d n).length=n
 |0,_=>rfl
 |n+1,d=>by rw[z110,List.length_cons,ptrs_len n (d+1)]
theorem SCalls.frz{P:Program}{g:Glob}{f:Nat}{xs:List TV}{k:Fn}{pss:List (List PV)}(h:SCalls P g f xs [] (.fn k [] (z110 1000 pss.length)) (pss.map fun ps=> .box (ps.map .pv))):SCalls P g f xs [] (.pv (.fn k [] (pss.map .el))) []:=by
 refine⟨h.1,fun w E vs hG hm hX hl hr=>(h.2 w E vs hG hm hX hl hr).mono ?_⟩;rintro e w' ⟨v,E',h1,h2,h3,h4⟩;have hob:∀(j:Nat) ps,pss[j]?=some ps→objB (pss.map fun ps=>MO.box (ps.map TV.pv)) (1000+j)=some (ps.map TV.pv):=fun j ps hj=>by
  unfold objB;rw[if_pos (by omega),Nat.add_sub_cancel_left,List.getElem?_map,hj];rfl
 let K':Nat→Nat→Prop:=fun b o=>E'.K b o∨∃(j:Nat) (ps:List PV),pss[j]?=some ps∧b=E'.β (1000+j)∧o<ps.length
 have hk:∀b o u,E'.K b o→w'.cell? ⟨b,o,none⟩=some u→K' b o∧w'.cell? ⟨b,o,none⟩=some u:=fun b o u h1 h2=>⟨.inl h1,h2⟩
 have ho:∀d,¬(start w E [] 0).old d:=fun d h=>by have h1:=h.1;have h2:d<1000+0:=h.2;omega
 have hX0:∀d b,¬objX E [] d b:=fun d b hx=>by
  rcases hx with⟨cs,h1,_⟩|⟨q,cap,h1,_⟩
  ·simp[objB]at h1
  ·simp[objR]at h1
 refine⟨v,{ E' with K:=K' },h1,⟨fun d cs hd=> ?_,fun d e W n hd=> ?_,fun d d' cs cs' hd=> ?_,fun d d' cs q k cap hd=> ?_,fun d d' q q' k cap cap' hd=> ?_,fun k o hko=> ?_,h2.low,fun k o u a1 a2=>⟨.inl (h2.keep k o u a1 a2).1,(h2.keep k o u a1 a2).2⟩,fun k o hko=> ?_,⟨fun d hd=>absurd hd (ho d),fun d hd=>absurd hd (ho d),fun d e W n hd=>absurd hd (ho d)⟩⟩,?_,⟨fun d h1 h2=> ?_,fun d h1 h2=> ?_,fun d e W n hd=> ?_⟩⟩
 ·simp[objB]at hd
 ·simp[objR]at hd
 ·simp[objB]at hd
 ·simp[objB]at hd
 ·simp[objR]at hd
 ·rcases hko with hko|⟨j,ps,hj,rfl,_⟩
  ·exact h2.lt k o hko
  ·exact(h2.box _ _ (hob j ps hj)).1.lt
 ·rcases hko with hko|⟨j,ps,hj,rfl,_⟩
  ·exact h2.knew k o hko
  ·rcases(h2.box _ _ (hob j ps hj)).2 with h5|h5
   ·exact .inr (.inl h5)
   ·exact absurd h5 (hX0 _ _)
 ·cases h3 with
  |fn _ _ _ us us' e1 e2 r1 r2=>
   have hus:us=[]:=List.eq_nil_of_length_eq_zero e1.symm;subst hus;rw[ptrs_len]at e2;refine .pv (.fn k [] (pss.map .el) [] us' rfl (by rw[List.length_map];exact e2) (fun j c v hc=>by simp at hc) (fun j c u hc hu=> ?_));rw[List.getElem?_map]at hc;obtain⟨ps,hps,rfl⟩:=gO hc;have hjl:j<pss.length:=(gJ hps).1;have hrel:=r2 j _ u (ptrs_get pss.length 1000 j hjl) hu;cases hrel;obtain⟨hbx,_⟩:=h2.box _ _ (hob j ps hps);have hcell:∀(i:Nat) c,ps[i]?=some c→∃v,w'.cell? ⟨E'.β (1000+j),i,none⟩=some v∧one v∧RelV w' E'.K c v:=fun i c hi=>by
    obtain⟨v,c1,c2,c3⟩:=hbx.cell i (.pv c) (by rw[List.getElem?_map,hi];rfl);cases c3 with|pv c3=>exact⟨v,c1,c2,c3⟩
   refine .el ps (E'.β (1000+j)) 0 (fun i=>(w'.cell? ⟨E'.β (1000+j),i,none⟩).getD undef) (fun i c hi=> ?_) (fun i c hi=> ?_)
   ·obtain⟨v,c1,c2,c3⟩:=hcell i c hi;refine⟨.inr ⟨j,ps,hps,rfl,?_⟩,?_,?_⟩
    ·rw[Nat.zero_add];exact(gJ hi).1
    ·rw[Nat.zero_add,c1];rfl
    ·rw[c1];exact c2
   ·obtain⟨v,c1,c2,c3⟩:=hcell i c hi;rw[c1];exact c3.mono hk
 ·simp at h2;omega
 ·simp at h2;omega
 ·simp[objR]at hd
end Go.Sh
end

section
namespace Go.Proofs.YtcpaleaajdilgaaGreatDoor
open Go Go.RowKit Go.Mor Go.Sh Go.Sh.Cd1 Go.Sh.Cd6
set_option maxRecDepth 100000
set_option maxHeartbeats 4000000
def tyP(t:Ty):List PV:=[.v (.int .i64 t.k),.v (.int .i64 t.o)]
def tyC(ps:List Ty):List TV:=pvC (ps.flatMap tyP)
def inR(l:List Int):List (List PV):=l.map fun n=>[.v (.int .i64 n)]
def tyB(r:Ty×Bool):TV:=.tuple [tyT r.1,B r.2]
theorem flat2_take{ps:List Ty}{i:Nat}{t:Ty}(h:ps[i]?=some t):List.take 2 (List.drop (i*2) (tyC ps))=[I t.k,I t.o]:=by
 induction ps generalizing i with
 |nil=>simp at h
 |cons p ps ih=>
  cases i with
  |zero=>simp at h;subst h;rfl
  |succ i=>
   have:=ih (i:=i) (by simpa using h);rw[←this];show List.take 2 (List.drop ((i+1)*2) (I p.k::I p.o::tyC ps))=_;rw[show(i+1)*2=i*2+2 by omega];rfl
theorem tyC_len(ps:List Ty):(tyC ps).length=ps.length*2:=by
 induction ps with
 |nil=>rfl
 |cons p ps ih=>
  show(I p.k::I p.o::tyC ps).length=_;simp[ih];omega
theorem tyC_fgt(ids:List Nat)(ps:List Ty):List.map (fgt3 ids) (tyC ps)=tyC ps:=pvC_fgt ids _
theorem tyC_ids(ps:List Ty):List.flatMap TV.ids1 (tyC ps)=[]:=pvC_ids _
theorem tyC_ren(ρ:Nat→Option Nat)(ps:List Ty):seqO (TV.ren1 ρ) (tyC ps)=some (tyC ps):=pvC_ren ρ _
theorem inGet(l:List Int)(k:Nat):(inR l)[k]?=(l[k]?).map fun n=>[.v (.int .i64 n)]:=by unfold inR;rw[List.getElem?_map]
theorem inLen(l:List Int):(inR l).length=l.length:=by unfold inR;rw[List.length_map]
theorem tyV:(type_of% @tyC_fgt)∧(type_of% @tyC_ids)∧(type_of% @tyC_ren)∧(type_of% @tyC_len)∧(type_of% @inGet)∧(type_of% @inLen)∧(type_of% @tyB.eq_1)∧(type_of% @B.eq_1):=⟨@tyC_fgt,@tyC_ids,@tyC_ren,@tyC_len,@inGet,@inLen,@tyB.eq_1,@B.eq_1⟩
def takF(k:Int)(ks:List Int):TV:=.pv (.fn (.func 211) [] [.el [.sl 1 (inR ks)],.el [.v (.int .i64 k)]])
theorem evTakes_ok(g:Sh.Glob)(k:Int)(ks:List Int):SCalls Tryz.prog g 136 [I k,.pv (.sl 1 (inR ks))] [] (takF k ks) []:=by
 refine SCalls.frz (pss:=[[.sl 1 (inR ks)],[.v (.int .i64 k)]]) ?_;refine z17 hmix tf_84 rfl rfl rfl ?_;simp only[vW,seval];rfl
theorem takes1_ok(g:Sh.Glob)(k:Int)(ks:List Int)(ps:List Ty)(hl:ps.length=ks.length)(h60:ps.length≤60):SCalls Tryz.prog g 211 [.bs 1000 0 ps.length ps.length,.pv (.el [.sl 1 (inR ks)]),.pv (.el [.v (.int .i64 k)])] [.box (tyC ps)] (tyB (takeT k ks ps)) [.box (tyC ps)]:=by
 obtain⟨R,hR⟩:∃R,takeT k ks ps=R:=⟨_,rfl⟩
 rw[hR];refine z17 hmix tf_85 rfl rfl rfl ?_;simp only[vW,seval,tyV];refine v_loop (σ:={i:Nat // i≤ps.length∧(if takeG (ps.drop i) (ks.drop i)then((⟨k,0⟩:Ty),true)else(ty0,false))=R}) (fun i=>⟨[(1,.pv (.el [.sl 1 (inR ks)])),(2,.pv (.el [.v (.int .i64 k)])),(8,.bs 1000 0 ps.length ps.length),(9,I (ps.length:Int)),(10,I (i.1:Int)),(4,.ptr 4 0)],[(1000,tyC ps),(4,[I 0,I 0])],[],[]⟩) (fun i=>ps.length-i.1) ⟨0,Nat.zero_le _,hR⟩ ?_ ?_
 ·apply lw_of<;>simp[leL,lk,sv,Nat.beq,I,S,ES.kill,has,drp,nilT]
 rintro⟨i,hi,hT⟩;by_cases hlt:i<ps.length
 ·have d1:(i:Int)<(ps.length:Int):=by omega
  obtain⟨t,et⟩:∃t,ps[i]?=some t:=⟨_,gE hlt⟩
  obtain⟨q,eq⟩:∃q,ks[i]?=some q:=⟨_,gE (by omega)⟩
  have w1:IntKind.i64.wrap ((i:Int)+1)=((i+1:Nat):Int):=by rw[wrap64 (by omega) (by omega)];omega
  have hdr:ps.drop i=t::ps.drop (i+1):=by
   rw[List.drop_eq_getElem_cons hlt];congr 1;rw[gE hlt]at et;exact Option.some.inj et
  have hdk:ks.drop i=q::ks.drop (i+1):=by
   rw[List.drop_eq_getElem_cons (show i<ks.length by omega)];congr 1;rw[gE (show i<ks.length by omega)]at eq;exact Option.some.inj eq
  rw[hdr,hdk,takeG]at hT;have f2:=flat2_take et;by_cases h:t.k=q
  ·have hb:(t.k==q)=true:=by simpa using h
   rw[hb,Bool.true_and]at hT;simp only[vW,seval,tyV,d1,f2,eq,h,w1];refine⟨by omega,z10 ⟨i+1,hlt,hT⟩ (by show ps.length-(i+1)<ps.length-i;omega) ?_⟩;apply lw_of<;>simp[leL,lk,sv,Nat.beq,I,S,ES.kill,has,drp,nilT]
  ·have hb:(t.k==q)=false:=by simpa using h
   rw[hb,Bool.false_and,if_neg (by decide)]at hT;simp only[vW,seval,tyV,d1,f2,eq,h];refine⟨by omega,?_⟩;rw[←hT];rfl
 ·have d1:¬(i:Int)<(ps.length:Int):=by omega
  have hdr:ps.drop i=[]:=List.drop_eq_nil_of_le (by omega);rw[hdr,takeG,if_pos rfl]at hT;simp only[vW,seval,tyV,d1];rw[←hT]
theorem tyFields:∃f g:Field,(Tryz.prog.fieldsOf 46).toList=[f,g]∧f.name≠ "_" ∧g.name≠ "_" ∧(∀a b:Int,z14 Tryz.prog (part f.type #[.int .i64 a,.int .i64 b] f.offset)=some (.int .i64 a))∧(∀a b:Int,z14 Tryz.prog (part g.type #[.int .i64 a,.int .i64 b] g.offset)=some (.int .i64 b))∧
  (∀(n:Nat) (a c:Int),z14 Tryz.prog (Op.equalIn (n+1) f.type (.int .i64 a) (.int .i64 c))=some (a==c))∧(∀(n:Nat) (a c:Int),z14 Tryz.prog (Op.equalIn (n+1) g.type (.int .i64 a) (.int .i64 c))=some (a==c)):=by
 refine⟨(Tryz.prog.fieldsOf 46).toList.getD 0 default,(Tryz.prog.fieldsOf 46).toList.getD 1 default,by kernel_rfl,?_,?_,fun a b=>by kernel_rfl,fun a b=>by kernel_rfl,fun n a c=>by kernel_rfl,fun n a c=>by kernel_rfl⟩
 ·exact of_decide_eq_true (by kernel_rfl)
 ·exact of_decide_eq_true (by kernel_rfl)
theorem eqlTy(a b c d:Int):scal Tryz.prog (do eqGuard .eql 46 (.const (.agg #[.int .i64 a,.int .i64 b])) (.const (.agg #[.int .i64 c,.int .i64 d])) (.agg #[.int .i64 a,.int .i64 b]) (.agg #[.int .i64 c,.int .i64 d]);binOp .eql 46 (.agg #[.int .i64 a,.int .i64 b]) (.agg #[.int .i64 c,.int .i64 d]))=
  some (.pv (.v (.bool (eqTy ⟨a,b⟩ ⟨c,d⟩))),.no):=by
 unfold scal;rw[z28];have hg:z14 Tryz.prog (eqGuard .eql 46 (.const (.agg #[.int .i64 a,.int .i64 b])) (.const (.agg #[.int .i64 c,.int .i64 d])) (.agg #[.int .i64 a,.int .i64 b]) (.agg #[.int .i64 c,.int .i64 d]))=some ():=by kernel_rfl
 rw[hg,Option.bind_some];have hb:binOp .eql 46 (.agg #[.int .i64 a,.int .i64 b]) (.agg #[.int .i64 c,.int .i64 d])=(Op.equal 46 (.agg #[.int .i64 a,.int .i64 b]) (.agg #[.int .i64 c,.int .i64 d])>>=fun r=>pure (.bool r)):=rfl;rw[hb,z28];have he:z14 Tryz.prog (Op.equal 46 (.agg #[.int .i64 a,.int .i64 b]) (.agg #[.int .i64 c,.int .i64 d]))=some (eqTy ⟨a,b⟩ ⟨c,d⟩):=by
  unfold Op.equal;obtain⟨n,hn⟩:∃n,Op.maxDepth=n+1+1:=⟨_,rfl⟩
  rw[hn,z84 _ _ _ _ (by kernel_rfl) (by kernel_rfl)];obtain⟨f,g,hl,nf,ng,pf,pg,ef,eg⟩:=tyFields;rw[hl];simp only[Op.eqFields,nf,ng,ne_eq,not_false_eq_true,if_true,z28,pf,pg,ef,eg,Option.bind_some];unfold eqTy;cases h:(a==c)
  ·simp[h,z74]
  ·cases h2:(b==d)<;>simp[h,h2,z74,z28,pg,eg,ng]
 rw[he];rfl
theorem alike2_ok(g:Sh.Glob)(a b:Ty):SCalls Tryz.prog g 215 [.bs 1000 0 2 2] [.box (tyC [a,b])] (B (alikeT a b)) [.box (tyC [a,b])]:=by
 have e:tyC [a,b]=[I a.k,I a.o,I b.k,I b.o]:=rfl;rw[e];unfold alikeT;refine z17 hmix tf_61 rfl rfl rfl ?_;obtain⟨ak,ao⟩:=a;obtain⟨bk,bo⟩:=b;simp only;cases h:eqTy ⟨ak,ao⟩ ⟨bk,bo⟩
 ·simp only[vW,seval,tyV,eqlTy,h]
 ·by_cases h1:ak=1
  ·subst h1;simp only[vW,seval,tyV,eqlTy,h]
  ·have hb:(ak==1)=false:=by simpa using h1
   have hc:decide (ak=2)=(ak==2):=by rw[Bool.eq_iff_iff];simp
   simp only[vW,seval,tyV,eqlTy,h,h1,hb,hc]
theorem alike3_ok(g:Sh.Glob)(c a b:Ty):SCalls Tryz.prog g 215 [.bs 1000 2 2 2] [.box (tyC [c,a,b])] (B (alikeT a b)) [.box (tyC [c,a,b])]:=by
 have e:tyC [c,a,b]=[I c.k,I c.o,I a.k,I a.o,I b.k,I b.o]:=rfl;rw[e];unfold alikeT;refine z17 hmix tf_61 rfl rfl rfl ?_;obtain⟨ak,ao⟩:=a;obtain⟨bk,bo⟩:=b;simp only;cases h:eqTy ⟨ak,ao⟩ ⟨bk,bo⟩
 ·simp only[vW,seval,tyV,eqlTy,h]
 ·by_cases h1:ak=1
  ·subst h1;simp only[vW,seval,tyV,eqlTy,h]
  ·have hb:(ak==1)=false:=by simpa using h1
   have hc:decide (ak=2)=(ak==2):=by rw[Bool.eq_iff_iff];simp
   simp only[vW,seval,tyV,eqlTy,h,h1,hb,hc]
theorem choice_ok(g:Sh.Glob)(a b c:Ty):SCalls Tryz.prog g 150 [.bs 1000 0 3 3] [.box (tyC [a,b,c])] (tyB (chooseT [a,b,c])) [.box (tyC [a,b,c])]:=by
 have HA:=alike3_ok g a b c;have e:tyC [a,b,c]=[I a.k,I a.o,I b.k,I b.o,I c.k,I c.o]:=rfl;have hu:chooseT [a,b,c]=if a.k=1∧alikeT b c=true then(b,true)else(ty0,false):=rfl
 rw[e]at HA ⊢;rw[hu];refine z17 hmix tf_73 rfl rfl rfl ?_;unfold B at HA;obtain⟨ak,ao⟩:=a;simp only at HA ⊢;by_cases h1:ak=1
 ·subst h1;simp only[vW,seval,tyV];(with_reducible apply v_call);exact kv;rfl;exact HA;exact km;exact kv;cases h2:alikeT b c
  ·simp only[vW,seval,tyV];simp[ty0]
  ·simp only[vW,seval,tyV]
 ·rw[if_neg (fun h=>h1 h.1)];simp only[vW,seval,tyV,h1];rfl
theorem oper1_ok(g:Sh.Glob)(a b:Ty):SCalls Tryz.prog g 251 [.bs 1000 0 2 2] [.box (tyC [a,b])] (tyB (⟨1,0⟩,alikeT a b)) [.box (tyC [a,b])]:=by
 have HA:=alike2_ok g a b;have e:tyC [a,b]=[I a.k,I a.o,I b.k,I b.o]:=rfl;rw[e]at HA ⊢;refine z17 hmix tf_80 rfl rfl rfl ?_;unfold B at HA;simp only[vW,seval,tyV];(with_reducible apply v_call);exact kv;rfl;exact HA;exact km;exact kv;simp only[vW,seval,tyV]
def operF(s:List UInt8):TV:=if s=[43]∨s=[45]∨s=[42]∨s=[47]∨s=[37] then takF 1 [1,1] else if s=[38] then takF 2 [2,2] else .pv (.v (.func (.func 251) #[] #[]))
theorem in2(a b:Int):inR [a,b]=[[.v (.int .i64 a)],[.v (.int .i64 b)]]:=rfl
theorem operator_ok(g:Sh.Glob)(s:List UInt8):SCalls Tryz.prog g 210 [S (str s)] [] (operF s) []:=by
 have H1:=evTakes_ok g 1 [1,1];have H2:=evTakes_ok g 2 [2,2];have q1:(⟨#[43]⟩:ByteArray)=str [43]:=rfl;have q2:(⟨#[45]⟩:ByteArray)=str [45]:=rfl;have q3:(⟨#[42]⟩:ByteArray)=str [42]:=rfl;have q4:(⟨#[47]⟩:ByteArray)=str [47]:=rfl;have q5:(⟨#[37]⟩:ByteArray)=str [37]:=rfl;have q6:(⟨#[38]⟩:ByteArray)=str [38]:=rfl;have hb:∀a b:List UInt8,a≠b→(a==b)=false:=fun a b h=>by simpa using h
 unfold operF;unfold takF at*;refine z7 hmix tf_79 rfl ?_;by_cases h1:s=[43]
 ·subst h1;simp only[vW,seval,q1];(with_reducible apply v_call);simp only[vW,seval,in2];rfl;rfl;exact H1;exact km;simp only[vW,seval,in2];rfl;simp only[vW,seval];rfl
 have d1:=hb _ _ h1;by_cases h2:s=[45]
 ·subst h2;simp only[vW,seval,q1,q2,d1];(with_reducible apply v_call);simp only[vW,seval,in2];rfl;rfl;exact H1;exact km;simp only[vW,seval,in2];rfl;simp only[vW,seval];rfl
 have d2:=hb _ _ h2;by_cases h3:s=[42]
 ·subst h3;simp only[vW,seval,q1,q2,q3,d1,d2];(with_reducible apply v_call);simp only[vW,seval,in2];rfl;rfl;exact H1;exact km;simp only[vW,seval,in2];rfl;simp only[vW,seval];rfl
 have d3:=hb _ _ h3;by_cases h4:s=[47]
 ·subst h4;simp only[vW,seval,q1,q2,q3,q4,d1,d2,d3];(with_reducible apply v_call);simp only[vW,seval,in2];rfl;rfl;exact H1;exact km;simp only[vW,seval,in2];rfl;simp only[vW,seval];rfl
 have d4:=hb _ _ h4;by_cases h5:s=[37]
 ·subst h5;simp only[vW,seval,q1,q2,q3,q4,q5,d1,d2,d3,d4];(with_reducible apply v_call);simp only[vW,seval,in2];rfl;rfl;exact H1;exact km;simp only[vW,seval,in2];rfl;simp only[vW,seval];rfl
 have d5:=hb _ _ h5;rw[if_neg (by simp[h1,h2,h3,h4,h5])];by_cases h6:s=[38]
 ·subst h6;simp only[vW,seval,q1,q2,q3,q4,q5,q6,d1,d2,d3,d4,d5];(with_reducible apply v_call);simp only[vW,seval,in2];rfl;rfl;exact H2;exact km;simp only[vW,seval,in2];rfl;simp only[vW,seval];rfl
 have d6:=hb _ _ h6;rw[if_neg h6];simp only[vW,seval,q1,q2,q3,q4,q5,q6,d1,d2,d3,d4,d5,d6]
end Go.Proofs.YtcpaleaajdilgaaGreatDoor
end

section
namespace Go.Proofs.YtcpaleaajdilgaaGreatDoor
open Go Go.RowKit Go.Mor Go.Sh
set_option maxRecDepth 100000
theorem bbEql(p q:Bool):scal Tryz.prog (do eqGuard .eql 4 (.const (.bool p)) (.const (.bool q)) (.bool p) (.bool q);binOp .eql 4 (.bool p) (.bool q))=some (.pv (.v (.bool (p==q))),.no):=by
 cases p<;>cases q<;>kernel_rfl
end Go.Proofs.YtcpaleaajdilgaaGreatDoor
end

section
namespace Go.Proofs.YtcpaleaajdilgaaGreatDoor
open Go Go.RowKit Go.Mor Go.Sh
inductive VFew:V→Prop where
 |mk {k n:Int} {s:List UInt8} {l:List V} (h:l.length≤1000) (hs:∀y∈l,VFew y):VFew (.mk k n s l)
theorem VFew.len{x:V}(h:VFew x):x.l.length≤1000:=by cases h;assumption
theorem VFew.sub{x y:V}(h:VFew x)(hy:y∈x.l):VFew y:=by cases h with|mk _ hs=>exact hs y hy
theorem few0{x:V}(h:x.l=[]):VFew x:=by cases x with|mk k n s l=>simp only[Vl]at h;subst h;exact .mk (by simp) (by simp)
theorem VFew.small{x:V}(h:VFew x):VSmall x:=by
 induction h with
 |mk h _ ih=>exact .mk (by unfold maxLen;omega) ih
end Go.Proofs.YtcpaleaajdilgaaGreatDoor
end

section
namespace Go.Proofs.YtcpaleaajdilgaaGreatDoor
open Go Go.RowKit Go.Mor Go.Sh
set_option maxRecDepth 100000
set_option maxHeartbeats 2000000
theorem below_grow{w:World}{k:Nat}{os:Array Obj}:Below w.heap.size w (Go.Sort.grow (w.drewN k) os):=by
 have h1:∀k,Below w.heap.size w (w.drewN k):=by
  intro k
  induction k with
  |zero=>exact Below.refl _ _
  |succ k ih=>exact ih.trans (by have:=(Below.refl w.heap.size (w.drewN k)).drew;exact this)
 have h:=h1 k;refine⟨h.os,h.tape,h.output,?_,fun j hj=> ?_⟩
 ·show _≤((w.drewN k).heap++os).size;rw[Array.size_append];have:=h.size;omega
 ·show((w.drewN k).heap++os)[j]?=_;rw[Array.getElem?_append_left (by have:=h.size;omega)];exact h.block j hj
theorem itoa_ok(m:Nat)(n:Int)(h0: -9223372036854775808≤n)(h1:n≤9223372036854775807):SCalls Tryz.prog (glT m) 97 [I n] [] (S (str (Lib.itoa n))) []:=
 z71 (vs:=[.int .i64 n]) (z40 (by kernel_rfl)) (fun w E r=> .pv (.v _)) (fun w hG=>(Tryz.strconv_Itoa n h0 h1 w hG.t.tab).mono fun e w' ⟨he,k,os,hw⟩=>⟨he,by rw[hw];exact below_grow⟩)
end Go.Proofs.YtcpaleaajdilgaaGreatDoor
end

section
namespace Go.Proofs.YtcpaleaajdilgaaGreatDoor
open Go Go.RowKit Go.Mor Go.Sh Go.Sh.Cd1
set_option maxRecDepth 100000
set_option maxHeartbeats 2000000
theorem order_ok(g:Sh.Glob)(a b:Int):SCalls Tryz.prog g 219 [I a,I b] [] (I (ordI a b)) []:=by
 refine z7 hmix tf_106 rfl ?_;unfold ordI;by_cases h1:a<b
 ·simp only[vW,seval,h1]
 ·by_cases h2:b<a
  ·simp only[vW,seval,h1,h2]
  ·simp only[vW,seval,h1,h2]
theorem nanI_ok(g:Sh.Glob)(a:Int):SCalls Tryz.prog g 168 [I a] [] (.pv (.v (.bool false))) []:=by
 refine z7 hmix tf_57 rfl ?_;simp only[vW,seval]
theorem nanS_ok(g:Sh.Glob)(a:ByteArray):SCalls Tryz.prog g 169 [S a] [] (.pv (.v (.bool false))) []:=by
 refine z7 hmix tf_58 rfl ?_;simp only[vW,seval]
theorem cmpI_ok(g:Sh.Glob)(a b:Int):SCalls Tryz.prog g 106 [I a,I b] [] (I (ordI a b)) []:=by
 refine z7 hmix tf_55 rfl ?_;simp only[vW,seval];(with_reducible apply v_call);exact kv;rfl;exact nanI_ok g _;exact km;exact kv;simp only[vW,seval];(with_reducible apply v_call);exact kv;rfl;exact nanI_ok g _;exact km;exact kv;simp only[vW,seval];unfold ordI;refine⟨fun h=>by rw[if_pos h],fun h=>⟨fun h'=>by rw[if_neg h,if_pos h'],fun h'=>by rw[if_neg h,if_neg h']⟩⟩
theorem cmpS_ok(g:Sh.Glob)(a b:List UInt8):SCalls Tryz.prog g 107 [S (str a),S (str b)] [] (I (ordS a b)) []:=by
 refine z7 hmix tf_56 rfl ?_;simp only[vW,seval];(with_reducible apply v_call);exact kv;rfl;exact nanS_ok g _;exact km;exact kv;simp only[vW,seval];(with_reducible apply v_call);exact kv;rfl;exact nanS_ok g _;exact km;exact kv;simp only[vW,seval];unfold ordS;cases hb:Op.bytesLess a b
 ·by_cases he:a=b
  ·subst he;simp[boolW]
  ·simp[boolW,he]
 ·simp[boolW]
theorem byItems_ok(g:Sh.Glob)(l l':List V)(hl:l.length≤maxLen)(H:∀(i:Nat) x y,l[i]?=some x→l'[i]?=some y→SCalls Tryz.prog g 55 [tv x,tv y] [] (I (cmpV x y)) []):
  SCalls Tryz.prog g 108 [.pv (.sl 4 (V.rows l)),.pv (.sl 4 (V.rows l')),.pv (.v (.func (.func 55) #[] #[]))] [] (I (cmpL l l')) []:=by
 refine z7 hmix tf_124 rfl ?_;simp only[vW,seval];refine v_loop (σ:={ i:Nat // i≤min l.length l'.length∧cmpL l l'=cmpL (l.drop i) (l'.drop i) }) (fun i=>⟨[(0,.pv (.sl 4 (V.rows l))),(1,.pv (.sl 4 (V.rows l'))),(2,.pv (.v (.func (.func 55) #[] #[]))),(13,I (min (l.length:Int) (l'.length:Int))),(14,I (i.1:Int))],[],[],[]⟩) (fun i=>min l.length l'.length-i.1) ⟨0,Nat.zero_le _,rfl⟩ (lw_eq rfl) ?_;rintro⟨i,hi,hc⟩;simp only[vW,seval];have hm:maxLen=9223372036854775807:=rfl;refine⟨fun hlt=> ?_,fun hge=> ?_⟩
 ·refine⟨by omega,fun x hx=>⟨by omega,fun y hy=> ?_⟩⟩;(with_reducible apply z22);exact kv;exact H i x y hx hy;rfl;exact kv;have hd:=cmpL_drop hx hy;rw[←hc]at hd;unfold thenI at hd;simp only[vW,seval];refine⟨fun h0=> ?_,fun h0=> ?_⟩
  ·rw[if_pos h0]at hd;have w1:IntKind.i64.wrap ((i:Int)+1)=(i:Int)+1:=wrap64 (by omega) (by omega);refine z10 ⟨i+1,by omega,hd⟩ (by show _-(i+1)<_-i;omega) ?_;apply lw_of<;>simp[leL,lk,sv,Nat.beq,I,S,ES.kill,has,drp,nilT,w1]
  ·rw[if_neg h0]at hd;rw[hd]
 ·(with_reducible apply v_call);exact kv;rfl;exact cmpI_ok g _ _;exact km;exact kv;simp only[vW,seval];rw[hc,cmpL_end (by omega)]
theorem compare_n(g:Sh.Glob):∀(n:Nat) (x y:V),SizeOf.sizeOf x≤n→VSmall x→SCalls Tryz.prog g 55 [tv x,tv y] [] (I (cmpV x y)) []
 |0,x,y,h,_=>by cases x;simp at h
 |n+1,x,y,h,hx=>by
  have HB:=byItems_ok g x.l y.l hx.len (fun i a b ha hb=>compare_n g n a b (by
   have hm:=gM ha;have:=List.sizeOf_lt_of_mem hm;cases x;simp[V.l]at h this ⊢;omega) (hx.sub (gM ha)))
  refine z7 hmix tf_118 rfl ?_;rw[cmpV_eq];simp only[vW,seval];(with_reducible apply v_call);exact kv;rfl;exact cmpI_ok g _ _;exact km;exact kv;simp only[vW,seval];refine⟨fun h1=> ?_,fun h1=>by rw[thenI,if_neg h1]⟩;rw[thenI,if_pos h1];(with_reducible apply v_call);exact kv;rfl;exact cmpI_ok g _ _;exact km;exact kv;simp only[vW,seval];refine⟨fun h2=> ?_,fun h2=>by rw[thenI,if_neg h2]⟩;rw[thenI,if_pos h2];(with_reducible apply v_call);exact kv;rfl;exact cmpS_ok g _ _;exact km;exact kv;simp only[vW,seval];refine⟨fun h3=> ?_,fun h3=>by rw[thenI,if_neg h3]⟩;rw[thenI,if_pos h3];(with_reducible apply v_call);exact kv;rfl;exact HB;exact km;exact kv;simp only[vW,seval]
theorem compare_ok(g:Sh.Glob)(x y:V)(hx:VSmall x):SCalls Tryz.prog g 55 [tv x,tv y] [] (I (cmpV x y)) []:=compare_n g _ x y (Nat.le_refl _) hx
theorem refLoop(g:Sh.Glob)(x y:V)(hx:VSmall x)(H:∀(i:Nat) a b,x.l[i]?=some a→y.l[i]?=some b→SCalls Tryz.prog g 156 [tv a,tv b] [] (I (cmpV a b)) [])(c:Int):
  swp Tryz.prog g (.loop c_105_12) (blockW 0 (thenW (swp Tryz.prog g (.seq (.seq c_105_13 (.cond (.tmp 67) (.seq c_105_14 .ret) .skip)) (.seq c_105_15 .ret)) (Post0 [.tmp 4] (I (thenI c (cmpL x.l y.l))))) (Post0 [.tmp 4] (I (thenI c (cmpL x.l y.l))))))
   ⟨[(2,.ptr 2 0),(3,.ptr 3 0),(5,I c),(6,I 0)],[(2,[I x.k,I x.n,S (str x.s),.pv (.sl 4 (V.rows x.l))]),(3,[I y.k,I y.n,S (str y.s),.pv (.sl 4 (V.rows y.l))])],[],[]⟩:=by
 refine v_loop (σ:={ p:Nat×Int // p.1≤min x.l.length y.l.length∧thenI c (cmpL x.l y.l)=thenI p.2 (cmpL (x.l.drop p.1) (y.l.drop p.1)) })
  (fun p=>⟨[(2,.ptr 2 0),(3,.ptr 3 0),(5,I p.1.2),(6,I (p.1.1:Int))],[(2,[I x.k,I x.n,S (str x.s),.pv (.sl 4 (V.rows x.l))]),(3,[I y.k,I y.n,S (str y.s),.pv (.sl 4 (V.rows y.l))])],[],[]⟩)
  (fun p=>min x.l.length y.l.length-p.1.1) ⟨(0,c),Nat.zero_le _,rfl⟩ (lw_eq rfl) ?_
 rintro⟨⟨i,d⟩,hi,hc⟩;have hm:maxLen=9223372036854775807:=rfl;have hl:=hx.len;simp only at hi hc;simp only[vW,seval];refine⟨fun h0=>⟨fun h1=>⟨fun h2=>⟨by omega,fun a ha=>⟨by omega,fun b hb=> ?_⟩⟩,fun h2=>⟨fun _=> ?_,fun h=>absurd h0 h⟩⟩,fun h1=>⟨fun _=> ?_,fun h=>absurd h0 h⟩⟩,fun h0=>⟨fun h=>absurd h h0,fun _=> ?_⟩⟩
 ·(with_reducible apply v_call);exact kv;rfl;exact H i a b ha hb;exact km;exact kv;simp only[vW,seval];have w1:IntKind.i64.wrap ((i:Int)+1)=(i:Int)+1:=wrap64 (by omega) (by omega);refine z10 ⟨(i+1,cmpV a b),by show i+1≤_;omega,?_⟩ (by show _-(i+1)<_-i;omega) ?_
  ·show _=thenI (cmpV a b) (cmpL (x.l.drop (i+1)) (y.l.drop (i+1)));rw[hc,h0,cmpL_drop ha hb];simp[thenI]
  apply lw_of<;>simp[leL,lk,sv,Nat.beq,I,S,ES.kill,has,drp,nilT,w1]
 ·(with_reducible apply v_call);exact kv;rfl;exact order_ok g _ _;exact km;exact kv;simp only[vW,seval];rw[hc,h0,thenI,if_pos rfl,cmpL_end (by omega)]
 ·(with_reducible apply v_call);exact kv;rfl;exact order_ok g _ _;exact km;exact kv;simp only[vW,seval];rw[hc,h0,thenI,if_pos rfl,cmpL_end (by omega)]
 ·rw[hc,thenI,if_neg h0]
theorem refCompare_n(g:Sh.Glob):∀(n:Nat) (x y:V),SizeOf.sizeOf x≤n→VSmall x→SCalls Tryz.prog g 156 [tv x,tv y] [] (I (cmpV x y)) []
 |0,x,y,h,_=>by cases x;simp at h
 |n+1,x,y,h,hx=>by
  have H:∀(i:Nat) a b,x.l[i]?=some a→y.l[i]?=some b→SCalls Tryz.prog g 156 [tv a,tv b] [] (I (cmpV a b)) []:=fun i a b ha hb=>refCompare_n g n a b (by
   have hm:=gM ha;have:=List.sizeOf_lt_of_mem hm;cases x;simp[V.l]at h this ⊢;omega) (hx.sub (gM ha))
  have HL:=refLoop g x y hx H;refine z7 hmix tf_105 rfl ?_;rw[cmpV_eq];by_cases h1:ordI x.k y.k=0
  ·rw[h1,thenI,if_pos rfl];simp only[vW,seval];(with_reducible apply v_call);exact kv;rfl;exact order_ok g _ _;exact km;exact kv;simp only[vW,seval,h1];(with_reducible apply v_call);exact kv;rfl;exact order_ok g _ _;exact km;exact kv;by_cases h2:ordI x.n y.n=0
   ·rw[h2,thenI,if_pos rfl];cases hb:Op.bytesLess x.s y.s
    ·by_cases he:x.s=y.s
     ·have e:ordS x.s y.s=0:=by rw[ordS,hb];simp[he]
      have he':(x.s==y.s)=true:=by simp[he]
      rw[e];simp only[vW,seval,h2,hb,he'];exact HL 0
     ·have e:ordS x.s y.s=1:=by simp[ordS,hb,he]
      have he':(x.s==y.s)=false:=by simp[he]
      rw[e];simp only[vW,seval,h2,hb,he'];exact HL 1
    ·have e:ordS x.s y.s= -1:=by simp[ordS,hb]
     rw[e];simp only[vW,seval,h2,hb];exact HL (-1)
   ·rw[show thenI (ordI x.n y.n) (thenI (ordS x.s y.s) (cmpL x.l y.l))=thenI (ordI x.n y.n) (cmpL x.l y.l) by simp[thenI,h2]];simp only[vW,seval,h2];exact HL _
  ·rw[show thenI (ordI x.k y.k) (thenI (ordI x.n y.n) (thenI (ordS x.s y.s) (cmpL x.l y.l)))=thenI (ordI x.k y.k) (cmpL x.l y.l) by simp[thenI,h1]];simp only[vW,seval];(with_reducible apply v_call);exact kv;rfl;exact order_ok g _ _;exact km;exact kv;simp only[vW,seval,h1];exact HL _
theorem refCompare_ok(g:Sh.Glob)(x y:V)(hx:VSmall x):SCalls Tryz.prog g 156 [tv x,tv y] [] (I (cmpV x y)) []:=refCompare_n g _ x y (Nat.le_refl _) hx
theorem refSame_ok(g:Sh.Glob)(x y:V)(hx:VSmall x):SCalls Tryz.prog g 82 [tv x,tv y] [] (.pv (.v (.bool (decide (cmpV x y=0))))) []:=by
 refine z7 hmix tf_107 rfl ?_;simp only[vW,seval];(with_reducible apply v_call);exact kv;rfl;exact refCompare_ok g x y hx;exact km;exact kv;simp only[vW,seval]
end Go.Proofs.YtcpaleaajdilgaaGreatDoor
end

section
namespace Go.Proofs.YtcpaleaajdilgaaGreatDoor
open Go Go.RowKit Go.Mor Go.Sh Go.Sh.Cd1 Go.Sh.Cd6
set_option maxRecDepth 100000
set_option maxHeartbeats 4000000
theorem signs_ok(g:Sh.Glob)(l:List UInt8)(hl:l.length≤4611686018427387904):SCalls Tryz.prog g 139 [S (str l)] [] (I (signsV l:Int)) []:=by
 obtain⟨R,hR⟩:∃R,signsV l=R:=⟨_,rfl⟩
 rw[hR];have hle:=signs_le _ l (Nat.le_refl _);refine z7 hmix tf_83 rfl ?_;simp only[vW,seval];refine v_loop (σ:={q:Nat×Nat // q.1≤l.length∧q.2+signsV (l.drop q.1)=R}) (fun q=>⟨[(3,I (q.1.2:Int)),(5,.it 5)],[],[],[(5,(str l,q.1.1))]⟩) (fun q=>l.length-q.1.1) ⟨(0,0),Nat.zero_le _,by simpa using hR⟩ ?_ ?_
 ·apply lw_of<;>simp[leL,lk,sv,Nat.beq,I,S,ES.kill,has,drp,nilT]
 rintro⟨⟨p,n⟩,hp,hd⟩;simp only at hp hd;rw[signs_step]at hd;by_cases hlt:p<l.length
 ·have hne:l.drop p≠[]:=by rw[Ne,List.drop_eq_nil_iff];omega
  rw[if_neg hne,List.drop_drop]at hd;have hw:=z96 hne;rw[List.length_drop]at hw;have w1:IntKind.i64.wrap ((n:Int)+1)=((n+1:Nat):Int):=by rw[wrap64 (by omega) (by omega)];omega
  simp only[vW,seval,hlt,z114,w1];refine z10 ⟨(p+(Lib.decodeL (l.drop p)).2,n+1),by omega,by simp only;omega⟩ (by show l.length-(p+_)<l.length-p;omega) ?_;apply lw_of<;>simp[leL,lk,sv,Nat.beq,I,S,ES.kill,has,drp,nilT]
 ·have hn:l.drop p=[]:=List.drop_eq_nil_of_le (by omega);rw[if_pos hn]at hd;simp only[vW,seval,hlt];rw[←hd];rfl
theorem behind_ok(g:Sh.Glob)(l:List UInt8)(m:Int)(hl:l.length≤4611686018427387904):SCalls Tryz.prog g 142 [S (str l),I m] [] (I (behV l m:Int)) []:=by
 obtain⟨R,hR⟩:∃R,behV l m=R:=⟨_,rfl⟩
 rw[hR];rw[behV_P]at hR;refine z7 hmix tf_62 rfl ?_;simp only[vW,seval];refine v_loop (σ:={q:Nat×Nat // q.1≤l.length∧q.2≤q.1∧behP (l.drop q.1) q.1 q.2 m=R}) (fun q=>⟨[(0,S (str l)),(1,I m),(5,I (q.1.2:Int)),(8,.it 8)],[],[],[(8,(str l,q.1.1))]⟩) (fun q=>l.length-q.1.1) ⟨(0,0),Nat.zero_le _,Nat.zero_le _,by simpa using hR⟩ ?_ ?_
 ·apply lw_of<;>simp[leL,lk,sv,Nat.beq,I,S,ES.kill,has,drp,nilT]
 rintro⟨⟨p,n⟩,hp,hnp,hd⟩;simp only at hp hd hnp;rw[behP_step]at hd;by_cases hlt:p<l.length
 ·have hne:l.drop p≠[]:=by rw[Ne,List.drop_eq_nil_iff];omega
  rw[if_neg hne,List.drop_drop]at hd;have hw:=z96 hne;rw[List.length_drop]at hw;have w1:IntKind.i64.wrap ((n:Int)+1)=((n+1:Nat):Int):=by rw[wrap64 (by omega) (by omega)];omega
  by_cases h:m≤(n:Int)
  ·rw[if_pos h]at hd;simp only[vW,seval,hlt,z114,h];rw[hd]
  ·rw[if_neg h]at hd;simp only[vW,seval,hlt,z114,w1,h];refine z10 ⟨(p+(Lib.decodeL (l.drop p)).2,n+1),by omega,by simp only;omega,hd⟩ (by show l.length-(p+_)<l.length-p;omega) ?_;apply lw_of<;>simp[leL,lk,sv,Nat.beq,I,S,ES.kill,has,drp,nilT]
 ·have hn:l.drop p=[]:=List.drop_eq_nil_of_le (by omega);rw[if_pos hn]at hd;simp only[vW,seval,hlt];have:p=l.length:=by omega
  rw[←this,hd]
theorem runeLen_ok(g:Sh.Glob)(r:Int):SCalls Tryz.prog g 212 [.pv (.v (.int .i32 r))] [] (I (Lib.runeLen r)) []:=
 z71 (vs:=[.int .i32 r]) (z40 (by kernel_rfl)) (fun w E r=> .pv (.v _)) (fun w hG=>(Tryz.utf8_RuneLen r w).mono fun e w' ⟨he,hw⟩=>⟨he,by rw[hw];exact Below.refl _ _⟩)
theorem index_ok(m:Nat)(s t:List UInt8)(hs:s.length<4294967281):SCalls Tryz.prog (glT m) 213 [S (str s),S (str t)] [] (I (Lib.index s t)) []:=
 z71 (vs:=[.string (str s),.string (str t)]) (z40 (by kernel_rfl)) (fun w E r=> .pv (.v _)) (fun w hG=>by
  obtain⟨k,hk⟩:=hG.t.mx;have:=Tryz.strings_Index (str s) (str t) k w (by rw[str_size];exact hs) hk;simp only[str_toList]at this;exact this.mono fun e w' ⟨he,hw⟩=>⟨he,by rw[hw];exact Below.refl _ _⟩)
theorem index_bnd(t u:List UInt8): -1≤Lib.index t u∧Lib.index t u≤t.length:=by
 rcases Lib.index_spec t u with⟨h1,_⟩|⟨p,h1,h2,_⟩
 ·rw[h1];omega
 ·rw[h1];omega
theorem evFind_ok(m:Nat)(t u:List UInt8)(ht:t.length<4294967281):SCalls Tryz.prog (glT m) 146 [S (str t),S (str u)] [] (I (findV t u)) []:=by
 have HI:=index_ok m t u ht;have hb:=index_bnd t u;unfold findV;refine z7 hmix tf_74 rfl ?_;simp only[vW,seval];(with_reducible apply v_call);exact kv;rfl;exact HI;exact km;exact kv;by_cases h:Lib.index t u<0
 ·rw[if_pos h];simp only[vW,seval,h]
 ·rw[if_neg h];obtain⟨n,hn⟩:∃n:Nat,Lib.index t u=n:=⟨(Lib.index t u).toNat,by omega⟩
  rw[hn]at hb h ⊢;have HS:=signs_ok (glT m) (t.take n) (by rw[List.length_take];omega);simp only[vW,seval,h,List.drop_zero];refine⟨by omega,?_⟩;(with_reducible apply v_call);exact kv;rfl;exact HS;exact km;exact kv;simp only[vW,seval]
theorem number_ok(g:Sh.Glob)(n:Int):SCalls Tryz.prog g 138 [I n] [] (nv (numE n)) []:=by
 unfold numE cutN nv;refine z7 hmix tf_77 rfl ?_;simp only[vW,seval];rfl
theorem rl_bnd(k:Int): -1≤Lib.runeLen k∧Lib.runeLen k≤4:=by
 unfold Lib.runeLen
 repeat' split
 all_goals omega
theorem text_ok6(g:Sh.Glob)(l:List UInt8)(hl:l.length≤4611686018427387904):SCalls Tryz.prog g 141 [S (str l)] [] (nv (textE l)) []:=by
 obtain⟨R,hR⟩:∃R,cutP l 0=R:=⟨_,rfl⟩
 unfold textE nv;rw[cutT_P,hR];refine z7 hmix tf_86 rfl ?_;simp only[vW,seval];refine v_loop (σ:={q:Nat // q≤l.length∧cutP (l.drop q) q=R}) (fun q=>⟨[(0,S (str l)),(2,.ptr 2 0),(6,.it 6)],[(2,[I 0,I 0,S ⟨#[]⟩,.pv (.v (.slice none 0 0))])],[],[(6,(str l,q.1))]⟩) (fun q=>l.length-q.1) ⟨0,Nat.zero_le _,by simpa using hR⟩ ?_ ?_
 ·apply lw_of<;>simp[leL,lk,sv,Nat.beq,I,S,ES.kill,has,drp,nilT]
 rintro⟨p,hp,hd⟩;rw[cutP_step]at hd;by_cases hlt:p<l.length
 ·have hne:l.drop p≠[]:=by rw[Ne,List.drop_eq_nil_iff];omega
  rw[if_neg hne,List.drop_drop]at hd;have hw:=z96 hne;rw[List.length_drop]at hw;have HR:=runeLen_ok g (((Lib.decodeL (l.drop p)).1:Nat):Int);have hrl:=rl_bnd (((Lib.decodeL (l.drop p)).1:Nat):Int);generalize Lib.runeLen (((Lib.decodeL (l.drop p)).1:Nat):Int)=k at*;have w1:IntKind.i64.wrap ((p:Int)+k)=(p:Int)+k:=wrap64 (by omega) (by omega);by_cases h:60<(p:Int)+k
  ·rw[if_pos h]at hd;subst hd;simp only[vW,seval,hlt,z114];(with_reducible apply v_call);exact kv;rfl;exact HR;exact km;exact kv;simp only[vW,seval,w1,h,List.drop_zero];exact⟨by omega,by omega⟩
  ·rw[if_neg h]at hd;simp only[vW,seval,hlt,z114];(with_reducible apply v_call);exact kv;rfl;exact HR;exact km;exact kv;simp only[vW,seval,w1,h];refine z10 ⟨p+(Lib.decodeL (l.drop p)).2,by omega,hd⟩ (by show l.length-(p+_)<l.length-p;omega) ?_;apply lw_of<;>simp[leL,lk,sv,Nat.beq,I,S,ES.kill,has,drp,nilT]
 ·have hn:l.drop p=[]:=List.drop_eq_nil_of_le (by omega);rw[if_pos hn]at hd;simp only[vW,seval,hlt];have:p=l.length:=by omega
  rw[←hd,this,List.take_length]
theorem holds_ok(g:Sh.Glob)(s:List UInt8)(c:Int)(hs:s=[61]∨s=[60,62]∨s=[60]∨s=[60,61]∨s=[62]∨s=[62,61]):SCalls Tryz.prog g 218 [S (str s),I c] [] (B (holdsV s c)) []:=by
 have q1:(⟨#[60,61]⟩:ByteArray)=str [60,61]:=rfl;have q2:(⟨#[61]⟩:ByteArray)=str [61]:=rfl;have q3:(⟨#[62,61]⟩:ByteArray)=str [62,61]:=rfl;have q4:(⟨#[62]⟩:ByteArray)=str [62]:=rfl;have q5:(⟨#[60,62]⟩:ByteArray)=str [60,62]:=rfl;unfold B;have e1:(([60,62]:List UInt8)==[60,61])=false:=rfl;have e2:(([60,62]:List UInt8)==[61])=false:=rfl;have e3:(([60,62]:List UInt8)==[62,61])=false:=rfl;have e4:(([60,62]:List UInt8)==[62])=false:=rfl;have f1:(([61]:List UInt8)==[60,61])=false:=rfl;have g1:(([60]:List UInt8)==[60,61])=false:=rfl;have g2:(([60]:List UInt8)==[61])=false:=rfl;have g3:(([60]:List UInt8)==[62,61])=false:=rfl;have g4:(([60]:List UInt8)==[62])=false:=rfl;have g5:(([60]:List UInt8)==[60,62])=false:=rfl;have h1:(([62]:List UInt8)==[60,61])=false:=rfl;have h2:(([62]:List UInt8)==[61])=false:=rfl;have h3:(([62]:List UInt8)==[62,61])=false:=rfl;have i1:(([62,61]:List UInt8)==[60,61])=false:=rfl;have i2:(([62,61]:List UInt8)==[61])=false:=rfl;refine z7 hmix tf_76 rfl ?_;rcases hs with rfl|rfl|rfl|rfl|rfl|rfl
 ·rw[show holdsV [61] c=decide (c=0) from rfl];simp only[vW,seval,q1,q2,q3,q4,q5,f1]
 ·rw[show holdsV [60,62] c=decide (c≠0) from rfl];simp only[vW,seval,q1,q2,q3,q4,q5,e1,e2,e3,e4];simp
 ·rw[show holdsV [60] c=decide (c<0) from rfl];simp only[vW,seval,q1,q2,q3,q4,q5,g1,g2,g3,g4,g5]
 ·rw[show holdsV [60,61] c=decide (c≤0) from rfl];by_cases h:c<0
  ·simp only[vW,seval,q1,q2,q3,q4,q5,h];simp;omega
  ·simp only[vW,seval,q1,q2,q3,q4,q5,h];simp;omega
 ·rw[show holdsV [62] c=decide (0<c) from rfl];simp only[vW,seval,q1,q2,q3,q4,q5,h1,h2,h3]
 ·rw[show holdsV [62,61] c=decide (0≤c) from rfl];by_cases h:c=0
  ·simp only[vW,seval,q1,q2,q3,q4,q5,i1,i2,h]
  ·simp only[vW,seval,q1,q2,q3,q4,q5,i1,i2,h];simp;omega
end Go.Proofs.YtcpaleaajdilgaaGreatDoor
end

section
namespace Go.Proofs.YtcpaleaajdilgaaGreatDoor
open Go Go.RowKit Go.Mor Go.Sh Go.Lib Go.Deep
set_option maxRecDepth 100000
set_option maxHeartbeats 4000000
theorem itoa_at(m:Nat)(w:World)(hG:(glE m).G w)(n:Int)(h0: -9223372036854775808≤n)(h1:n≤9223372036854775807):Calls Tryz.prog 97 #[.int .i64 n] w fun e w'=>e=.returned (.string (str (Lib.itoa n)))∧Below w.heap.size w w':=
 (Tryz.strconv_Itoa n h0 h1 w hG.t.tab).mono fun e w' ⟨he,k,os,hw⟩=>⟨he,by rw[hw];exact below_grow⟩
theorem below_bytes{w w':World}{t5:TypeId}{s:ByteArray}(h:w'=w∨∃t,w'=Lib.bytesWorld w t5 t):Below w.heap.size w w':=by
 rcases h with rfl|⟨t,rfl⟩
 ·exact Below.refl _ _
 ·exact Lib.bytesWorld_below _ _ _
theorem below_two{w w1 w2:World}(h1:Below w.heap.size w w1)(h2:Below w1.heap.size w1 w2):Below w.heap.size w w2:=
 ⟨h2.os.trans h1.os,h2.tape.trans h1.tape,h2.output.trans h1.output,Nat.le_trans h1.size h2.size,fun k hk=>(h2.block k (Nat.lt_of_lt_of_le hk h1.size)).trans (h1.block k hk)⟩
theorem glE_below{m:Nat}{w w1:World}(hG:(glE m).G w)(hb:Below w.heap.size w w1):(glE m).G w1:=
 (glE m).st w w1 hG (fun k hk=>hb.block k (by have:=(glE m).le w hG;exact Nat.lt_of_lt_of_le hk this))
theorem told_bad(m:Nat)(s:List UInt8)(w:World)(x:Int)(t:TypeId)(HA:Calls Tryz.prog 214 #[.string (str s)] w fun e w'=>∃N,e=.returned (.tuple #[.int .i64 x,.iface t (.pointer (some ⟨N,0,none⟩))])∧Below w.heap.size w w'):
  Calls Tryz.prog 149 #[.string (str s)] w fun e w'=>e=.returned (.int .i64 0)∧Below w.heap.size w w':=by
 go_enter Tryz.func149,Tryz.ntmps149
 go_wp2_with (go_at_call 214;refine HA.mono ?_;rintro e w1 ⟨N,rfl,hb1⟩)
 go_ret
 exact⟨rfl,hb1⟩
theorem told_good(m:Nat)(s:List UInt8)(w:World)(hG:(glE m).G w)(v:Int)(HA:Calls Tryz.prog 214 #[.string (str s)] w fun e w'=>e=.returned (.tuple #[.int .i64 v,.nilIface])∧Below w.heap.size w w')(hv: -9223372036854775808≤v∧v≤9223372036854775807):
  Calls Tryz.prog 149 #[.string (str s)] w fun e w'=>e=.returned (.int .i64 (if v< -1000000000000000∨1000000000000000<v∨Lib.itoa v≠s then 0 else v))∧Below w.heap.size w w':=by
 have HI:=fun w1 (hb1:Below w.heap.size w w1)=>itoa_at m w1 (glE_below hG hb1) v hv.1 hv.2;by_cases h1:v< -1000000000000000
 ·rw[if_pos (.inl h1)]
  go_enter Tryz.func149,Tryz.ntmps149
  go_wp2_with (go_at_call 214;refine HA.mono ?_;rintro e w1 ⟨rfl,hb1⟩)
  go_ret
  exact⟨rfl,hb1⟩
 by_cases h2:1000000000000000<v
 ·rw[if_pos (.inr (.inl h2))]
  go_enter Tryz.func149,Tryz.ntmps149
  go_wp2_with (go_at_call 214;refine HA.mono ?_;rintro e w1 ⟨rfl,hb1⟩)
  go_ret
  exact⟨rfl,hb1⟩
 by_cases h3:Lib.itoa v=s
 ·rw[if_neg (by rintro(h|h|h)<;>first|exact h1 h|exact h2 h|exact h h3)];have hne:(Lib.itoa v==s)=true:=by simpa using h3
  go_enter Tryz.func149,Tryz.ntmps149
  go_wp2_with (first|(go_at_call 214;refine HA.mono ?_;rintro e w1 ⟨rfl,hb1⟩)|(go_at_call 97;refine(HI _ hb1).mono ?_;rintro e w2 ⟨rfl,hb2⟩))
  go_ret
  exact⟨rfl,below_two hb1 hb2⟩
 ·rw[if_pos (.inr (.inr h3))];have hne:(Lib.itoa v==s)=false:=by simpa using h3
  go_enter Tryz.func149,Tryz.ntmps149
  go_wp2_with (first|(go_at_call 214;refine HA.mono ?_;rintro e w1 ⟨rfl,hb1⟩)|(go_at_call 97;refine(HI _ hb1).mono ?_;rintro e w2 ⟨rfl,hb2⟩))
  go_ret
  exact⟨rfl,below_two hb1 hb2⟩
theorem told_ok(m:Nat)(s:List UInt8)(hs:s.length≤281474976710656):SCalls Tryz.prog (glE m) 149 [S (str s)] [] (I (toldV s)) []:=
 z71 (vs:=[.string (str s)]) (v:=.int .i64 (toldV s)) (z40 (by kernel_rfl)) (fun w E r=> .pv (.v _)) (fun w hG=>by
  have hG:GlobNE m w:=hG;obtain⟨⟨t1,p1,hs1⟩,⟨t2,p2,hr1⟩⟩:=hG.e;have hsz:(str s).size≤281474976710656:=by rw[str_size];exact hs
  have htl:(str s).data.toList=s:=str_toList s;rcases he:Lib.atoiAll s with v|_|_
  ·have hv:=Lib.atoiAll_bounds he;have hu:toldV s=if v< -1000000000000000∨1000000000000000<v∨Lib.itoa v≠s then 0 else v:=by unfold toldV;rw[he]
   rw[hu];exact told_good m s w hG v ((Any.strconv_Atoi_ok Tryz.laysC172 (str s) (by omega) v (by rw[htl];exact he) w).mono fun e w' ⟨h1,h2⟩=>⟨h1,below_bytes (s:=str s) h2⟩) hv
  ·have hu:toldV s=0:=by unfold toldV;rw[he]
   rw[hu];exact told_bad m s w 0 _ ((Any.strconv_Atoi_syntax Tryz.laysC172 (str s) hsz (by rw[htl];exact he) _ w hs1 (.inr ⟨_,_,rfl⟩)).mono fun e w' ⟨N,h1,_,_,h2⟩=>⟨N,h1,h2⟩)
  ·have hu:toldV s=0:=by unfold toldV;rw[he]
   rw[hu];exact told_bad m s w _ _ ((Any.strconv_Atoi_range Tryz.laysC172 (str s) hsz (by rw[htl];exact he) _ w hr1 (.inr ⟨_,_,rfl⟩)).mono fun e w' ⟨N,h1,_,_,h2⟩=>⟨N,h1,h2⟩))
end Go.Proofs.YtcpaleaajdilgaaGreatDoor
end

section
namespace Go.Sh
open Go Go.RowKit
set_option maxHeartbeats 4000000
def TV.isPv:TV→Bool
 | .pv _=>true
 |_=>false
def TV.flB:TV→Bool
 | .pv _=>true
 | .own _ _ _=>true
 | .fn _ a b=>a.all TV.isPv&&b.all TV.isPv
 |_=>false
def TV.fl2B:TV→Bool
 | .agg cs=>cs.all TV.flB
 | .ptr _ _=>true
 |x=>x.flB
theorem RelT.stillB{w w':World}{E:Env}{r:Rows}{x:TV}{v:Value}(hx:x.flB=true)(h:RelT w E r x v)(hk:∀b o u,E.K b o→w.cell? ⟨b,o,none⟩=some u→E.K b o∧w'.cell? ⟨b,o,none⟩=some u):RelT w' E r x v:=by
 have hpv:∀{l:List TV} {us:List Value},l.all TV.isPv=true→(∀(j:Nat) c v,l[j]?=some c→us[j]?=some v→RelT w E r c v)→∀(j:Nat) c v,l[j]?=some c→us[j]?=some v→RelT w' E r c v:=by
  intro l us hl hr j c v hc hv;have h1:=List.all_eq_true.1 hl c (gM hc);have h2:=hr j c v hc hv;cases c with
  |pv p=>cases h2 with|pv h=>exact .pv (h.mono hk)
  |_=>simp[TV.isPv]at h1
 cases x with
 |pv p=>exact h.still (.inl ⟨_,rfl⟩) hk
 |own d W es=>exact h.still (.inr ⟨_,_,_,rfl⟩) hk
 |fn f a b=>
  simp only[TV.flB,Bool.and_eq_true]at hx;cases h with
  |fn g xs ys us vs h1 h2 r1 r2=>exact .fn f a b us vs h1 h2 (hpv hx.1 r1) (hpv hx.2 r2)
 |_=>simp[TV.flB]at hx
theorem RelT.still2{w w':World}{E:Env}{r:Rows}{x:TV}{v:Value}(hx:x.fl2B=true)(h:RelT w E r x v)(hk:∀b o u,E.K b o→w.cell? ⟨b,o,none⟩=some u→E.K b o∧w'.cell? ⟨b,o,none⟩=some u):RelT w' E r x v:=by
 cases x with
 |agg cs=>
  cases h with
  |agg cs vs hl h ho=>
   refine .agg cs vs hl (fun j c v hc hv=>(h j c v hc hv).stillB ?_ hk) ho;exact(List.all_eq_true.1 hx) c (gM hc)
 |ptr d o=>cases h;exact .ptr d o
 |_=>exact h.stillB hx hk
inductive MixO where
 |op (so:SOper)
 |ins (k:Value) (x:Nat)
def mixAt(P:Program)(N:Nat)(H:Option Nat→Nat)(ops:Array Oper)(t m i:Nat):Option MixO:=match insAt ops t m i with
 |some (.const k,.tmp x)=>some (.ins k x)
 |some _=>none
 |none=>match ops[i]? with
  |some o=>match z72 P N H none ops o with
   |some so=>match so.guard,so.dst with
    |none,some d=>if Nat.beq d m then none else some (.op so)
    |_,_=>none
   |none=>none
  |none=>none
def mixL(P:Program)(N:Nat)(H:Option Nat→Nat)(ops:Array Oper)(t m:Nat):List Nat→Option (List MixO)
 |[]=>some []
 |i::l=>match mixAt P N H ops t m i,mixL P N H ops t m l with
  |some x,some r=>some (x::r)
  |_,_=>none
def flS(m:Nat)(s:ES):Bool:=s.t.all (fun p=>Nat.beq p.1 m||p.2.fl2B)&&s.b.all (fun p=>p.2.all TV.flB)&&s.i.isEmpty
def insK(m x:Nat)(k:Value)(text:Bool)(K:ES→Prop)(s:ES):Option TV→Option TV→Prop
 |some (.mp ks xs),some y=>findKs (kdOf text) k ks 0=some none∧(xs.all TV.fl2B&&y.fl2B)=true∧K ⟨sv s.t m (.mp (ks++[k]) (xs++[y])),s.b,s.r,s.i⟩
 |_,_=>False
def mixW(P:Program)(g:Glob)(text:Bool)(m:Nat)(K:ES→Prop):List MixO→ES→Prop
 |[],s=>K s
 | .op so::l,s=>opsW P g [so] (mixW P g text m K l) (s.fgt so.news)
 | .ins k x::l,s=>flS m s=true∧Nat.beq x m=false∧insK m x k text (mixW P g text m K l) s (lk s.t m) (lk s.t x)
theorem lk_mem{α:Type}:∀{l:List (Nat×α)} {k:Nat} {x:α},lk l k=some x→(k,x)∈l
 |[],k,x,h=>by simp[lk]at h
 |(j,y)::l,k,x,h=>by
  simp only[lk]at h;cases hj:Nat.beq j k with
  |true=>rw[hj]at h;cases h;rw[Nat.eq_of_beq_eq_true hj];exact List.mem_cons_self ..
  |false=>rw[hj]at h;exact List.mem_cons_of_mem _ (lk_mem h)
section
variable{P:Program}{g:Glob}{ops:Array Oper}{B:Base}{H:Option Nat→Nat}{t kt et:TypeId}{text:Bool}{m b:Nat}
theorem turn_sim{s:ES}{a:Act}{w w':World}{E:Env}(h:Sim B s.fs a w E)(hfl:flS m s=true){ks ks':List Value}{xs xs':List TV}(hm:lk s.t m=some (.mp ks xs))(hs:MapTurn b w w')(hb:B.w0.heap.size≤b)(ho:∃o:Obj,w.heap[b]?=some o∧o.isCells=false)
  (hr:(∀b o u,E.K b o→w.cell? ⟨b,o,none⟩=some u→E.K b o∧w'.cell? ⟨b,o,none⟩=some u)→RelT w' E s.fs.r (.mp ks' xs') (a.tmps.getD m undef)):
  Sim B (⟨sv s.t m (.mp ks' xs'),s.b,s.r,s.i⟩:ES).fs a w' E:=by
 unfold flS at hfl;simp only[Bool.and_eq_true,List.all_eq_true,List.isEmpty_iff]at hfl;obtain⟨⟨ht,hbx⟩,hi⟩:=hfl;have hcs:∀(k:Nat) (o:Obj),w.heap[k]?=some o→o.isCells=true→w'.heap[k]?=w.heap[k]?:=fun k o hk hc=>by
  refine hs.block k (fun e=> ?_);subst e;obtain⟨o',ho',hc'⟩:=ho;rw[hk]at ho';cases ho';rw[hc]at hc';cases hc'
 have hce:∀(k o:Nat) (u:Value),w.cell? ⟨k,o,none⟩=some u→w'.cell? ⟨k,o,none⟩=some u:=fun k o u hu=>by
  obtain⟨ob,h1,h2⟩:=z81 hu;exact(World.cell?_of_block (w:=w) (a:=⟨k,o,none⟩) (hcs k ob h1 h2)).trans hu
 have hk:∀b o u,E.K b o→w.cell? ⟨b,o,none⟩=some u→E.K b o∧w'.cell? ⟨b,o,none⟩=some u:=fun b o u h1 h2=>⟨h1,hce b o u h2⟩
 have hlow:Low B.X B.w0 w':=by
  obtain⟨l1,l2,l3,l4,l5⟩:=h.mem.low;refine⟨hs.os.trans l1,hs.tape.trans l2,hs.output.trans l3,by rw[hs.size];exact l4,fun k hk hx=>(hs.block k (fun e=>by subst e;exact absurd hk (Nat.not_lt.2 hb))).trans (l5 k hk hx)⟩
 refine⟨h.defers,h.size,fun k x hx=> ?_,⟨fun d cs hd=> ?_,fun d e W n hd=> ?_,h.mem.bb,h.mem.br,h.mem.rr,fun k o hko=>by rw[hs.size];exact h.mem.lt k o hko,hlow,fun k o u h1 h2=>⟨(h.mem.keep k o u h1 h2).1,hce _ _ _ (h.mem.keep k o u h1 h2).2⟩,h.mem.knew,h.mem.pas⟩,fun d z p hd=> ?_,h.ii⟩
 ·have hx:lk (sv s.t m (.mp ks' xs')) k=some x:=hx;rw[lk_sv]at hx;rcases z29 hx with⟨rfl,rfl⟩|⟨hne,hx⟩
  ·exact⟨(h.tmp k _ hm).1,hr hk⟩
  ·obtain⟨h1,h2⟩:=h.tmp k x hx;refine⟨h1,h2.still2 ?_ hk⟩;have:=ht _ (lk_mem hx);simp only[Bool.or_eq_true]at this;rcases this with h3|h3
   ·exact absurd (Nat.eq_of_beq_eq_true h3) hne
   ·exact h3
 ·obtain⟨⟨lt,⟨c,e,z,hob⟩,fz,cell,out⟩,hq⟩:=h.mem.box d cs hd;have hss:=hcs _ _ hob rfl;refine⟨⟨by rw[hs.size];exact lt,⟨c,e,z,hss.trans hob⟩,fun o=>(z172 hss).trans (fz o),fun j c hj=> ?_,out⟩,hq⟩;obtain⟨v,h1,h2,h3⟩:=cell j c hj;exact⟨v,hce _ _ _ h1,h2,h3.stillB ((hbx _ (lk_mem hd)) c (gM hj)) hk⟩
 ·rcases h.mem.row d e W n hd with h1|⟨k,cap,h1,h2,⟨⟨cur,h3,h4⟩,h5,h6,h7⟩⟩
  ·exact .inl h1
  ·exact .inr ⟨k,cap,h1,h2,⟨⟨cur,(hcs _ _ h3 rfl).trans h3,h4⟩,h5,h6,h7⟩⟩
 ·have hd:lk s.i d=some (z,p):=hd;rw[hi]at hd;simp[lk]at hd
theorem mp_inv{w:World}{E:Env}{r:Rows}{ks:List Value}{xs:List TV}{v:Value}(h:RelT w E r (.mp ks xs) v):∃(b:Nat) (es:Array MapEntry) (clock:Nat) (g:Nat→Value),v=.map (some b)∧w.heap[b]?=some (Obj.map es clock)∧es.toList.map MapEntry.key=ks∧xs.length=ks.length∧(∀(j:Nat) e,es.toList[j]?=some e→e.val=g j)∧∀(j:Nat) x,xs[j]?=some x→RelT w E r x (g j):=by
 cases h with
 |mp ks xs b es clock g h1 h2 h3 h4 h=>exact⟨b,es,clock,g,rfl,h1,h2,h3,h4,h⟩
theorem mix_sound(hm0:B.m≤1000)(hN:B.N≤1000)(hG:g.G B.w0)(hX:∀d b,B.X d b→g.n≤b)(hu:P.underlying t=some (.map kt et))(hkt:P.underlying kt=some (kdOf text))(hmN:m<B.N)(hbb:B.w0.heap.size≤b){Q:Exit→Act→World→Prop}{K:ES→Prop}{rest:List Nat}
  (hK:∀(s:ES) (a:Act) (w:World) (E:Env),Sim B s.fs a w E→K s→wpOps P ops Q rest a w):∀(is:List Nat) (l:List MixO),mixL P B.N H ops t m is=some l→∀(s:ES) (a:Act) (w:World) (E:Env),mixW P g text m K l s→Sim B s.fs a w E→a.tmps.getD m undef=.map (some b)→wpOps P ops Q (is++rest) a w
 |[],l,hl,s,a,w,E,h,hS,hm=>by
  simp only[mixL,Option.some.injEq]at hl;subst hl;exact hK s a w E hS h
 |i::is,l,hl,s,a,w,E,h,hS,hm=>by
  simp only[mixL]at hl;split at hl<;>try(cases hl;done)
  rename_i x r hx hr;cases hl;have ih:=mix_sound hm0 hN hG hX hu hkt hmN hbb hK is r hr;have hsz:m<a.tmps.size:=by rw[hS.size];exact hmN
  rw[List.cons_append,wpOps_cons];unfold mixAt at hx;split at hx
  ·rename_i k y hins;cases hx;simp only[mixW]at h;obtain⟨hfl,hne,hk⟩:=h;unfold insK at hk;split at hk<;>try(exact hk.elim)
   rename_i ks xs tv hks htv;obtain⟨hfr,hfx,hk⟩:=hk;unfold insAt at hins;split at hins<;>try(cases hins;done)
   rename_i o ho;split at hins<;>try(cases hins;done)
   rename_i t' m' k' x' hop hdst hg;split at hins<;>try(cases hins;done)
   rename_i htm;rw[Bool.and_eq_true]at htm;obtain rfl:=Nat.eq_of_beq_eq_true htm.1;obtain rfl:=Nat.eq_of_beq_eq_true htm.2;cases hins;obtain⟨_,hrel⟩:=hS.tmp m _ hks;rw[hm]at hrel;obtain⟨b',es,clock,gg,e1,hob,hkeys,hlen,hvals,hxs⟩:=mp_inv hrel;cases e1;obtain⟨w1,hrun,hturn,hb1⟩:=run_ins (P:=P) (k:=a.eval (.const k)) (v:=a.eval (.tmp y)) hu hkt hob (by rw[hkeys];exact hfr);unfold wpOp;simp only[ho];rw[if_pos (by simp[Region.wanted,hg])];refine .inl ?_;unfold Oper.wp;have em:a.eval (.tmp m)=.map (some b):=hm;have hex:(execOp a.eval o).run P w=.ok .skip w1:=by
    have ec:a.eval (.const k)=k:=rfl;rw[ec]at hrun;simp[execOp,hop,em,ec,hrun,Result.andThen]
   rw[hex];show wpOps P ops Q (is++rest) (a.put o.dst undef) w1;rw[hdst];refine ih _ a w1 E hk (turn_sim hS hfl hks hturn hbb ⟨_,hob,rfl⟩ (fun hkk=> ?_)) hm;rw[hm];rw[Bool.and_eq_true,List.all_eq_true]at hfx;refine .mp _ _ b _ _ (fun j=>if j=ks.length then a.tmps.getD y undef else gg j) hb1 (by simp[hkeys];rfl) (by simp[hlen]) (fun j e he=> ?_) (fun j z hz=> ?_)
   ·rw[Array.toList_push]at he;have hkl:es.toList.length=ks.length:=by have:=congrArg List.length hkeys;simpa using this
    rcases Nat.lt_or_ge j ks.length with hj|hj
    ·rw[List.getElem?_append_left (by omega)]at he;rw[if_neg (by omega)];exact hvals j e he
    ·rw[List.getElem?_append_right (by omega)]at he;have hj0:j-es.toList.length=0:=by
      have:=(gJ he).1;simp at this;omega
     rw[hj0]at he;simp at he;subst he;rw[if_pos (by omega)];rfl
   ·rcases Nat.lt_or_ge j ks.length with hj|hj
    ·rw[List.getElem?_append_left (by omega)]at hz;rw[if_neg (by omega)];exact(hxs j z hz).still2 (hfx.1 z (gM hz)) hkk
    ·rw[List.getElem?_append_right (by omega)]at hz;have hj0:j-xs.length=0:=by
      have:=(gJ hz).1;simp at this;omega
     rw[hj0]at hz;simp at hz;subst hz;rw[if_pos (by omega)];exact(hS.tmp y _ htv).2.still2 hfx.2 hkk
  ·cases hx
  ·rename_i hins;split at hx<;>try(cases hx;done)
   rename_i o ho;split at hx<;>try(cases hx;done)
   rename_i so ht;split at hx<;>try(cases hx;done)
   rename_i d hgd hdd;split at hx<;>try(cases hx;done)
   rename_i hdm;cases hx;simp only[mixW]at h;have hd:Nat.beq d m=false:=by
    cases h':Nat.beq d m with
    |true=>exact absurd h' hdm
    |false=>rfl
   unfold z72 at ht;split at ht<;>try(cases ht;done)
   rename_i gd op hg hop;split at ht<;>try(cases ht;done)
   rename_i hdn;cases ht;simp only at hgd hdd;subst hgd;have hgo:o.guard=none:=by
    cases hgo:o.guard with
    |none=>rfl
    |some jw=>
     obtain⟨j,want⟩:=jw;rw[hgo]at hg;simp only[z147]at hg;split at hg<;>simp at hg
   have hS':=z70 hS (SOper.news ⟨o.dst,none,none,op⟩);obtain⟨C,hC,e,he,hk⟩:=h;have he':eff P C o.dst op (s.fgt (SOper.news ⟨o.dst,none,none,op⟩)).fs=some e:=(effF_eff (o:=⟨o.dst,none,none,op⟩) he).1;unfold wpOp;simp only[ho];rw[if_pos (by simp[Region.wanted,hgo])];refine .inl (sim_op (C:=C) hS' hm0 hN hG hX hop (fun k hk=>by rw[hk]at hdn;simp only[dstOk,Nat.blt_eq]at hdn;exact hdn) (fun d hd=>z47 s hd) hC (x:=e.1) (u:=e.2) he' (fun v w' E' hS2=> ?_));refine ih _ _ w' E' hk ?_ ?_
   ·rw[ES.after_fs];exact hS2
   ·rw[hdd];have hne:d≠m:=fun e=>by subst e;rw[Nat.beq_refl]at hd;cases hd
    simp only[Act.put,Array.getD_eq_getD_getElem?]at hm ⊢;rw[Array.getElem?_setIfInBounds_ne hne];exact hm
end
end Go.Sh
end

section
namespace Go.Proofs.YtcpaleaajdilgaaGreatDoor
open Go Go.RowKit Go.Mor Go.Sh Go.Sh.Cd1 Go.Sh.Cd6
set_option maxRecDepth 100000
set_option maxHeartbeats 4000000
def fnP(f:Nat):TV:=.pv (.v (.func (.func f) #[] #[]))
def clE(of w:TV):TV:=.agg [of,w]
def callL:List (List UInt8×TV):=[(nLen,clE (takF 1 [2]) (fnP 137)),(nLeft,clE (takF 2 [2,1]) (fnP 140)),(nRight,clE (takF 2 [2,1]) (fnP 143)),(nFrom,clE (takF 2 [2,1]) (fnP 144)),(nFind,clE (takF 1 [2,2]) (fnP 145)),
 (nText,clE (takF 2 [1]) (fnP 147)),(nNum,clE (takF 1 [2]) (fnP 148)),(nIf,clE (fnP 150) (fnP 151)),(nMin,clE (takF 1 [1,1]) (fnP 152)),(nMax,clE (takF 1 [1,1]) (fnP 153))]
def callKs:List Value:=callL.map fun p=> .string (str p.1)
def callM:TV:=.mp callKs (callL.map (·.2))
noncomputable def callOps:Array Oper:=match Tryz.prog.funcs[79]? with
 |some fn=>match fn.body with
  |some (.seq _ (.seq (.region _ ops _) _))=>ops
  |_=> #[]
 |none=> #[]
def callMix:List MixO:=[.op (oD 2 (.bsl 1 [vI 2])),.op (oD 3 (.call 136 0 [vI 1,.tmp 2])),.op (oD 4 (.build [.nilFunc,.nilFunc] [(0,1,(.tmp 3)),(1,1,(.val (.func (.func 137) #[] #[])))])),.ins ((.string ⟨#[108,101,110]⟩)) 4,.op (oD 5 (.bsl 1 [vI 2,vI 1])),.op (oD 6 (.call 136 0 [vI 2,.tmp 5])),.op (oD 7 (.build [.nilFunc,.nilFunc] [(0,1,(.tmp 6)),(1,1,(.val (.func (.func 140) #[] #[])))])),.ins ((.string ⟨#[108,101,102,116]⟩)) 7,.op (oD 8 (.bsl 1 [vI 2,vI 1])),.op (oD 9 (.call 136 0 [vI 2,.tmp 8])),.op (oD 10 (.build [.nilFunc,.nilFunc] [(0,1,(.tmp 9)),(1,1,(.val (.func (.func 143) #[] #[])))])),.ins ((.string ⟨#[114,105,103,104,116]⟩)) 10,.op (oD 11 (.bsl 1 [vI 2,vI 1])),.op (oD 12 (.call 136 0 [vI 2,.tmp 11])),.op (oD 13 (.build [.nilFunc,.nilFunc] [(0,1,(.tmp 12)),(1,1,(.val (.func (.func 144) #[] #[])))])),.ins ((.string ⟨#[102,114,111,109]⟩)) 13,.op (oD 14 (.bsl 1 [vI 2,vI 2])),.op (oD 15 (.call 136 0 [vI 1,.tmp 14])),.op (oD 16 (.build [.nilFunc,.nilFunc] [(0,1,(.tmp 15)),(1,1,(.val (.func (.func 145) #[] #[])))])),.ins ((.string ⟨#[102,105,110,100]⟩)) 16,.op (oD 17 (.bsl 1 [vI 1])),.op (oD 18 (.call 136 0 [vI 2,.tmp 17])),.op (oD 19 (.build [.nilFunc,.nilFunc] [(0,1,(.tmp 18)),(1,1,(.val (.func (.func 147) #[] #[])))])),.ins ((.string ⟨#[116,101,120,116]⟩)) 19,.op (oD 20 (.bsl 1 [vI 2])),.op (oD 21 (.call 136 0 [vI 1,.tmp 20])),.op (oD 22 (.build [.nilFunc,.nilFunc] [(0,1,(.tmp 21)),(1,1,(.val (.func (.func 148) #[] #[])))])),.ins ((.string ⟨#[110,117,109]⟩)) 22,.op (oD 23 (.build [.nilFunc,.nilFunc] [(0,1,(.val (.func (.func 150) #[] #[]))),(1,1,(.val (.func (.func 151) #[] #[])))])),.ins ((.string ⟨#[105,102]⟩)) 23,.op (oD 24 (.bsl 1 [vI 1,vI 1])),.op (oD 25 (.call 136 0 [vI 1,.tmp 24])),.op (oD 26 (.build [.nilFunc,.nilFunc] [(0,1,(.tmp 25)),(1,1,(.val (.func (.func 152) #[] #[])))])),.ins ((.string ⟨#[109,105,110]⟩)) 26,.op (oD 27 (.bsl 1 [vI 1,vI 1])),.op (oD 28 (.call 136 0 [vI 1,.tmp 27])),.op (oD 29 (.build [.nilFunc,.nilFunc] [(0,1,(.tmp 28)),(1,1,(.val (.func (.func 153) #[] #[])))])),.ins ((.string ⟨#[109,97,120]⟩)) 29,.op (oM 30 1),.op (oM 0 30)]
theorem callMix_eq:mixL Tryz.prog 31 (fun _=>0) callOps 147 1 (List.range' 1 40)=some callMix:=by kernel_rfl
@[congr] theorem mixW_congr {P:Program} {g:Sh.Glob} {text:Bool} {m:Nat} {K:ES→Prop} {l:List MixO} {s s':ES} (h:s=s'):mixW P g text m K l s=mixW P g text m K l s':=by rw[h]
section
variable{P:Program}{g:Sh.Glob}{text:Bool}{m x:Nat}{k:Value}{K:ES→Prop}{l:List MixO}{s:ES}{so:SOper}{ks:List Value}{xs:List TV}{y:TV}
theorem mw_nil:mixW P g text m K [] s=K s:=rfl
theorem mw_op:mixW P g text m K (.op so::l) s=opsW P g [so] (mixW P g text m K l) (s.fgt so.news):=rfl
theorem mw_ins:mixW P g text m K (.ins k x::l) s=(flS m s=true∧Nat.beq x m=false∧insK m x k text (mixW P g text m K l) s (lk s.t m) (lk s.t x)):=rfl
theorem ik:insK m x k text K s (some (.mp ks xs)) (some y)=(findKs (kdOf text) k ks 0=some none∧(xs.all TV.fl2B&&y.fl2B)=true∧K ⟨sv s.t m (.mp (ks++[k]) (xs++[y])),s.b,s.r,s.i⟩):=rfl
end
theorem mwV:(type_of% @mw_nil)∧(type_of% @mw_op)∧(type_of% @mw_ins)∧(type_of% @ik):=⟨@mw_nil,@mw_op,@mw_ins,@ik⟩
def callF:SFunc:=⟨0,.skip,[.tmp 0],false⟩
def callK(s:ES):Prop:=exitF callF 0 s=some (callM,[])
theorem in1(a:Int):inR [a]=[[.v (.int .i64 a)]]:=rfl
theorem calls_walk(g:Sh.Glob):mixW Tryz.prog g true 1 callK callMix ⟨[(1,.mp [] [])],[],[],[]⟩:=by
 have T1:=evTakes_ok g 1 [2];have T2:=evTakes_ok g 2 [2,1];have T3:=evTakes_ok g 1 [2,2];have T4:=evTakes_ok g 2 [1];have T5:=evTakes_ok g 1 [1,1];unfold callMix;simp only[vW,seval,mwV,SOper.news,SOp.news];unfold takF at T1 T2 T3 T4 T5;(with_reducible apply v_call);simp only[vW,seval,in1];rfl;rfl;exact T1;exact km;simp only[vW,seval,in1];rfl;simp only[vW,seval,mwV,SOper.news,SOp.news];repeat(refine⟨by rfl,?_⟩)
 (with_reducible apply v_call);simp only[vW,seval,in2];rfl;rfl;exact T2;exact km;simp only[vW,seval,in2];rfl;simp only[vW,seval,mwV,SOper.news,SOp.news];repeat(refine⟨by rfl,?_⟩)
 (with_reducible apply v_call);simp only[vW,seval,in2];rfl;rfl;exact T2;exact km;simp only[vW,seval,in2];rfl;simp only[vW,seval,mwV,SOper.news,SOp.news];repeat(refine⟨by rfl,?_⟩)
 (with_reducible apply v_call);simp only[vW,seval,in2];rfl;rfl;exact T2;exact km;simp only[vW,seval,in2];rfl;simp only[vW,seval,mwV,SOper.news,SOp.news];repeat(refine⟨by rfl,?_⟩)
 (with_reducible apply v_call);simp only[vW,seval,in2];rfl;rfl;exact T3;exact km;simp only[vW,seval,in2];rfl;simp only[vW,seval,mwV,SOper.news,SOp.news];repeat(refine⟨by rfl,?_⟩)
 (with_reducible apply v_call);simp only[vW,seval,in1];rfl;rfl;exact T4;exact km;simp only[vW,seval,in1];rfl;simp only[vW,seval,mwV,SOper.news,SOp.news];repeat(refine⟨by rfl,?_⟩)
 (with_reducible apply v_call);simp only[vW,seval,in1];rfl;rfl;exact T1;exact km;simp only[vW,seval,in1];rfl;simp only[vW,seval,mwV,SOper.news,SOp.news];repeat(refine⟨by rfl,?_⟩)
 (with_reducible apply v_call);simp only[vW,seval,in2];rfl;rfl;exact T5;exact km;simp only[vW,seval,in2];rfl;simp only[vW,seval,mwV,SOper.news,SOp.news];repeat(refine⟨by rfl,?_⟩)
 (with_reducible apply v_call);simp only[vW,seval,in2];rfl;rfl;exact T5;exact km;simp only[vW,seval,in2];rfl;simp only[vW,seval,mwV,SOper.news,SOp.news];repeat(refine⟨by rfl,?_⟩)
 show exitF callF 0 _=some (callM,[]);kernel_rfl
theorem calls_ok(g:Sh.Glob):SCalls Tryz.prog g 79 [] [] callM []:=by
 refine⟨z40 (by kernel_rfl),fun w E us hG hm hX hl hr=> ?_⟩;obtain rfl:us=[]:=List.eq_nil_of_length_eq_zero hl.symm;have hS0:=start_sim (N:=31) (xs:=[]) (by decide) hm hl hr;have hn:∀(k:Nat),(startE [] []).fs.t k=none:=fun k=>rfl;refine calls_of_wp Tryz.func79 rfl ?_;refine wp_seq (wp_region ?_);show wpOps _ _ _ [0] _ _;rw[wpOps_cons];refine z89 rfl rfl (v:=.map none) (w':=w) rfl ?_;show(Code.seq _ _).wp _ _ _ _;refine wp_seq (wp_region ?_);show wpOps _ callOps _ (0::(List.range' 1 40++[])) _ _;rw[wpOps_cons];refine z89 rfl rfl (v:=.map (some w.heap.size)) (w':=w.alloc (.map #[] 0)) rfl ?_;have hnew:(w.alloc (.map #[] 0)).heap[w.heap.size]?=some (.map #[] 0):=heap_alloc_new w _;have hbel:Below w.heap.size w (w.alloc (.map #[] 0)):=(Below.refl w.heap.size w).alloc (Nat.le_refl _) _;have hS1:=hS0.same hbel;refine mix_sound (B:=Sh.start w E [] 31) (g:=g) (kt:=9) (et:=226) (text:=true) (t:=147) (m:=1) (b:=w.heap.size) (H:=fun _=>0) (K:=callK) (by show 0≤1000;decide) (by show 31≤1000;decide) hG hX (by kernel_rfl) (by kernel_rfl) (by show 1<31;decide) (Nat.le_refl _) ?_ _ callMix callMix_eq ⟨[(1,.mp [] [])],[],[],[]⟩ _ _ E (calls_walk g) ?_ rfl
 ·intro s a w2 E2 hS hk;show Code.ret.wp _ _ a w2;refine wp_ret ?_;have hhrs:seqO (z60 Tryz.prog) Tryz.f79.results.toList=some [.tmp 0]:=by kernel_rfl
  obtain⟨v,hrun,v1,E4,hv,hm4,hr4,hl4⟩:=fin_of (F:=callF) rfl rfl hhrs (os:=[]) (os':=[]) (ds:=[]) rfl hS hk;exact⟨hS.defers,v,hrun,v1,E4,hv,hm4,hr4,hl4⟩
 ·have h1:=hS1.act (a2:=Act.put ⟨#[]++Array.replicate (31-0) undef,[]⟩ (some 0) (.map none)) (by rfl) rfl (fun k x hx=>by rw[hn]at hx;cases hx);have h2:=h1.setT (k:=1) (by show 1<31;decide) (x:=.mp [] []) (v:=.map (some w.heap.size)) (.mp [] [] w.heap.size #[] 0 (fun _=>undef) hnew rfl rfl (by simp) (by simp));have he:((startE [] []).fs.setT 1 (.mp [] []))=(⟨[(1,.mp [] [])],[],[],[]⟩:ES).fs:=by
   refine FS.ext' (fun k=> ?_) (fun k=>rfl) (fun k=>rfl) (fun k=>rfl);show setF (lk []) 1 _ k=lk [(1,_)] k;rw[←lk_sv];rfl
  rw[he]at h2;exact h2
def vC(ps:List V):List TV:=pvC (ps.flatMap V.row)
theorem z44(x:V)(ps:List V):vC (x::ps)=I x.k::I x.n::S (str x.s):: .pv (.sl 4 (V.rows x.l))::vC ps:=by
 unfold vC;rw[List.flatMap_cons,row4];rfl
theorem vC_nil:vC []=[]:=rfl
theorem vC_len(ps:List V):(vC ps).length=ps.length*4:=by
 induction ps with
 |nil=>rfl
 |cons p ps ih=>rw[z44];simp[ih];omega
theorem vC_fgt(ids:List Nat)(ps:List V):List.map (fgt3 ids) (vC ps)=vC ps:=pvC_fgt ids _
theorem vC_ids(ps:List V):List.flatMap TV.ids1 (vC ps)=[]:=pvC_ids _
theorem vC_ren(ρ:Nat→Option Nat)(ps:List V):seqO (TV.ren1 ρ) (vC ps)=some (vC ps):=pvC_ren ρ _
theorem vcC:(type_of% @vC_fgt)∧(type_of% @vC_ids)∧(type_of% @vC_ren)∧(type_of% @vC_len):=⟨@vC_fgt,@vC_ids,@vC_ren,@vC_len⟩
theorem str_dropX(l:List UInt8)(i:Nat):(str l).extract i l.length=str (l.drop i):=by rw[str_extract,List.take_of_length_le (by simp)]
def z93(s:List UInt8):Prop:=s.length≤60
def RgN(n:Int):Prop:= -1000000000000000≤n∧n≤1000000000000000
section
variable{x y z:V}
theorem call1_ok(g:Sh.Glob)(hx:z93 x.s):SCalls Tryz.prog g 137 [.bs 1000 0 1 1] [.box (vC [x])] (nv (callV nLen [x])) [.box (vC [x])]:=by
 have HS:=signs_ok g x.s (by have:x.s.length≤60:=hx;omega);have HN:=number_ok g (signsV x.s);rw[show callV nLen [x]=numE (signsV x.s) from rfl];simp only[z44,vC_nil];refine z17 hmix tf_63 rfl rfl rfl ?_;generalize numE (signsV x.s)=r at*;unfold nv at*;simp only[vW,seval];(with_reducible apply v_call);exact kv;rfl;exact HS;exact km;exact kv;(with_reducible apply v_call);exact kv;rfl;exact HN;exact km;exact kv;simp only[vW,seval]
theorem call2_ok(g:Sh.Glob)(hx:z93 x.s):SCalls Tryz.prog g 140 [.bs 1000 0 2 2] [.box (vC [x,y])] (nv (callV nLeft [x,y])) [.box (vC [x,y])]:=by
 have hx:x.s.length≤60:=hx;have HB:=behind_ok g x.s y.n (by omega);have hb:=behV_le x.s y.n;have HT:=text_ok6 g (x.s.take (behV x.s y.n)) (by rw[List.length_take];omega);rw[show callV nLeft [x,y]=textE (x.s.take (behV x.s y.n)) from rfl];simp only[z44,vC_nil];refine z17 hmix tf_65 rfl rfl rfl ?_;generalize textE (x.s.take (behV x.s y.n))=r at*;unfold nv at*;simp only[vW,seval];(with_reducible apply v_call);exact kv;rfl;exact HB;exact km;exact kv;simp only[vW,seval,List.drop_zero];refine⟨by omega,?_⟩;(with_reducible apply v_call);exact kv;rfl;exact HT;exact km;exact kv;simp only[vW,seval]
theorem call3_ok(g:Sh.Glob)(hx:z93 x.s)(hy:RgN y.n):SCalls Tryz.prog g 143 [.bs 1000 0 2 2] [.box (vC [x,y])] (nv (callV nRight [x,y])) [.box (vC [x,y])]:=by
 have hx:x.s.length≤60:=hx;obtain⟨hy0,hy1⟩:=hy;have HS:=signs_ok g x.s (by omega);have hs:=signs_le _ x.s (Nat.le_refl _);have HB:=behind_ok g x.s (signsV x.s-y.n) (by omega);have hb:=behV_le x.s (signsV x.s-y.n);have HT:=text_ok6 g (x.s.drop (behV x.s (signsV x.s-y.n))) (by rw[List.length_drop];omega);have w1:IntKind.i64.wrap ((signsV x.s:Int) - y.n)=(signsV x.s:Int) - y.n:=wrap64 (by omega) (by omega);have hd:=str_dropX x.s (behV x.s (signsV x.s-y.n));rw[show callV nRight [x,y]=textE (x.s.drop (behV x.s (signsV x.s-y.n))) from rfl];simp only[z44,vC_nil];refine z17 hmix tf_66 rfl rfl rfl ?_;generalize textE (x.s.drop (behV x.s (signsV x.s-y.n)))=r at*;unfold nv at*;simp only[vW,seval];(with_reducible apply v_call);exact kv;rfl;exact HS;exact km;exact kv;simp only[vW,seval,w1];(with_reducible apply v_call);exact kv;rfl;exact HB;exact km;exact kv;simp only[vW,seval,hd];refine⟨by omega,?_⟩;(with_reducible apply v_call);exact kv;rfl;exact HT;exact km;exact kv;simp only[vW,seval]
theorem call4_ok(g:Sh.Glob)(hx:z93 x.s):SCalls Tryz.prog g 144 [.bs 1000 0 2 2] [.box (vC [x,y])] (nv (callV nFrom [x,y])) [.box (vC [x,y])]:=by
 have hx:x.s.length≤60:=hx;have HB:=behind_ok g x.s y.n (by omega);have hb:=behV_le x.s y.n;have HT:=text_ok6 g (x.s.drop (behV x.s y.n)) (by rw[List.length_drop];omega);have hd:=str_dropX x.s (behV x.s y.n);rw[show callV nFrom [x,y]=textE (x.s.drop (behV x.s y.n)) from rfl];simp only[z44,vC_nil];refine z17 hmix tf_67 rfl rfl rfl ?_;generalize textE (x.s.drop (behV x.s y.n))=r at*;unfold nv at*;simp only[vW,seval];(with_reducible apply v_call);exact kv;rfl;exact HB;exact km;exact kv;simp only[vW,seval,hd];refine⟨by omega,?_⟩;(with_reducible apply v_call);exact kv;rfl;exact HT;exact km;exact kv;simp only[vW,seval]
theorem call5_ok(m:Nat)(hx:z93 x.s):SCalls Tryz.prog (glT m) 145 [.bs 1000 0 2 2] [.box (vC [x,y])] (nv (callV nFind [x,y])) [.box (vC [x,y])]:=by
 have HF:=evFind_ok m x.s y.s (by have:x.s.length≤60:=hx;omega);have HN:=number_ok (glT m) (findV x.s y.s);rw[show callV nFind [x,y]=numE (findV x.s y.s) from rfl];simp only[z44,vC_nil];refine z17 hmix tf_68 rfl rfl rfl ?_;generalize numE (findV x.s y.s)=r at*;unfold nv at*;simp only[vW,seval];(with_reducible apply v_call);exact kv;rfl;exact HF;exact km;exact kv;(with_reducible apply v_call);exact kv;rfl;exact HN;exact km;exact kv;simp only[vW,seval]
theorem call6_ok(m:Nat)(hx:RgN x.n):SCalls Tryz.prog (glT m) 147 [.bs 1000 0 1 1] [.box (vC [x])] (nv (callV nText [x])) [.box (vC [x])]:=by
 obtain⟨h0,h1⟩:=hx;have HI:=itoa_ok m x.n (by omega) (by omega);have hl:(Lib.itoa x.n).length≤4611686018427387904:=by
  have:=cut_itoa x.n;have hh:∀n:Nat,(Lib.decDigits n).length≤n+1:=fun n=>by
   induction n using Nat.strongRecOn with
   |_ n ih=>
    by_cases h:n<10
    ·rw[Lib.decDigits_one h];simp
    ·rw[Lib.decDigits,dif_neg h,List.length_append];have:=ih (n / 10) (by omega);simp;omega
  unfold Lib.itoa;split
  ·have:=hh x.n.natAbs;simp;omega
  ·have:=hh x.n.toNat;omega
 have HT:=text_ok6 (glT m) (Lib.itoa x.n) hl;rw[show callV nText [x]=textE (Lib.itoa x.n) from rfl];simp only[z44,vC_nil];refine z17 hmix tf_69 rfl rfl rfl ?_;generalize textE (Lib.itoa x.n)=r at*;unfold nv at*;simp only[vW,seval];(with_reducible apply v_call);exact kv;rfl;exact HI;exact km;exact kv;(with_reducible apply v_call);exact kv;rfl;exact HT;exact km;exact kv;simp only[vW,seval]
theorem call7_ok(m:Nat)(hx:z93 x.s):SCalls Tryz.prog (glE m) 148 [.bs 1000 0 1 1] [.box (vC [x])] (nv (callV nNum [x])) [.box (vC [x])]:=by
 have HF:=told_ok m x.s (by have:x.s.length≤60:=hx;omega);have HN:=number_ok (glE m) (toldV x.s);rw[show callV nNum [x]=numE (toldV x.s) from rfl];simp only[z44,vC_nil];refine z17 hmix tf_70 rfl rfl rfl ?_;generalize numE (toldV x.s)=r at*;unfold nv at*;simp only[vW,seval];(with_reducible apply v_call);exact kv;rfl;exact HF;exact km;exact kv;(with_reducible apply v_call);exact kv;rfl;exact HN;exact km;exact kv;simp only[vW,seval]
theorem call8_ok(g:Sh.Glob):SCalls Tryz.prog g 151 [.bs 1000 0 3 3] [.box (vC [x,y,z])] (tv (callV nIf [x,y,z])) [.box (vC [x,y,z])]:=by
 rw[show callV nIf [x,y,z]=if x.n≠0 then y else z from rfl];simp only[z44,vC_nil];refine z17 hmix tf_71 rfl rfl rfl ?_;by_cases h:x.n=0
 ·rw[if_neg (by simpa using h)];simp only[vW,seval,h]
 ·rw[if_pos h];simp only[vW,seval,h]
theorem call9_ok(g:Sh.Glob):SCalls Tryz.prog g 152 [.bs 1000 0 2 2] [.box (vC [x,y])] (nv (callV nMin [x,y])) [.box (vC [x,y])]:=by
 have HN:=number_ok g (min x.n y.n);rw[show callV nMin [x,y]=numE (min x.n y.n) from rfl];simp only[z44,vC_nil];refine z17 hmix tf_72 rfl rfl rfl ?_;generalize numE (min x.n y.n)=r at*;unfold nv at*;simp only[vW,seval];(with_reducible apply v_call);exact kv;rfl;exact HN;exact km;exact kv;simp only[vW,seval]
theorem call10_ok(g:Sh.Glob):SCalls Tryz.prog g 153 [.bs 1000 0 2 2] [.box (vC [x,y])] (nv (callV nMax [x,y])) [.box (vC [x,y])]:=by
 have HN:=number_ok g (max x.n y.n);rw[show callV nMax [x,y]=numE (max x.n y.n) from rfl];simp only[z44,vC_nil];refine z17 hmix tf_64 rfl rfl rfl ?_;generalize numE (max x.n y.n)=r at*;unfold nv at*;simp only[vW,seval];(with_reducible apply v_call);exact kv;rfl;exact HN;exact km;exact kv;simp only[vW,seval]
end
theorem quotient_ok(g:Sh.Glob)(s:List UInt8)(a b:Int)(ha:RgN a)(hs:s=[47]∨s=[37]):SCalls Tryz.prog g 217 [S (str s),I a,I b] [] (I (quotV s a b)) []:=by
 have q1:(⟨#[47]⟩:ByteArray)=str [47]:=rfl;have e1:(([37]:List UInt8)==[47])=false:=rfl;obtain⟨a0,a1⟩:=ha;unfold quotV;refine z7 hmix tf_82 rfl ?_;by_cases h:b=0
 ·subst h;simp only[vW,seval]
 ·rw[if_neg h];rcases hs with rfl|rfl
  ·have hb: -1000000000000000≤a.tdiv b∧a.tdiv b≤1000000000000000:=by
    have h1:=Int.natAbs_tdiv_le_natAbs a b;omega
   have w1:IntKind.i64.wrap (a.tdiv b)=a.tdiv b:=wrap64 (by omega) (by omega);simp only[vW,seval,h,q1,w1]
  ·simp only[vW,seval,h,q1,e1];rfl
theorem abs_max(a:Int):max a (-a)=(a.natAbs:Int):=by omega
theorem prod_rng{a b:Int}(h0:a≠0)(h:max b (-b)≤(1000000000000000:Int).tdiv (max a (-a))): -1000000000000000≤a*b∧a*b≤1000000000000000:=by
 rw[abs_max,abs_max]at h;have e:(1000000000000000:Int).tdiv (a.natAbs:Int)=((1000000000000000 / a.natAbs:Nat):Int):=rfl;rw[e]at h;have h1:b.natAbs≤1000000000000000 / a.natAbs:=by omega
 have h2:b.natAbs*a.natAbs≤1000000000000000:=(Nat.le_div_iff_mul_le (by omega)).1 h1;have h3:(a*b).natAbs=b.natAbs*a.natAbs:=by rw[Int.natAbs_mul,Nat.mul_comm]
 omega
theorem quo_rng(a:Int):0≤(1000000000000000:Int).tdiv (max a (-a))∧(1000000000000000:Int).tdiv (max a (-a))≤1000000000000000:=by
 rw[abs_max];have e:(1000000000000000:Int).tdiv (a.natAbs:Int)=((1000000000000000 / a.natAbs:Nat):Int):=rfl;rw[e];have:=Nat.div_le_self 1000000000000000 a.natAbs;exact⟨Int.natCast_nonneg _,Int.ofNat_le.2 this⟩
theorem product_ok(g:Sh.Glob)(a b:Int)(ha:RgN a)(hb:RgN b):SCalls Tryz.prog g 216 [I a,I b] [] (I (prodV a b)) []:=by
 obtain⟨a0,a1⟩:=ha;obtain⟨b0,b1⟩:=hb;have w1:IntKind.i64.wrap (0-a)= -a:=by rw[wrap64 (by omega) (by omega)];omega
 have w2:IntKind.i64.wrap (0-b)= -b:=by rw[wrap64 (by omega) (by omega)];omega
 have w1':IntKind.i64.wrap (-a)= -a:=by rw[wrap64 (by omega) (by omega)]
 have w2':IntKind.i64.wrap (-b)= -b:=by rw[wrap64 (by omega) (by omega)]
 have hq:=quo_rng a;have w3:IntKind.i64.wrap ((1000000000000000:Int).tdiv (max a (-a)))=(1000000000000000:Int).tdiv (max a (-a)):=wrap64 (by omega) (by omega);unfold prodV;refine z7 hmix tf_81 rfl ?_;by_cases h:a=0
 ·subst h;have w4:IntKind.i64.wrap (0*b)=0*b:=by rw[Int.zero_mul];rfl
  simp only[vW,seval,w4];simp
 ·have hm:¬max a (-a)=0:=by omega
  by_cases h2:max b (-b)≤(1000000000000000:Int).tdiv (max a (-a))
  ·rw[if_pos (.inr h2)];have hr:=prod_rng h h2;have w4:IntKind.i64.wrap (a*b)=a*b:=wrap64 (by omega) (by omega);simp only[vW,seval,h,w1,w2,w1',w2',w3,w4,hm,h2]
  ·rw[if_neg (by simp only[not_or];exact⟨h,h2⟩)];by_cases c1:a<0
   ·by_cases c2:b<0
    ·simp only[vW,seval,h,w1,w2,w1',w2',w3,hm,h2,c1,c2,bbEql]
    ·simp only[vW,seval,h,w1,w2,w1',w2',w3,hm,h2,c1,c2,bbEql]
   ·by_cases c2:b<0
    ·simp only[vW,seval,h,w1,w2,w1',w2',w3,hm,h2,c1,c2,bbEql]
    ·simp only[vW,seval,h,w1,w2,w1',w2',w3,hm,h2,c1,c2,bbEql]
section
variable{a b:V}
theorem operN_ok(g:Sh.Glob)(s:List UInt8)(ha:RgN a.n)(hb:RgN b.n)(hs:s=[45]∨s=[43]∨s=[42]∨s=[47]∨s=[37]):SCalls Tryz.prog g 155 [S (str s),tv a,tv b] [] (nv (opV s a b)) []:=by
 have q1:(⟨#[45]⟩:ByteArray)=str [45]:=rfl;have q2:(⟨#[43]⟩:ByteArray)=str [43]:=rfl;have q3:(⟨#[42]⟩:ByteArray)=str [42]:=rfl;have q4:(⟨#[47]⟩:ByteArray)=str [47]:=rfl;have q5:(⟨#[37]⟩:ByteArray)=str [37]:=rfl;have r1:=ha.1;have r2:=ha.2;have r3:=hb.1;have r4:=hb.2;have e1:(([43]:List UInt8)==[45])=false:=rfl;have f1:(([42]:List UInt8)==[45])=false:=rfl;have f2:(([42]:List UInt8)==[43])=false:=rfl;have g1:(([47]:List UInt8)==[45])=false:=rfl;have g2:(([47]:List UInt8)==[43])=false:=rfl;have g3:(([47]:List UInt8)==[42])=false:=rfl;have h1:(([37]:List UInt8)==[45])=false:=rfl;have h2:(([37]:List UInt8)==[43])=false:=rfl;have h3:(([37]:List UInt8)==[42])=false:=rfl;have h4:(([37]:List UInt8)==[47])=false:=rfl;refine z7 hmix tf_78 rfl ?_;rcases hs with rfl|rfl|rfl|rfl|rfl
 ·have w1:IntKind.i64.wrap (0-b.n)= -b.n:=by rw[wrap64 (by omega) (by omega)];omega
  have w1':IntKind.i64.wrap (-b.n)= -b.n:=by rw[wrap64 (by omega) (by omega)]
  have w2:IntKind.i64.wrap (a.n+ -b.n)=a.n+ -b.n:=wrap64 (by omega) (by omega);have HN:=number_ok g (a.n+ -b.n);rw[show opV [45] a b=numE (a.n+ -b.n) from rfl];generalize numE (a.n+ -b.n)=r at*;unfold nv at*;simp only[vW,seval,q1,w1,w1',w2];(with_reducible apply v_call);exact kv;rfl;exact HN;exact km;exact kv;simp only[vW,seval]
 ·have w2:IntKind.i64.wrap (a.n+b.n)=a.n+b.n:=wrap64 (by omega) (by omega);have HN:=number_ok g (a.n+b.n);rw[show opV [43] a b=numE (a.n+b.n) from rfl];generalize numE (a.n+b.n)=r at*;unfold nv at*;simp only[vW,seval,q1,q2,e1,w2];(with_reducible apply v_call);exact kv;rfl;exact HN;exact km;exact kv;simp only[vW,seval]
 ·have HP:=product_ok g a.n b.n ha hb;have HN:=number_ok g (prodV a.n b.n);rw[show opV [42] a b=numE (prodV a.n b.n) from rfl];generalize numE (prodV a.n b.n)=r at*;unfold nv at*;simp only[vW,seval,q1,q2,q3,f1,f2];(with_reducible apply v_call);exact kv;rfl;exact HP;exact km;exact kv;(with_reducible apply v_call);exact kv;rfl;exact HN;exact km;exact kv;simp only[vW,seval]
 ·have HP:=quotient_ok g [47] a.n b.n ha (.inl rfl);have HN:=number_ok g (quotV [47] a.n b.n);rw[show opV [47] a b=numE (quotV [47] a.n b.n) from rfl];generalize numE (quotV [47] a.n b.n)=r at*;unfold nv at*;simp only[vW,seval,q1,q2,q3,q4,g1,g2,g3];(with_reducible apply v_call);exact kv;rfl;exact HP;exact km;exact kv;(with_reducible apply v_call);exact kv;rfl;exact HN;exact km;exact kv;simp only[vW,seval]
 ·have HP:=quotient_ok g [37] a.n b.n ha (.inr rfl);have HN:=number_ok g (quotV [37] a.n b.n);rw[show opV [37] a b=numE (quotV [37] a.n b.n) from rfl];generalize numE (quotV [37] a.n b.n)=r at*;unfold nv at*;simp only[vW,seval,q1,q2,q3,q4,q5,h1,h2,h3,h4];(with_reducible apply v_call);exact kv;rfl;exact HP;exact km;exact kv;(with_reducible apply v_call);exact kv;rfl;exact HN;exact km;exact kv;simp only[vW,seval]
theorem operC_ok(g:Sh.Glob)(ha:z93 a.s)(hb:z93 b.s):SCalls Tryz.prog g 155 [S (str [38]),tv a,tv b] [] (nv (opV [38] a b)) []:=by
 have q1:(⟨#[45]⟩:ByteArray)=str [45]:=rfl;have q2:(⟨#[43]⟩:ByteArray)=str [43]:=rfl;have q3:(⟨#[42]⟩:ByteArray)=str [42]:=rfl;have q4:(⟨#[47]⟩:ByteArray)=str [47]:=rfl;have q5:(⟨#[37]⟩:ByteArray)=str [37]:=rfl;have q6:(⟨#[38]⟩:ByteArray)=str [38]:=rfl;have h1:(([38]:List UInt8)==[45])=false:=rfl;have h2:(([38]:List UInt8)==[43])=false:=rfl;have h3:(([38]:List UInt8)==[42])=false:=rfl;have h4:(([38]:List UInt8)==[47])=false:=rfl;have h5:(([38]:List UInt8)==[37])=false:=rfl;have la:a.s.length≤60:=ha;have lb:b.s.length≤60:=hb;have HT:=text_ok6 g (a.s++b.s) (by rw[List.length_append];omega);rw[show opV [38] a b=textE (a.s++b.s) from rfl];generalize textE (a.s++b.s)=r at*;unfold nv at*;refine z7 hmix tf_78 rfl ?_;simp only[vW,seval,q1,q2,q3,q4,q5,q6,h1,h2,h3,h4,h5];refine⟨by omega,?_⟩;(with_reducible apply v_call);exact kv;rfl;exact HT;exact km;exact kv;simp only[vW,seval]
theorem operB_ok(g:Sh.Glob)(s:List UInt8)(ha:VSmall a)(hs:s=[61]∨s=[60,62]∨s=[60]∨s=[60,61]∨s=[62]∨s=[62,61]):SCalls Tryz.prog g 155 [S (str s),tv a,tv b] [] (nv (opV s a b)) []:=by
 have q1:(⟨#[45]⟩:ByteArray)=str [45]:=rfl;have q2:(⟨#[43]⟩:ByteArray)=str [43]:=rfl;have q3:(⟨#[42]⟩:ByteArray)=str [42]:=rfl;have q4:(⟨#[47]⟩:ByteArray)=str [47]:=rfl;have q5:(⟨#[37]⟩:ByteArray)=str [37]:=rfl;have q6:(⟨#[38]⟩:ByteArray)=str [38]:=rfl;have h1:(s==[45])=false:=by rcases hs with rfl|rfl|rfl|rfl|rfl|rfl<;>rfl
 have h2:(s==[43])=false:=by rcases hs with rfl|rfl|rfl|rfl|rfl|rfl<;>rfl
 have h3:(s==[42])=false:=by rcases hs with rfl|rfl|rfl|rfl|rfl|rfl<;>rfl
 have h4:(s==[47])=false:=by rcases hs with rfl|rfl|rfl|rfl|rfl|rfl<;>rfl
 have h5:(s==[37])=false:=by rcases hs with rfl|rfl|rfl|rfl|rfl|rfl<;>rfl
 have h6:(s==[38])=false:=by rcases hs with rfl|rfl|rfl|rfl|rfl|rfl<;>rfl
 have HC:=compare_ok g a b ha;have HH:=holds_ok g s (cmpV a b) hs;have N1:=number_ok g 1;have N0:=number_ok g 0;have hop:opV s a b=if holdsV s (cmpV a b)then numE 1 else numE 0:=by rcases hs with rfl|rfl|rfl|rfl|rfl|rfl<;>rfl
 rw[hop];unfold B at HH;refine z7 hmix tf_78 rfl ?_;cases hh:holdsV s (cmpV a b)
 ·rw[hh]at HH;simp only[Bool.false_eq_true,if_false];generalize numE 0=r at*;generalize numE 1=r' at*;unfold nv at*;simp only[vW,seval,q1,q2,q3,q4,q5,q6,h1,h2,h3,h4,h5,h6];(with_reducible apply v_call);exact kv;rfl;exact HC;exact km;exact kv;(with_reducible apply v_call);exact kv;rfl;exact HH;exact km;exact kv;simp only[vW,seval];(with_reducible apply v_call);exact kv;rfl;exact N0;exact km;exact kv;simp only[vW,seval]
 ·rw[hh]at HH;simp only[if_true];generalize numE 0=r at*;generalize numE 1=r' at*;unfold nv at*;simp only[vW,seval,q1,q2,q3,q4,q5,q6,h1,h2,h3,h4,h5,h6];(with_reducible apply v_call);exact kv;rfl;exact HC;exact km;exact kv;(with_reducible apply v_call);exact kv;rfl;exact HH;exact km;exact kv;simp only[vW,seval];(with_reducible apply v_call);exact kv;rfl;exact N1;exact km;exact kv;simp only[vW,seval]
end
theorem fresh_n(g:Sh.Glob):∀(n:Nat) (x:V),SizeOf.sizeOf x≤n→VFew x→SCalls Tryz.prog g 154 [tv x] [] (tv x) []:=by
 intro n
 induction n with
 |zero=>intro x hx;cases x;simp at hx
 |succ n ih=>
  intro x hx hs;have hl:=hs.len;have hK:∀y∈x.l,SCalls Tryz.prog g 154 [tv y] [] (tv y) []:=fun y hy=>by
   refine ih y ?_ (hs.sub hy);have:=V.size_lt hy x.k x.n x.s;rw[V.eta]at this;omega
  refine z54 hmix tf_75 rfl rfl ?_;simp only[vW,seval];refine v_loop (σ:={i:Nat // i≤x.l.length}) (fun i=>⟨[(1,.ptr 1 0),(2,.ptr 2 0),(3,.own 3000 4 (V.rows (x.l.take i.1))),(7,.pv (.sl 4 (V.rows x.l))),(8,I (x.l.length:Int)),(9,I (i.1:Int))],[(1,[I x.k,I x.n,S (str x.s),.pv (.sl 4 (V.rows x.l))]),(2,[I 0,I 0,S ⟨#[]⟩,.pv (.v (.slice none 0 0))])],[(3000,(37,4,i.1))],[]⟩) (fun i=>x.l.length-i.1) ⟨0,Nat.zero_le _⟩ ?_ ?_
  ·refine ES.Lw.trans ?_ (adT_lw (k:=3) (d:=3000) (e:=37) (W:=4) (.inr (by decide)) rfl);exact lw_eq rfl
  rintro⟨i,hi⟩;by_cases hlt:i<x.l.length
  ·have d1:(i:Int)<(x.l.length:Int):=by omega
   obtain⟨y,ey⟩:∃y,x.l[i]?=some y:=⟨_,gE hlt⟩
   have HF:=hK y (gM ey);have w1:IntKind.i64.wrap ((i:Int)+1)=((i+1:Nat):Int):=by rw[wrap64 (by omega) (by omega)];omega
   have ht:(V.rows (x.l.take i)).length=i:=by rw[z58,List.length_take];omega
   have hsn:V.rows (x.l.take i)++[V.row y]=V.rows (x.l.take (i+1)):=by
    rw[z50,z50,List.take_add_one,ey];simp
   rw[row4]at hsn;simp only[vW,seval,d1,ey];left;unfold tv at HF;(with_reducible apply v_call);exact kv;rfl;exact HF;exact km;exact kv;simp only[vW,seval,ht,w1,hsn];refine⟨⟨by omega,by unfold maxLen;omega⟩,z10 ⟨i+1,hlt⟩ (by show x.l.length-(i+1)<x.l.length-i;omega) ?_⟩;apply lw_of<;>simp[leL,lk,sv,Nat.beq,I,S,ES.kill,has,drp,nilT]
  ·have d1:¬(i:Int)<(x.l.length:Int):=by omega
   obtain rfl:i=x.l.length:=by omega
   simp only[vW,seval,d1,List.take_length]
theorem fresh_ok(g:Sh.Glob)(x:V)(hx:VFew x):SCalls Tryz.prog g 154 [tv x] [] (tv x) []:=fresh_n g _ x (Nat.le_refl _) hx
theorem cm_m1(ids:List Nat):TV.m1 ids callM=false:=rfl
theorem cm_m2(ids:List Nat):TV.m2 ids callM=false:=rfl
theorem cm_m3(ids:List Nat):TV.m3 ids callM=false:=rfl
theorem cm_ids1:TV.ids1 callM=[]:=rfl
theorem cm_ids2:TV.ids2 callM=[]:=rfl
theorem cm_ids3:TV.ids3 callM=[]:=rfl
theorem cm_ren1(ρ:Nat→Option Nat):TV.ren1 ρ callM=some callM:=rfl
theorem cm_ren2(ρ:Nat→Option Nat):TV.ren2 ρ callM=some callM:=rfl
theorem cm_ren3(ρ:Nat→Option Nat):TV.ren3 ρ callM=some callM:=rfl
theorem cm_cells:TV.cells callM=some [callM]:=rfl
theorem cmV:(type_of% @cm_m1)∧(type_of% @cm_m2)∧(type_of% @cm_m3)∧(type_of% @cm_ids1)∧(type_of% @cm_ids2)∧(type_of% @cm_ids3)∧(type_of% @cm_ren1)∧(type_of% @cm_ren2)∧(type_of% @cm_ren3)∧(type_of% @cm_cells):=⟨@cm_m1,@cm_m2,@cm_m3,@cm_ids1,@cm_ids2,@cm_ids3,@cm_ren1,@cm_ren2,@cm_ren3,@cm_cells⟩
def callAt(s:List UInt8):Option TV:=(callL.find? fun p=>p.1==s).map (·.2)
theorem cm_lk{s:List UInt8}(h:0<takesV s):∃y,callAt s=some y∧lkpK true (.agg #[.nilFunc,.nilFunc]) (some callM) (some (.string (str s)))=some (y,.no):=by
 rcases z151 h with rfl|rfl|rfl|rfl|rfl|rfl|rfl|rfl|rfl|rfl<;>exact⟨_,rfl,by kernel_rfl⟩
def scp(c:Cls)(vs:PV):List TV:=[S (str c.n),.pv (.sl 4 (flR c.fs)),.pv vs,callM]
theorem kidsT_snoc{t:V→Ty×Bool}(x:V):∀(l:List V),kidsT t (l++[x])=match kidsT t l with|some ps=>if(t x).2 then some (ps++[(t x).1])else none|none=>none
 |[]=>by simp only[List.nil_append,kidsT];cases(t x).2<;>rfl
 |y::l=>by
  rw[List.cons_append,kidsT,kidsT,kidsT_snoc x l];cases(t y).2
  ·rfl
  ·simp only[if_true];cases kidsT t l with
   |none=>rfl
   |some ps=>cases(t x).2<;>rfl
theorem kidsT_bad{t:V→Ty×Bool}:∀{l:List V} {x:V},x∈l→(t x).2=false→kidsT t l=none
 |y::l,x,hx,h=>by
  rw[kidsT];rcases List.mem_cons.1 hx with rfl|hx
  ·rw[h];rfl
  ·rw[kidsT_bad hx h];cases(t y).2<;>rfl
theorem tyC_set(L:List Ty)(k:Nat)(t:Ty)(h:k<L.length):List.take (k*2) (tyC L)++[TV.pv (.v (.int .i64 t.k)),TV.pv (.v (.int .i64 t.o))]++List.drop (k*2+2) (tyC L)=tyC (L.set k t):=by
 induction L generalizing k with
 |nil=>simp at h
 |cons p L ih=>
  cases k with
  |zero=>rfl
  |succ k=>
   have:=ih k (by simpa using h);rw[List.set_cons_succ];show List.take ((k+1)*2) (I p.k::I p.o::tyC L)++[I t.k,I t.o]++List.drop ((k+1)*2+2) (I p.k::I p.o::tyC L)=I p.k::I p.o::tyC (L.set k t);rw[show(k+1)*2=k*2+2 by omega];show I p.k::I p.o::(List.take (k*2) (tyC L)++[I t.k,I t.o]++List.drop (k*2+2) (tyC L))=_;rw[show List.take (k*2) (tyC L)++[I t.k,I t.o]++List.drop (k*2+2) (tyC L)=tyC (L.set k t) from this]
theorem set_take{α:Type}(L:List α)(i:Nat)(x:α)(h:i<L.length):(L.set i x).take (i+1)=L.take i++[x]:=by
 rw[List.take_add_one,List.take_set_of_le (Nat.le_refl _),List.getElem?_set_self h];rfl
theorem tyC_zero(n:Nat):(List.replicate n [TV.pv (.v (.int .i64 0)),TV.pv (.v (.int .i64 0))]).flatten=tyC (List.replicate n ty0):=by
 induction n with
 |zero=>rfl
 |succ n ih=>
  rw[List.replicate_succ,List.flatten_cons,ih];rfl
def TypeOk(g:Sh.Glob)(c:Cls)(vs:PV)(d:Nat):Prop:=∀e,okE d e=true→ESmall e→SCalls Tryz.prog g 135 [.ptr 1000 0,tv e] [.box (scp c vs)] (tyB (typeV c.fs d e)) [.box (scp c vs)]
theorem type_step(g:Sh.Glob)(c:Cls)(vs:PV)(hc:c.fs.length≤4611686018427387904)(d:Nat)(IH:TypeOk g c vs d):TypeOk g c vs (d+1):=by
  intro e he hs
  obtain⟨hn,hk⟩:=ok_kids he
  have hl3:e.l.length≤3:=by
    rcases z156 hn with k|k|k|k|k|k
    · rw[(node1 hn k).2.2.2];simp
    · rw[(node2 hn k).2.2];simp
    · rw[(node3 hn k).2.2];simp
    · obtain⟨_,_,a,b,h⟩:=node4 hn k;rw[h];simp
    · obtain⟨_,_,a,h⟩:=node5 hn k;rw[h];simp
    · have h1:=(node6 hn k).2.2
      have h2:=takes_3 e.s
      omega
  obtain⟨R,hR⟩:∃R,typeV c.fs (d+1) e=R:=⟨_,rfl⟩
  rw[hR]
  unfold typeV at hR
  have hKid:∀y∈e.l,SCalls Tryz.prog g 135 [.ptr 1000 0,tv y] [.box (scp c vs)] (tyB (typeV c.fs d y)) [.box (scp c vs)]:=fun y hy=>IH y (hk y hy) (hs.sub hy)
  unfold scp at*
  refine z17 hmix tf_20 rfl rfl rfl ?_
  simp only[vW,seval,cmV,tyV,tyC_zero]
  refine⟨⟨by omega,by unfold maxLen;omega⟩,?_⟩
  refine v_loop (σ:={p:Nat×List Ty // p.1≤e.l.length∧p.2.length=e.l.length∧kidsT (typeV c.fs d) (e.l.take p.1)=some (p.2.take p.1)})
    (fun p=>⟨[(0,.ptr 1000 0),(3,.ptr 3 0),(4,.ptr 4 0),(6,.bs 16 0 e.l.length e.l.length),(18,.pv (.sl 4 (V.rows e.l))),(19,I (e.l.length:Int)),(20,I (p.1.1:Int))],
      [(1000,[S (str c.n),.pv (.sl 4 (flR c.fs)),.pv vs,callM]),(3,[I e.k,I e.n,S (str e.s),.pv (.sl 4 (V.rows e.l))]),(4,[I 0,I 0]),(16,tyC p.1.2)],[],[]⟩) (fun p=>e.l.length-p.1.1)
    ⟨(0,List.replicate e.l.length ty0),Nat.zero_le _,by simp,by simp[kidsT]⟩ ?_ ?_
  · apply lw_of<;>simp[leL,lk,sv,Nat.beq,I,S,ES.kill,has,drp,nilT]
  rintro⟨⟨i,L⟩,hi,hL,hT⟩
  simp only at hi hL hT
  by_cases hlt:i<e.l.length
  · have d1:(i:Int)<(e.l.length:Int):=by omega
    obtain⟨y,ey⟩:∃y,e.l[i]?=some y:=⟨_,gE hlt⟩
    have hmem:=gM ey
    have HF:=hKid y hmem
    have w1:IntKind.i64.wrap ((i:Int)+1)=((i+1:Nat):Int):=by rw[wrap64 (by omega) (by omega)];omega
    have htk:e.l.take (i+1)=e.l.take i++[y]:=by rw[List.take_add_one,ey];rfl
    unfold tyB B at HF
    simp only[vW,seval,d1,ey,cmV,tyV]
    (with_reducible apply v_call);simp only[vW,seval,cmV,tyV];rfl;rfl;exact HF;exact km;simp only[vW,seval,cmV,tyV];rfl
    cases h2:(typeV c.fs d y).2
    · rw[kidsT_bad hmem h2]at hR
      simp only[vW,seval,cmV,tyV]
      rw[←hR];rfl
    · have hset:=tyC_set L i (typeV c.fs d y).1 (by omega)
      simp only[vW,seval,cmV,tyV,w1,hset]
      refine⟨by omega,by omega,z10 ⟨(i+1,L.set i (typeV c.fs d y).1),hlt,by simp[hL],by simp only;rw[htk,kidsT_snoc,hT,set_take L i _ (by omega),h2];rfl⟩ (by show e.l.length-(i+1)<e.l.length-i;omega) ?_⟩
      apply lw_of<;>simp[leL,lk,sv,Nat.beq,I,S,ES.kill,has,drp,nilT]
  · have d1:¬(i:Int)<(e.l.length:Int):=by omega
    obtain rfl:i=e.l.length:=by omega
    rw[List.take_length,←hL,List.take_length]at hT
    rw[hT]at hR
    simp only at hR
    unfold nodeT at hR
    rcases z156 hn with k|k|k|k|k|k
    · rw[if_neg (by omega),if_neg (by omega),if_neg (by omega),if_neg (by omega),if_neg (by omega)]at hR
      simp only[vW,seval,d1,cmV,tyV,k]
      rw[←hR]
    · rw[if_pos k]at hR
      simp only[vW,seval,d1,cmV,tyV,k]
      rw[←hR]
    · rw[if_neg (by omega),if_pos k]at hR
      have HA:=field_ok g c e.s hc
      unfold fieldT clT B at HA
      by_cases hf:fieldAt c.fs e.s<0
      · rw[if_pos hf]at HA hR
        simp only[vW,seval,d1,cmV,tyV,k]
        (with_reducible apply v_call);simp only[vW,seval,cmV];rfl;rfl;exact HA;exact km;simp only[vW,seval,cmV];rfl
        simp only[vW,seval,cmV,tyV]
        rw[←hR];rfl
      · rw[if_neg hf]at HA hR
        obtain⟨q,hq⟩:∃q:Nat,fieldAt c.fs e.s=q:=⟨(fieldAt c.fs e.s).toNat,by omega⟩
        obtain⟨f,hf1,_⟩:=z163 _ _ q hq
        rw[hq]at HA hR
        rw[Int.toNat_natCast,getD_at hf1]at hR
        simp only[vW,seval,d1,cmV,tyV,k]
        (with_reducible apply v_call);simp only[vW,seval,cmV];rfl;rfl;exact HA;exact km;simp only[vW,seval,cmV];rfl
        simp only[vW,seval,cmV,tyV,clV,hf1]
        rw[←hR]
    · rw[if_neg (by omega),if_neg (by omega),if_pos k]at hR
      obtain⟨_,hb,a,b,hab⟩:=node4 hn k
      have hlen:L.length=2:=by rw[hL,hab];rfl
      obtain⟨p,q,rfl⟩:∃p q,L=[p,q]:=by
        match L,hlen with
        |[p,q],_=>exact⟨p,q,rfl⟩
      have HO:=operator_ok g e.s
      have T1:=takes1_ok g 1 [1,1] [p,q] rfl (by simp)
      have T2:=takes1_ok g 2 [2,2] [p,q] rfl (by simp)
      have T3:=oper1_ok g p q
      unfold operF at HO
      unfold operT at hR
      have hl2:e.l.length=2:=by rw[hab];rfl
      by_cases h1:e.s=[43]∨e.s=[45]∨e.s=[42]∨e.s=[47]∨e.s=[37]
      · rw[if_pos h1]at HO hR
        unfold takF at HO
        rw[hR]at T1
        simp only[vW,seval,d1,cmV,tyV,k,hl2]
        (with_reducible apply v_call);simp only[vW,seval,cmV];rfl;rfl;exact HO;exact km;simp only[vW,seval,cmV];rfl
        simp only[vW,seval,cmV,tyV]
        unfold tyB B at T1
        (with_reducible apply z22);simp only[vW,seval,cmV,tyV];rfl;exact T1;rfl;simp only[vW,seval,cmV,tyV];rfl
        simp only[vW,seval,cmV,tyV]
      · rw[if_neg h1]at HO hR
        by_cases h2:e.s=[38]
        · rw[if_pos h2]at HO hR
          unfold takF at HO
          rw[hR]at T2
          simp only[vW,seval,d1,cmV,tyV,k,hl2]
          (with_reducible apply v_call);simp only[vW,seval,cmV];rfl;rfl;exact HO;exact km;simp only[vW,seval,cmV];rfl
          simp only[vW,seval,cmV,tyV]
          unfold tyB B at T2
          (with_reducible apply z22);simp only[vW,seval,cmV,tyV];rfl;exact T2;rfl;simp only[vW,seval,cmV,tyV];rfl
          simp only[vW,seval,cmV,tyV]
        · rw[if_neg h2]at HO hR
          have hR:((⟨1,0⟩:Ty),alikeT p q)=R:=hR
          rw[hR]at T3
          simp only[vW,seval,d1,cmV,tyV,k,hl2]
          (with_reducible apply v_call);simp only[vW,seval,cmV];rfl;rfl;exact HO;exact km;simp only[vW,seval,cmV];rfl
          simp only[vW,seval,cmV,tyV]
          unfold tyB B at T3
          (with_reducible apply z22);simp only[vW,seval,cmV,tyV];rfl;exact T3;rfl;simp only[vW,seval,cmV,tyV];rfl
          simp only[vW,seval,cmV,tyV]
    · rw[if_neg (by omega),if_neg (by omega),if_neg (by omega),if_pos k]at hR
      obtain⟨_,hb,a,hab⟩:=node5 hn k
      have hl1:e.l.length=1:=by rw[hab];rfl
      obtain⟨p,rfl⟩:∃p,L=[p]:=by
        match L,hL.trans hl1 with
        |[p],_=>exact⟨p,rfl⟩
      have HO:=evTakes_ok g 1 [1]
      have T1:=takes1_ok g 1 [1] [p] rfl (by simp)
      unfold takF at HO
      rw[hR]at T1
      simp only[vW,seval,d1,cmV,tyV,k,hl1]
      (with_reducible apply v_call);simp only[vW,seval,cmV,in1];rfl;rfl;exact HO;exact km;simp only[vW,seval,cmV,in1];rfl
      simp only[vW,seval,cmV,tyV]
      unfold tyB B at T1
      (with_reducible apply z22);simp only[vW,seval,cmV,tyV];rfl;exact T1;rfl;simp only[vW,seval,cmV,tyV];rfl
      simp only[vW,seval,cmV,tyV]
    · rw[if_neg (by omega),if_neg (by omega),if_neg (by omega),if_neg (by omega),if_pos k]at hR
      obtain⟨_,hb,hlk⟩:=node6 hn k
      obtain⟨y,hy,hlkp⟩:=cm_lk hb
      generalize hs':e.s=s' at hb hy hlkp hlk hR
      rcases z151 hb with rfl|rfl|rfl|rfl|rfl|rfl|rfl|rfl|rfl|rfl
      · have hl1 : e.l.length = 1 := by have : takesV nLen = 1 := by decide
                                        omega
        obtain⟨p,rfl⟩:∃p,L=[p]:=by
          match L,hL.trans hl1 with
          |[p],_=>exact⟨p,rfl⟩
        obtain rfl:clE (takF 1 [2]) (fnP 137)=y:=Option.some.inj hy
        have T1:=takes1_ok g 1 [2] [p] rfl (by simp)
        rw[show takeT 1 [2] [p]=R from hR]at T1
        unfold clE takF fnP at hlkp
        unfold tyB B at T1
        simp only[vW,seval,d1,cmV,tyV,k,hl1,hs',hlkp]
        (with_reducible apply z22);simp only[vW,seval,cmV,tyV];rfl;exact T1;rfl;simp only[vW,seval,cmV,tyV];rfl
        simp only[vW,seval,cmV,tyV]
      · have hl1 : e.l.length = 1 := by have : takesV nText = 1 := by decide
                                        omega
        obtain⟨p,rfl⟩:∃p,L=[p]:=by
          match L,hL.trans hl1 with
          |[p],_=>exact⟨p,rfl⟩
        obtain rfl:clE (takF 2 [1]) (fnP 147)=y:=Option.some.inj hy
        have T1:=takes1_ok g 2 [1] [p] rfl (by simp)
        rw[show takeT 2 [1] [p]=R from hR]at T1
        unfold clE takF fnP at hlkp
        unfold tyB B at T1
        simp only[vW,seval,d1,cmV,tyV,k,hl1,hs',hlkp]
        (with_reducible apply z22);simp only[vW,seval,cmV,tyV];rfl;exact T1;rfl;simp only[vW,seval,cmV,tyV];rfl
        simp only[vW,seval,cmV,tyV]
      · have hl1 : e.l.length = 1 := by have : takesV nNum = 1 := by decide
                                        omega
        obtain⟨p,rfl⟩:∃p,L=[p]:=by
          match L,hL.trans hl1 with
          |[p],_=>exact⟨p,rfl⟩
        obtain rfl:clE (takF 1 [2]) (fnP 148)=y:=Option.some.inj hy
        have T1:=takes1_ok g 1 [2] [p] rfl (by simp)
        rw[show takeT 1 [2] [p]=R from hR]at T1
        unfold clE takF fnP at hlkp
        unfold tyB B at T1
        simp only[vW,seval,d1,cmV,tyV,k,hl1,hs',hlkp]
        (with_reducible apply z22);simp only[vW,seval,cmV,tyV];rfl;exact T1;rfl;simp only[vW,seval,cmV,tyV];rfl
        simp only[vW,seval,cmV,tyV]
      · have hl1 : e.l.length = 2 := by have : takesV nLeft = 2 := by decide
                                        omega
        obtain⟨p,q,rfl⟩:∃p q,L=[p,q]:=by
          match L,hL.trans hl1 with
          |[p,q],_=>exact⟨p,q,rfl⟩
        obtain rfl:clE (takF 2 [2,1]) (fnP 140)=y:=Option.some.inj hy
        have T1:=takes1_ok g 2 [2,1] [p,q] rfl (by simp)
        rw[show takeT 2 [2,1] [p,q]=R from hR]at T1
        unfold clE takF fnP at hlkp
        unfold tyB B at T1
        simp only[vW,seval,d1,cmV,tyV,k,hl1,hs',hlkp]
        (with_reducible apply z22);simp only[vW,seval,cmV,tyV];rfl;exact T1;rfl;simp only[vW,seval,cmV,tyV];rfl
        simp only[vW,seval,cmV,tyV]
      · have hl1 : e.l.length = 2 := by have : takesV nRight = 2 := by decide
                                        omega
        obtain⟨p,q,rfl⟩:∃p q,L=[p,q]:=by
          match L,hL.trans hl1 with
          |[p,q],_=>exact⟨p,q,rfl⟩
        obtain rfl:clE (takF 2 [2,1]) (fnP 143)=y:=Option.some.inj hy
        have T1:=takes1_ok g 2 [2,1] [p,q] rfl (by simp)
        rw[show takeT 2 [2,1] [p,q]=R from hR]at T1
        unfold clE takF fnP at hlkp
        unfold tyB B at T1
        simp only[vW,seval,d1,cmV,tyV,k,hl1,hs',hlkp]
        (with_reducible apply z22);simp only[vW,seval,cmV,tyV];rfl;exact T1;rfl;simp only[vW,seval,cmV,tyV];rfl
        simp only[vW,seval,cmV,tyV]
      · have hl1 : e.l.length = 2 := by have : takesV nFrom = 2 := by decide
                                        omega
        obtain⟨p,q,rfl⟩:∃p q,L=[p,q]:=by
          match L,hL.trans hl1 with
          |[p,q],_=>exact⟨p,q,rfl⟩
        obtain rfl:clE (takF 2 [2,1]) (fnP 144)=y:=Option.some.inj hy
        have T1:=takes1_ok g 2 [2,1] [p,q] rfl (by simp)
        rw[show takeT 2 [2,1] [p,q]=R from hR]at T1
        unfold clE takF fnP at hlkp
        unfold tyB B at T1
        simp only[vW,seval,d1,cmV,tyV,k,hl1,hs',hlkp]
        (with_reducible apply z22);simp only[vW,seval,cmV,tyV];rfl;exact T1;rfl;simp only[vW,seval,cmV,tyV];rfl
        simp only[vW,seval,cmV,tyV]
      · have hl1 : e.l.length = 2 := by have : takesV nFind = 2 := by decide
                                        omega
        obtain⟨p,q,rfl⟩:∃p q,L=[p,q]:=by
          match L,hL.trans hl1 with
          |[p,q],_=>exact⟨p,q,rfl⟩
        obtain rfl:clE (takF 1 [2,2]) (fnP 145)=y:=Option.some.inj hy
        have T1:=takes1_ok g 1 [2,2] [p,q] rfl (by simp)
        rw[show takeT 1 [2,2] [p,q]=R from hR]at T1
        unfold clE takF fnP at hlkp
        unfold tyB B at T1
        simp only[vW,seval,d1,cmV,tyV,k,hl1,hs',hlkp]
        (with_reducible apply z22);simp only[vW,seval,cmV,tyV];rfl;exact T1;rfl;simp only[vW,seval,cmV,tyV];rfl
        simp only[vW,seval,cmV,tyV]
      · have hl1 : e.l.length = 2 := by have : takesV nMin = 2 := by decide
                                        omega
        obtain⟨p,q,rfl⟩:∃p q,L=[p,q]:=by
          match L,hL.trans hl1 with
          |[p,q],_=>exact⟨p,q,rfl⟩
        obtain rfl:clE (takF 1 [1,1]) (fnP 152)=y:=Option.some.inj hy
        have T1:=takes1_ok g 1 [1,1] [p,q] rfl (by simp)
        rw[show takeT 1 [1,1] [p,q]=R from hR]at T1
        unfold clE takF fnP at hlkp
        unfold tyB B at T1
        simp only[vW,seval,d1,cmV,tyV,k,hl1,hs',hlkp]
        (with_reducible apply z22);simp only[vW,seval,cmV,tyV];rfl;exact T1;rfl;simp only[vW,seval,cmV,tyV];rfl
        simp only[vW,seval,cmV,tyV]
      · have hl1 : e.l.length = 2 := by have : takesV nMax = 2 := by decide
                                        omega
        obtain⟨p,q,rfl⟩:∃p q,L=[p,q]:=by
          match L,hL.trans hl1 with
          |[p,q],_=>exact⟨p,q,rfl⟩
        obtain rfl:clE (takF 1 [1,1]) (fnP 153)=y:=Option.some.inj hy
        have T1:=takes1_ok g 1 [1,1] [p,q] rfl (by simp)
        rw[show takeT 1 [1,1] [p,q]=R from hR]at T1
        unfold clE takF fnP at hlkp
        unfold tyB B at T1
        simp only[vW,seval,d1,cmV,tyV,k,hl1,hs',hlkp]
        (with_reducible apply z22);simp only[vW,seval,cmV,tyV];rfl;exact T1;rfl;simp only[vW,seval,cmV,tyV];rfl
        simp only[vW,seval,cmV,tyV]
      · have hl1 : e.l.length = 3 := by have : takesV nIf = 3 := by decide
                                        omega
        obtain⟨p,q,r,rfl⟩:∃p q r,L=[p,q,r]:=by
          match L,hL.trans hl1 with
          |[p,q,r],_=>exact⟨p,q,r,rfl⟩
        obtain rfl:clE (fnP 150) (fnP 151)=y:=Option.some.inj hy
        have T1:=choice_ok g p q r
        rw[show chooseT [p,q,r]=R from hR]at T1
        unfold clE fnP at hlkp
        unfold tyB B at T1
        simp only[vW,seval,d1,cmV,tyV,k,hl1,hs',hlkp]
        (with_reducible apply z22);simp only[vW,seval,cmV,tyV];rfl;exact T1;rfl;simp only[vW,seval,cmV,tyV];rfl
        simp only[vW,seval,cmV,tyV]
theorem typeOf_ok(g:Sh.Glob)(c:Cls)(vs:PV)(hc:c.fs.length≤4611686018427387904):∀d,TypeOk g c vs d
 |0=>fun e he=>by simp[okE]at he
 |d+1=>type_step g c vs hc d (typeOf_ok g c vs hc d)
theorem vC_set(L:List V)(k:Nat)(t:V)(h:k<L.length):List.take (k*4) (vC L)++[TV.pv (.v (.int .i64 t.k)),TV.pv (.v (.int .i64 t.n)),TV.pv (.v (.string (str t.s))),TV.pv (.sl 4 (V.rows t.l))]++List.drop (k*4+4) (vC L)=vC (L.set k t):=by
 induction L generalizing k with
 |nil=>simp at h
 |cons p L ih=>
  cases k with
  |zero=>rw[List.set_cons_zero,z44,z44];rfl
  |succ k=>
   have:=ih k (by simpa using h);rw[List.set_cons_succ,z44,z44,←this,show(k+1)*4=k*4+4 by omega];rfl
def zero4:List TV:=[TV.pv (.v (.int .i64 0)),TV.pv (.v (.int .i64 0)),TV.pv (.v (.string ⟨#[]⟩)),TV.pv (.v (.slice none 0 0))]
theorem zero_wk:∀(n j:Nat) (c d:TV),(List.replicate n zero4).flatten[j]?=some c→(vC (List.replicate n V.nil))[j]?=some d→Wk c d
 |0,j,c,d,h,_=>by simp at h
 |n+1,j,c,d,h,h'=>by
  rw[List.replicate_succ,List.flatten_cons]at h;rw[List.replicate_succ,z44]at h'
  match j with
  |0=>cases h;cases h';exact .refl _
  |1=>cases h;cases h';exact .refl _
  |2=>cases h;cases h';exact .refl _
  |3=>cases h;cases h';exact wk_nil 4
  |j+4=>exact zero_wk n j c d (by simpa [zero4]using h) (by simpa using h')
theorem zero_fg(n:Nat):List.map (fgt3 []) (List.replicate n [TV.pv (.v (.int .i64 0)),TV.pv (.v (.int .i64 0)),TV.pv (.v (.string ⟨#[]⟩)),TV.pv (.v (.slice none 0 0))]).flatten=(List.replicate n zero4).flatten:=by
 induction n with
 |zero=>rfl
 |succ n ih=>rw[List.replicate_succ,List.flatten_cons,List.map_append,ih];rfl
theorem zero_len(n:Nat):(List.replicate n zero4).flatten.length=(vC (List.replicate n V.nil)).length:=by
 rw[vC_len,List.length_replicate]
 induction n with
 |zero=>rfl
 |succ n ih=>rw[List.replicate_succ,List.flatten_cons,List.length_append,ih];simp[zero4];omega
def ansE(e R:V):TV:=if e.k=3∨(e.k=6∧e.s=nIf)then tv R else nv R
structure ValsOk(c:Cls)(vals:List V):Prop where
 cl:c.fs.length≤4611686018427387904
 fit:FitAll c.fs vals
 few:∀v∈vals,VFew v
def WorthOk(m:Nat)(c:Cls)(vals:List V)(d:Nat):Prop:=∀e,okE d e=true→ESmall e→(typeV c.fs d e).2=true→SCalls Tryz.prog (glE m) 80 [.ptr 1000 0,tv e] [.box (scp c (.sl 4 (V.rows vals)))] (tv (worthV c.fs vals d e)) [.box (scp c (.sl 4 (V.rows vals)))]
theorem kid_typed{t:V→Ty×Bool}{l:List V}{ps:List Ty}(h:kidsT t l=some ps){x:V}(hx:x∈l):(t x).2=true:=by
 obtain⟨i,hi⟩:=List.getElem?_of_mem hx;exact((kidsT_at h).2 i x hi).1
theorem right60{s:List UInt8}(h:z15 s=true):z93 s:=by
 unfold z15 at h;simp at h;exact h.1
theorem fits60{v:V}{t:Ty}(h:fitsV v t=true)(hk:t.k=2):z93 v.s:=by
 have:=(text_of h hk).2.2.2;unfold z15 at this;simp at this;exact this.1
theorem fitsRg{v:V}{t:Ty}(h:fitsV v t=true)(hk:t.k=1):RgN v.n:=⟨(num_of h hk).2.1,(num_of h hk).2.2.1⟩
theorem fits_small{v:V}{t:Ty}(h:fitsV v t=true)(hk:t.k=1∨t.k=2):VSmall v:=by
 rcases hk with hk|hk
 ·exact(few0 (num_of h hk).2.2.2.2).small
 ·exact(few0 (text_of h hk).2.2.1).small
theorem take_one{k a:Int}{t:Ty}(h:(takeT k [a] [t]).2=true):t.k=a:=by
 unfold takeT at h;split at h
 ·rename_i h1;simpa [takeG]using h1
 ·cases h
theorem z113{k a b:Int}{t u:Ty}(h:(takeT k [a,b] [t,u]).2=true):t.k=a∧u.k=b:=by
 unfold takeT at h;split at h
 ·rename_i h1;simpa [takeG]using h1
 ·cases h
theorem drop_worth{l:List V}{i:Nat}{y:V}{f:V→V}(h:l[i]?=some y):(l.take (i+1)).map f=(l.take i).map f++[f y]:=by rw[List.take_add_one,h];simp
theorem worth_step(m:Nat)(c:Cls)(vals:List V)(hv:ValsOk c vals)(d:Nat)(IH:WorthOk m c vals d)(e:V)(he:okE (d+1) e=true)(hs:ESmall e)(ht:(typeV c.fs (d+1) e).2=true):
    SCalls Tryz.prog (glE m) 80 [.ptr 1000 0,tv e] [.box (scp c (.sl 4 (V.rows vals)))] (ansE e (worthV c.fs vals (d+1) e)) [.box (scp c (.sl 4 (V.rows vals)))]:=by
  obtain⟨hn,hk⟩:=ok_kids he
  have hl3:e.l.length≤3:=by
    rcases z156 hn with k|k|k|k|k|k
    · rw[(node1 hn k).2.2.2];simp
    · rw[(node2 hn k).2.2];simp
    · rw[(node3 hn k).2.2];simp
    · obtain⟨_,_,a,b,h⟩:=node4 hn k;rw[h];simp
    · obtain⟨_,_,a,h⟩:=node5 hn k;rw[h];simp
    · have h1:=(node6 hn k).2.2
      have h2:=takes_3 e.s
      omega
  have ht':=ht
  unfold typeV at ht'
  obtain⟨ps,hps⟩:∃ps,kidsT (typeV c.fs d) e.l=some ps:=by
    cases h:kidsT (typeV c.fs d) e.l with
    |none=>rw[h]at ht';cases ht'
    |some ps=>exact⟨ps,rfl⟩
  rw[hps]at ht'
  simp only at ht'
  obtain⟨hpl,hpa⟩:=kidsT_at hps
  have hKid:∀y∈e.l,SCalls Tryz.prog (glE m) 80 [.ptr 1000 0,tv y] [.box (scp c (.sl 4 (V.rows vals)))] (tv (worthV c.fs vals d y)) [.box (scp c (.sl 4 (V.rows vals)))]:=fun y hy=>IH y (hk y hy) (hs.sub hy) (kid_typed hps hy)
  have hPF:PartsFit (e.l.map (worthV c.fs vals d)) ps:=⟨by rw[List.length_map,hpl],fun i w t hw ht=>by
    rw[List.getElem?_map]at hw
    obtain⟨x,hx,rfl⟩:=gO hw
    obtain⟨q1,q2⟩:=hpa i x hx
    rw[ht]at q2
    have:=Option.some.inj q2
    exact fits_worth hv.fit d x t (hk x (gM hx)) (by rw[this,←q1])⟩
  obtain⟨Y,hY⟩:∃Y,ansE e (worthV c.fs vals (d+1) e)=Y:=⟨_,rfl⟩
  rw[hY]
  unfold worthV at hY
  unfold scp at*
  refine z17 hmix tf_21 rfl rfl rfl ?_
  simp only[vW,seval,cmV,vcC]
  refine⟨⟨by omega,by unfold maxLen;omega⟩,?_⟩
  refine v_loop (σ:={p:Nat×List V // p.1≤e.l.length∧p.2.length=e.l.length∧(e.l.take p.1).map (worthV c.fs vals d)=p.2.take p.1})
    (fun p=>⟨[(0,.ptr 1000 0),(3,.ptr 3 0),(4,.ptr 4 0),(5,.bs 13 0 e.l.length e.l.length),(15,.pv (.sl 4 (V.rows e.l))),(16,I (e.l.length:Int)),(17,I (p.1.1:Int))],
      [(1000,[S (str c.n),.pv (.sl 4 (flR c.fs)),.pv (.sl 4 (V.rows vals)),callM]),(3,[I e.k,I e.n,S (str e.s),.pv (.sl 4 (V.rows e.l))]),(4,[I 0,I 0,S ⟨#[]⟩,.pv (.v (.slice none 0 0))]),(13,vC p.1.2)],[],[]⟩) (fun p=>e.l.length-p.1.1)
    ⟨(0,List.replicate e.l.length V.nil),Nat.zero_le _,by simp,by simp⟩ ?_ ?_
  · refine ES.Lw.trans ?_ (reB_lw (k:=13) (ds:=vC (List.replicate e.l.length V.nil)) rfl (by rw[zero_fg];exact zero_len _) (by rw[zero_fg];exact zero_wk _))
    apply lw_of<;>simp[leL,lk,sv,Nat.beq,I,S,ES.kill,has,drp,nilT]
  rintro⟨⟨i,L⟩,hi,hL,hT⟩
  simp only at hi hL hT
  by_cases hlt:i<e.l.length
  · have d1:(i:Int)<(e.l.length:Int):=by omega
    obtain⟨y,ey⟩:∃y,e.l[i]?=some y:=⟨_,gE hlt⟩
    have hmem:=gM ey
    have HF:=hKid y hmem
    have w1:IntKind.i64.wrap ((i:Int)+1)=((i+1:Nat):Int):=by rw[wrap64 (by omega) (by omega)];omega
    have hset:=vC_set L i (worthV c.fs vals d y) (by omega)
    have hsn:(e.l.take (i+1)).map (worthV c.fs vals d)=(L.set i (worthV c.fs vals d y)).take (i+1):=by rw[drop_worth ey,hT,set_take L i _ (by omega)]
    simp only[vW,seval,d1,ey,cmV,vcC]
    (with_reducible apply v_call);simp only[vW,seval,cmV,vcC];rfl;rfl;exact HF;exact km;simp only[vW,seval,cmV,vcC];rfl
    simp only[vW,seval,cmV,vcC,w1,hset]
    refine⟨by omega,by omega,z10 ⟨(i+1,L.set i (worthV c.fs vals d y)),hlt,by simp[hL],hsn⟩ (by show e.l.length-(i+1)<e.l.length-i;omega) ?_⟩
    apply lw_of<;>simp[leL,lk,sv,Nat.beq,I,S,ES.kill,has,drp,nilT]
  · have d1:¬(i:Int)<(e.l.length:Int):=by omega
    obtain rfl:i=e.l.length:=by omega
    rw[List.take_length,←hL,List.take_length]at hT
    rw[hT]at hY hPF
    have hL3:L.length≤3:=by omega
    unfold nodeW at hY
    unfold nodeT at ht'
    unfold ansE at hY
    rcases z156 hn with k|k|k|k|k|k
    · rw[if_neg (by omega),if_neg (by omega),if_neg (by omega),if_neg (by omega),if_neg (by omega),if_neg (by omega)]at hY
      have HN:=number_ok (glE m) e.n
      subst hY
      generalize numE e.n=r at*
      unfold nv at*
      simp only[vW,seval,d1,cmV,vcC,k]
      (with_reducible apply v_call);simp only[vW,seval,cmV,vcC];rfl;rfl;exact HN;exact km;simp only[vW,seval,cmV,vcC];rfl
      simp only[vW,seval,cmV,vcC]
    · rw[if_neg (by omega),if_pos k]at hY
      have HN:=text_ok6 (glE m) e.s (by have:=right60 (node2 hn k).2.1;unfold z93 at this;omega)
      subst hY
      generalize textE e.s=r at*
      unfold nv at*
      simp only[vW,seval,d1,cmV,vcC,k]
      (with_reducible apply v_call);simp only[vW,seval,cmV,vcC];rfl;rfl;exact HN;exact km;simp only[vW,seval,cmV,vcC];rfl
      simp only[vW,seval,cmV,vcC]
    · rw[if_pos (Or.inl k),if_neg (by omega),if_pos k]at hY
      rw[if_neg (by omega),if_pos k]at ht'
      have hf:¬fieldAt c.fs e.s<0:=fun h=>by rw[if_pos h]at ht';cases ht'
      have HA:=field_ok (glE m) c e.s hv.cl
      unfold fieldT clT B at HA
      rw[if_neg hf]at HA
      obtain⟨f,v,h1,h2,h3,_⟩:=field_at hv.fit hf
      obtain⟨q,hq⟩:∃q:Nat,fieldAt c.fs e.s=q:=⟨(fieldAt c.fs e.s).toNat,by omega⟩
      rw[hq]at HA hY h2
      rw[Int.toNat_natCast]at hY h2
      rw[getD_at h2]at hY
      have HF:=fresh_ok (glE m) v (hv.few v (gM h2))
      subst hY
      unfold tv at*
      simp only[vW,seval,d1,cmV,vcC,k]
      (with_reducible apply v_call);simp only[vW,seval,cmV,vcC];rfl;rfl;exact HA;exact km;simp only[vW,seval,cmV,vcC];rfl
      simp only[vW,seval,cmV,vcC,h2]
      (with_reducible apply v_call);simp only[vW,seval,cmV,vcC];rfl;rfl;exact HF;exact km;simp only[vW,seval,cmV,vcC];rfl
      simp only[vW,seval,cmV,vcC]
    · rw[if_neg (by omega),if_neg (by omega),if_neg (by omega),if_pos k]at hY
      rw[if_neg (by omega),if_neg (by omega),if_pos k]at ht'
      obtain⟨_,hb,a,b,hab⟩:=node4 hn k
      have hlen:L.length=2:=by rw[hL,hab];rfl
      have hl2:e.l.length=2:=by rw[hab];rfl
      obtain⟨p,q,rfl⟩:∃p q,L=[p,q]:=by
        match L,hlen with
        |[p,q],_=>exact⟨p,q,rfl⟩
      obtain⟨t,u,rfl⟩:∃t u,ps=[t,u]:=by
        match ps,hpl.trans hl2 with
        |[t,u],_=>exact⟨t,u,rfl⟩
      have fp:fitsV p t=true:=hPF.2 0 p t rfl rfl
      have fq:fitsV q u=true:=hPF.2 1 q u rfl rfl
      have HO:SCalls Tryz.prog (glE m) 155 [S (str e.s),tv p,tv q] [] (nv (opV e.s p q)) []:=by
        unfold operT at ht'
        by_cases h1:e.s=[43]∨e.s=[45]∨e.s=[42]∨e.s=[47]∨e.s=[37]
        · rw[if_pos h1]at ht'
          obtain⟨k0,k1⟩:=z113 ht'
          exact operN_ok (glE m) e.s (fitsRg fp k0) (fitsRg fq k1) (by rcases h1 with h|h|h|h|h<;>simp[h])
        · rw[if_neg h1]at ht'
          by_cases h2:e.s=[38]
          · rw[if_pos h2]at ht'
            obtain⟨k0,k1⟩:=z113 ht'
            rw[h2]
            exact operC_ok (glE m) (fits60 fp k0) (fits60 fq k1)
          · rw[if_neg h2]at ht'
            exact operB_ok (glE m) e.s (fits_small fp (alike_inv (show alikeT t u=true from ht')).2) (by rcases binds_cases hb with h|h|h|h|h|h|h|h|h|h|h|h<;>simp[h]at h1 h2 ⊢)
      simp only[List.getD_cons_zero,List.getD_cons_succ]at hY
      subst hY
      generalize opV e.s p q=r at*
      unfold nv tv at*
      simp only[vW,seval,d1,cmV,vcC,k,hl2,z44,vC_nil]
      (with_reducible apply v_call);simp only[vW,seval,cmV,vcC];rfl;rfl;exact HO;exact km;simp only[vW,seval,cmV,vcC];rfl
      simp only[vW,seval,cmV,vcC]
    · rw[if_neg (by omega),if_neg (by omega),if_neg (by omega),if_neg (by omega),if_pos k]at hY
      rw[if_neg (by omega),if_neg (by omega),if_neg (by omega),if_pos k]at ht'
      obtain⟨_,hb,a,hab⟩:=node5 hn k
      have hl1:e.l.length=1:=by rw[hab];rfl
      obtain⟨p,rfl⟩:∃p,L=[p]:=by
        match L,hL.trans hl1 with
        |[p],_=>exact⟨p,rfl⟩
      obtain⟨t,rfl⟩:∃t,ps=[t]:=by
        match ps,hpl.trans hl1 with
        |[t],_=>exact⟨t,rfl⟩
      have fp:fitsV p t=true:=hPF.2 0 p t rfl rfl
      have rg:=fitsRg fp (take_one ht')
      unfold RgN at rg
      have w1:IntKind.i64.wrap (0-p.n)= -p.n:=by rw[wrap64 (by omega) (by omega)];omega
      have HN:=number_ok (glE m) (-p.n)
      simp only[List.getD_cons_zero]at hY
      subst hY
      generalize numE (-p.n)=r at*
      unfold nv at*
      simp only[vW,seval,d1,cmV,vcC,k,hl1,z44,vC_nil,w1]
      (with_reducible apply v_call);simp only[vW,seval,cmV,vcC];rfl;rfl;exact HN;exact km;simp only[vW,seval,cmV,vcC];rfl
      simp only[vW,seval,cmV,vcC]
    · simp only[if_neg (show ¬e.k=2 by omega),if_neg (show ¬e.k=3 by omega),if_neg (show ¬e.k=4 by omega),if_neg (show ¬e.k=5 by omega),if_pos k]at hY
      rw[if_neg (by omega),if_neg (by omega),if_neg (by omega),if_neg (by omega),if_pos k]at ht'
      obtain⟨_,hb,hlen⟩:=node6 hn k
      obtain⟨ym,hy,hlkp⟩:=cm_lk hb
      rcases z151 hb with hs'|hs'|hs'|hs'|hs'|hs'|hs'|hs'|hs'|hs'<;>rw[hs']at hY ht' hlen hy hlkp
      · have hl1 : e.l.length = 1 := by have : takesV nLen = 1 := by decide
                                        omega
        obtain⟨x,rfl⟩:∃x,L=[x]:=by
          match L,hL.trans hl1 with
          |[x],_=>exact⟨x,rfl⟩
        obtain⟨t0,rfl⟩:∃t0,ps=[t0]:=by
          match ps,hpl.trans hl1 with
          |[t0],_=>exact⟨t0,rfl⟩
        obtain rfl:clE (takF 1 [2]) (fnP 137)=ym:=Option.some.inj hy
        have ht':(takeT 1 [2] [t0]).2=true:=ht'
        have f0:fitsV x t0=true:=hPF.2 0 x t0 rfl rfl
        have k0:=take_one ht'
        have T1:SCalls Tryz.prog (glE m) 137 [.bs 1000 0 1 1] [.box (vC [x])] (nv (callV nLen [x])) [.box (vC [x])]:=call1_ok (glE m) (fits60 f0 k0)
        rw[if_neg (fun h=>h.elim (fun h=>by omega) fun h=>absurd h.2 (by decide))]at hY
        subst hY
        generalize callV nLen [x]=r at*
        unfold clE fnP takF at hlkp
        unfold nv at*
        simp only[vW,seval,d1,cmV,vcC,k,hl1,hs',hlkp]
        (with_reducible apply z22);simp only[vW,seval,cmV,vcC];rfl;exact T1;rfl;simp only[vW,seval,cmV,vcC];rfl
        simp only[vW,seval,cmV,vcC]
      · have hl1 : e.l.length = 1 := by have : takesV nText = 1 := by decide
                                        omega
        obtain⟨x,rfl⟩:∃x,L=[x]:=by
          match L,hL.trans hl1 with
          |[x],_=>exact⟨x,rfl⟩
        obtain⟨t0,rfl⟩:∃t0,ps=[t0]:=by
          match ps,hpl.trans hl1 with
          |[t0],_=>exact⟨t0,rfl⟩
        obtain rfl:clE (takF 2 [1]) (fnP 147)=ym:=Option.some.inj hy
        have ht':(takeT 2 [1] [t0]).2=true:=ht'
        have f0:fitsV x t0=true:=hPF.2 0 x t0 rfl rfl
        have k0:=take_one ht'
        have T1:SCalls Tryz.prog (glE m) 147 [.bs 1000 0 1 1] [.box (vC [x])] (nv (callV nText [x])) [.box (vC [x])]:=sc_TE (call6_ok m (fitsRg f0 k0))
        rw[if_neg (fun h=>h.elim (fun h=>by omega) fun h=>absurd h.2 (by decide))]at hY
        subst hY
        generalize callV nText [x]=r at*
        unfold clE fnP takF at hlkp
        unfold nv at*
        simp only[vW,seval,d1,cmV,vcC,k,hl1,hs',hlkp]
        (with_reducible apply z22);simp only[vW,seval,cmV,vcC];rfl;exact T1;rfl;simp only[vW,seval,cmV,vcC];rfl
        simp only[vW,seval,cmV,vcC]
      · have hl1 : e.l.length = 1 := by have : takesV nNum = 1 := by decide
                                        omega
        obtain⟨x,rfl⟩:∃x,L=[x]:=by
          match L,hL.trans hl1 with
          |[x],_=>exact⟨x,rfl⟩
        obtain⟨t0,rfl⟩:∃t0,ps=[t0]:=by
          match ps,hpl.trans hl1 with
          |[t0],_=>exact⟨t0,rfl⟩
        obtain rfl:clE (takF 1 [2]) (fnP 148)=ym:=Option.some.inj hy
        have ht':(takeT 1 [2] [t0]).2=true:=ht'
        have f0:fitsV x t0=true:=hPF.2 0 x t0 rfl rfl
        have k0:=take_one ht'
        have T1:SCalls Tryz.prog (glE m) 148 [.bs 1000 0 1 1] [.box (vC [x])] (nv (callV nNum [x])) [.box (vC [x])]:=call7_ok m (fits60 f0 k0)
        rw[if_neg (fun h=>h.elim (fun h=>by omega) fun h=>absurd h.2 (by decide))]at hY
        subst hY
        generalize callV nNum [x]=r at*
        unfold clE fnP takF at hlkp
        unfold nv at*
        simp only[vW,seval,d1,cmV,vcC,k,hl1,hs',hlkp]
        (with_reducible apply z22);simp only[vW,seval,cmV,vcC];rfl;exact T1;rfl;simp only[vW,seval,cmV,vcC];rfl
        simp only[vW,seval,cmV,vcC]
      · have hl1 : e.l.length = 2 := by have : takesV nLeft = 2 := by decide
                                        omega
        obtain⟨x,y,rfl⟩:∃x y,L=[x,y]:=by
          match L,hL.trans hl1 with
          |[x,y],_=>exact⟨x,y,rfl⟩
        obtain⟨t0,t1,rfl⟩:∃t0 t1,ps=[t0,t1]:=by
          match ps,hpl.trans hl1 with
          |[t0,t1],_=>exact⟨t0,t1,rfl⟩
        obtain rfl:clE (takF 2 [2,1]) (fnP 140)=ym:=Option.some.inj hy
        have ht':(takeT 2 [2,1] [t0,t1]).2=true:=ht'
        have f0:fitsV x t0=true:=hPF.2 0 x t0 rfl rfl
        have f1:fitsV y t1=true:=hPF.2 1 y t1 rfl rfl
        obtain⟨k0,k1⟩:=z113 ht'
        have T1:SCalls Tryz.prog (glE m) 140 [.bs 1000 0 2 2] [.box (vC [x,y])] (nv (callV nLeft [x,y])) [.box (vC [x,y])]:=call2_ok (glE m) (fits60 f0 k0)
        rw[if_neg (fun h=>h.elim (fun h=>by omega) fun h=>absurd h.2 (by decide))]at hY
        subst hY
        generalize callV nLeft [x,y]=r at*
        unfold clE fnP takF at hlkp
        unfold nv at*
        simp only[vW,seval,d1,cmV,vcC,k,hl1,hs',hlkp]
        (with_reducible apply z22);simp only[vW,seval,cmV,vcC];rfl;exact T1;rfl;simp only[vW,seval,cmV,vcC];rfl
        simp only[vW,seval,cmV,vcC]
      · have hl1 : e.l.length = 2 := by have : takesV nRight = 2 := by decide
                                        omega
        obtain⟨x,y,rfl⟩:∃x y,L=[x,y]:=by
          match L,hL.trans hl1 with
          |[x,y],_=>exact⟨x,y,rfl⟩
        obtain⟨t0,t1,rfl⟩:∃t0 t1,ps=[t0,t1]:=by
          match ps,hpl.trans hl1 with
          |[t0,t1],_=>exact⟨t0,t1,rfl⟩
        obtain rfl:clE (takF 2 [2,1]) (fnP 143)=ym:=Option.some.inj hy
        have ht':(takeT 2 [2,1] [t0,t1]).2=true:=ht'
        have f0:fitsV x t0=true:=hPF.2 0 x t0 rfl rfl
        have f1:fitsV y t1=true:=hPF.2 1 y t1 rfl rfl
        obtain⟨k0,k1⟩:=z113 ht'
        have T1:SCalls Tryz.prog (glE m) 143 [.bs 1000 0 2 2] [.box (vC [x,y])] (nv (callV nRight [x,y])) [.box (vC [x,y])]:=call3_ok (glE m) (fits60 f0 k0) (fitsRg f1 k1)
        rw[if_neg (fun h=>h.elim (fun h=>by omega) fun h=>absurd h.2 (by decide))]at hY
        subst hY
        generalize callV nRight [x,y]=r at*
        unfold clE fnP takF at hlkp
        unfold nv at*
        simp only[vW,seval,d1,cmV,vcC,k,hl1,hs',hlkp]
        (with_reducible apply z22);simp only[vW,seval,cmV,vcC];rfl;exact T1;rfl;simp only[vW,seval,cmV,vcC];rfl
        simp only[vW,seval,cmV,vcC]
      · have hl1 : e.l.length = 2 := by have : takesV nFrom = 2 := by decide
                                        omega
        obtain⟨x,y,rfl⟩:∃x y,L=[x,y]:=by
          match L,hL.trans hl1 with
          |[x,y],_=>exact⟨x,y,rfl⟩
        obtain⟨t0,t1,rfl⟩:∃t0 t1,ps=[t0,t1]:=by
          match ps,hpl.trans hl1 with
          |[t0,t1],_=>exact⟨t0,t1,rfl⟩
        obtain rfl:clE (takF 2 [2,1]) (fnP 144)=ym:=Option.some.inj hy
        have ht':(takeT 2 [2,1] [t0,t1]).2=true:=ht'
        have f0:fitsV x t0=true:=hPF.2 0 x t0 rfl rfl
        have f1:fitsV y t1=true:=hPF.2 1 y t1 rfl rfl
        obtain⟨k0,k1⟩:=z113 ht'
        have T1:SCalls Tryz.prog (glE m) 144 [.bs 1000 0 2 2] [.box (vC [x,y])] (nv (callV nFrom [x,y])) [.box (vC [x,y])]:=call4_ok (glE m) (fits60 f0 k0)
        rw[if_neg (fun h=>h.elim (fun h=>by omega) fun h=>absurd h.2 (by decide))]at hY
        subst hY
        generalize callV nFrom [x,y]=r at*
        unfold clE fnP takF at hlkp
        unfold nv at*
        simp only[vW,seval,d1,cmV,vcC,k,hl1,hs',hlkp]
        (with_reducible apply z22);simp only[vW,seval,cmV,vcC];rfl;exact T1;rfl;simp only[vW,seval,cmV,vcC];rfl
        simp only[vW,seval,cmV,vcC]
      · have hl1 : e.l.length = 2 := by have : takesV nFind = 2 := by decide
                                        omega
        obtain⟨x,y,rfl⟩:∃x y,L=[x,y]:=by
          match L,hL.trans hl1 with
          |[x,y],_=>exact⟨x,y,rfl⟩
        obtain⟨t0,t1,rfl⟩:∃t0 t1,ps=[t0,t1]:=by
          match ps,hpl.trans hl1 with
          |[t0,t1],_=>exact⟨t0,t1,rfl⟩
        obtain rfl:clE (takF 1 [2,2]) (fnP 145)=ym:=Option.some.inj hy
        have ht':(takeT 1 [2,2] [t0,t1]).2=true:=ht'
        have f0:fitsV x t0=true:=hPF.2 0 x t0 rfl rfl
        have f1:fitsV y t1=true:=hPF.2 1 y t1 rfl rfl
        obtain⟨k0,k1⟩:=z113 ht'
        have T1:SCalls Tryz.prog (glE m) 145 [.bs 1000 0 2 2] [.box (vC [x,y])] (nv (callV nFind [x,y])) [.box (vC [x,y])]:=sc_TE (call5_ok m (fits60 f0 k0))
        rw[if_neg (fun h=>h.elim (fun h=>by omega) fun h=>absurd h.2 (by decide))]at hY
        subst hY
        generalize callV nFind [x,y]=r at*
        unfold clE fnP takF at hlkp
        unfold nv at*
        simp only[vW,seval,d1,cmV,vcC,k,hl1,hs',hlkp]
        (with_reducible apply z22);simp only[vW,seval,cmV,vcC];rfl;exact T1;rfl;simp only[vW,seval,cmV,vcC];rfl
        simp only[vW,seval,cmV,vcC]
      · have hl1 : e.l.length = 2 := by have : takesV nMin = 2 := by decide
                                        omega
        obtain⟨x,y,rfl⟩:∃x y,L=[x,y]:=by
          match L,hL.trans hl1 with
          |[x,y],_=>exact⟨x,y,rfl⟩
        obtain⟨t0,t1,rfl⟩:∃t0 t1,ps=[t0,t1]:=by
          match ps,hpl.trans hl1 with
          |[t0,t1],_=>exact⟨t0,t1,rfl⟩
        obtain rfl:clE (takF 1 [1,1]) (fnP 152)=ym:=Option.some.inj hy
        have ht':(takeT 1 [1,1] [t0,t1]).2=true:=ht'
        have f0:fitsV x t0=true:=hPF.2 0 x t0 rfl rfl
        have f1:fitsV y t1=true:=hPF.2 1 y t1 rfl rfl
        obtain⟨k0,k1⟩:=z113 ht'
        have T1:SCalls Tryz.prog (glE m) 152 [.bs 1000 0 2 2] [.box (vC [x,y])] (nv (callV nMin [x,y])) [.box (vC [x,y])]:=call9_ok (glE m)
        rw[if_neg (fun h=>h.elim (fun h=>by omega) fun h=>absurd h.2 (by decide))]at hY
        subst hY
        generalize callV nMin [x,y]=r at*
        unfold clE fnP takF at hlkp
        unfold nv at*
        simp only[vW,seval,d1,cmV,vcC,k,hl1,hs',hlkp]
        (with_reducible apply z22);simp only[vW,seval,cmV,vcC];rfl;exact T1;rfl;simp only[vW,seval,cmV,vcC];rfl
        simp only[vW,seval,cmV,vcC]
      · have hl1 : e.l.length = 2 := by have : takesV nMax = 2 := by decide
                                        omega
        obtain⟨x,y,rfl⟩:∃x y,L=[x,y]:=by
          match L,hL.trans hl1 with
          |[x,y],_=>exact⟨x,y,rfl⟩
        obtain⟨t0,t1,rfl⟩:∃t0 t1,ps=[t0,t1]:=by
          match ps,hpl.trans hl1 with
          |[t0,t1],_=>exact⟨t0,t1,rfl⟩
        obtain rfl:clE (takF 1 [1,1]) (fnP 153)=ym:=Option.some.inj hy
        have ht':(takeT 1 [1,1] [t0,t1]).2=true:=ht'
        have f0:fitsV x t0=true:=hPF.2 0 x t0 rfl rfl
        have f1:fitsV y t1=true:=hPF.2 1 y t1 rfl rfl
        obtain⟨k0,k1⟩:=z113 ht'
        have T1:SCalls Tryz.prog (glE m) 153 [.bs 1000 0 2 2] [.box (vC [x,y])] (nv (callV nMax [x,y])) [.box (vC [x,y])]:=call10_ok (glE m)
        rw[if_neg (fun h=>h.elim (fun h=>by omega) fun h=>absurd h.2 (by decide))]at hY
        subst hY
        generalize callV nMax [x,y]=r at*
        unfold clE fnP takF at hlkp
        unfold nv at*
        simp only[vW,seval,d1,cmV,vcC,k,hl1,hs',hlkp]
        (with_reducible apply z22);simp only[vW,seval,cmV,vcC];rfl;exact T1;rfl;simp only[vW,seval,cmV,vcC];rfl
        simp only[vW,seval,cmV,vcC]
      · have hl1 : e.l.length = 3 := by have : takesV nIf = 3 := by decide
                                        omega
        obtain⟨x,y,z,rfl⟩:∃x y z,L=[x,y,z]:=by
          match L,hL.trans hl1 with
          |[x,y,z],_=>exact⟨x,y,z,rfl⟩
        obtain rfl:clE (fnP 150) (fnP 151)=ym:=Option.some.inj hy
        have T1:SCalls Tryz.prog (glE m) 151 [.bs 1000 0 3 3] [.box (vC [x,y,z])] (tv (callV nIf [x,y,z])) [.box (vC [x,y,z])]:=call8_ok (glE m)
        rw[if_pos (Or.inr ⟨k,rfl⟩)]at hY
        subst hY
        generalize callV nIf [x,y,z]=r at*
        unfold clE fnP at hlkp
        unfold tv at*
        simp only[vW,seval,d1,cmV,vcC,k,hl1,hs',hlkp]
        (with_reducible apply z22);simp only[vW,seval,cmV,vcC];rfl;exact T1;rfl;simp only[vW,seval,cmV,vcC];rfl
        simp only[vW,seval,cmV,vcC]
theorem opV_l(s:List UInt8)(a b:V):(opV s a b).l=[]:=by
 unfold opV
 repeat' split
 all_goals rfl
theorem nodeW_l{fs:List Fld}{vals ws:List V}{e:V}(h:¬(e.k=3∨(e.k=6∧e.s=nIf))):(nodeW fs vals e ws).l=[]:=by
 rw[not_or]at h;unfold nodeW;rw[if_neg h.1];split
 ·rfl
 split
 ·exact opV_l _ _ _
 split
 ·rfl
 split
 ·rename_i h6;have hs:e.s≠nIf:=fun hs=>h.2 ⟨h6,hs⟩;unfold callV;simp only[if_neg hs]
  repeat' split
  all_goals rfl
 ·rfl
theorem worth_ok(m:Nat)(c:Cls)(vals:List V)(hv:ValsOk c vals):∀d,WorthOk m c vals d
 |0=>fun e he=>by simp[okE]at he
 |d+1=>fun e he hs ht=>by
  have:=worth_step m c vals hv d (worth_ok m c vals hv d) e he hs ht;unfold ansE at this;split at this
  ·exact this
  ·rename_i hne;exact this.out (nv_tv (nodeW_l hne))
end Go.Proofs.YtcpaleaajdilgaaGreatDoor
end

section
namespace Go.Proofs.YtcpaleaajdilgaaGreatDoor
open Go Go.RowKit Go.Mor Go.Sh Go.Sh.Cd1 Go.Sh.Cd4 Go.Sh.Cd5
set_option maxRecDepth 100000
set_option maxHeartbeats 4000000
theorem rightE_inv{e:V}(h:rightE e=true):okE 8 e=true∧szE 8 e≤40:=by
 unfold rightE at h;rw[Bool.and_eq_true]at h;exact⟨h.1,of_decide_eq_true h.2⟩
end Go.Proofs.YtcpaleaajdilgaaGreatDoor
end

section
namespace Go.Proofs.YtcpaleaajdilgaaGreatDoor
open Go Go.RowKit Go.Mor Go.Sh Go.Sh.Cd1 Go.Sh.Cd6
set_option maxRecDepth 100000
set_option maxHeartbeats 4000000
theorem checkGo_fit:∀{fs:List Fld} {vs:List V} {k:Nat},(z95 k fs vs).2=0→∀(i:Nat) f v,fs[i]?=some f→vs[i]?=some v→fitsV v f.t=true
 |[],_,_,_,i,f,v,h,_=>by simp at h
 |_::_,[],_,_,i,f,v,_,h=>by simp at h
 |g::fs,u::vs,k,hk,i,f,v,hf,hv=>by
  unfold z95 at hk;split at hk
  ·rename_i h1;cases i with
   |zero=>cases hf;cases hv;exact h1
   |succ i=>exact checkGo_fit hk i f v (by simpa using hf) (by simpa using hv)
  ·cases hk
theorem once_all{all:List Fld}:∀{l:List Fld} {k:Nat},onceGo all k l=true→∀f∈l,z26 f=true
 |[],_,_,f,h=>by cases h
 |g::l,k,ho,f,h=>by
  rw[once_step]at ho;simp only[Bool.and_eq_true]at ho;rcases List.mem_cons.1 h with rfl|h
  ·exact ho.1.1
  ·exact once_all ho.2 f h
theorem check_fit{c:Cls}{vs:List V}(h:(check c vs).2=0):FitAll c.fs vs:=by
 unfold check at h;split at h
 ·cases h
 rename_i hr;split at h
 ·cases h
 rename_i hl;have hr:z18 c=true:=by simpa using hr
 unfold z18 at hr;simp only[Bool.and_eq_true]at hr;refine⟨fun f hf=> ?_,by omega,checkGo_fit h⟩;have:=once_all hr.2 f hf;unfold z26 at this;simp only[Bool.and_eq_true]at this;exact this.1.2
def typeT(r:Ty×Int):TV:=.tuple [tyT r.1,I r.2]
theorem evType_ok(m:Nat)(c:Cls)(e:V)(hc:ClsOk c)(he:ESmall e):SCalls Tryz.prog (glE m) 78 [tv e,clT c] [] (typeT (typeA c e)) []:=by
 have H1:=sc_0E (exprRight_ok m e he);have H2:=classRight_ok (glE m) c hc;have H3:=calls_ok (glE m);have H4:=fun h=>typeOf_ok (glE m) c (.v (.slice none 0 0)) hc.len 8 e h he;unfold typeA;refine z7 hmix tf_60 rfl ?_;unfold clT typeT tyT B at*;cases h1:rightE e
 ·rw[h1]at H1;simp only[vW,seval,cmV];(with_reducible apply v_call);simp only[vW,seval,cmV];rfl;rfl;exact H1;exact km;simp only[vW,seval,cmV];rfl;simp only[vW,seval,cmV];rfl
 rw[h1]at H1;have H4:=H4 (rightE_inv h1).1;rw[if_pos rfl];cases h2:z18 c
 ·rw[h2]at H2;simp only[vW,seval,cmV];(with_reducible apply v_call);simp only[vW,seval,cmV];rfl;rfl;exact H1;exact km;simp only[vW,seval,cmV];rfl;simp only[vW,seval,cmV];(with_reducible apply v_call);simp only[vW,seval,cmV];rfl;rfl;exact H2;exact km;simp only[vW,seval,cmV];rfl;simp only[vW,seval,cmV];rfl
 rw[h2]at H2;rw[if_pos rfl];unfold tyB scp B at H4;cases h3:(typeV c.fs 8 e).2
 ·rw[h3]at H4;simp only[vW,seval,cmV];(with_reducible apply v_call);simp only[vW,seval,cmV];rfl;rfl;exact H1;exact km;simp only[vW,seval,cmV];rfl;simp only[vW,seval,cmV];(with_reducible apply v_call);simp only[vW,seval,cmV];rfl;rfl;exact H2;exact km;simp only[vW,seval,cmV];rfl;simp only[vW,seval,cmV];(with_reducible apply v_call);simp only[vW,seval,cmV];rfl;rfl;exact H3;exact km;simp only[vW,seval,cmV];rfl;simp only[vW,seval,cmV];(with_reducible apply v_call);simp only[vW,seval,cmV];rfl;rfl;exact H4;exact km;simp only[vW,seval,cmV];rfl;simp only[vW,seval,cmV];rfl
 ·rw[h3]at H4;simp only[vW,seval,cmV];(with_reducible apply v_call);simp only[vW,seval,cmV];rfl;rfl;exact H1;exact km;simp only[vW,seval,cmV];rfl;simp only[vW,seval,cmV];(with_reducible apply v_call);simp only[vW,seval,cmV];rfl;rfl;exact H2;exact km;simp only[vW,seval,cmV];rfl;simp only[vW,seval,cmV];(with_reducible apply v_call);simp only[vW,seval,cmV];rfl;rfl;exact H3;exact km;simp only[vW,seval,cmV];rfl;simp only[vW,seval,cmV];(with_reducible apply v_call);simp only[vW,seval,cmV];rfl;rfl;exact H4;exact km;simp only[vW,seval,cmV];rfl;simp only[vW,seval,cmV]
def evalT(r:V×Int):TV:=if r.2=0 then .tuple [tv r.1,I 0] else .tuple [nv V.nil,I r.2]
theorem evEval_ok(m:Nat)(c:Cls)(e:V)(vals:List V)(hc:ClsOk c)(he:ESmall e)(hf:∀x∈vals,VFew x∧VOk x)(hl:vals.length≤4611686018427387904):SCalls Tryz.prog (glE m) 37 [tv e,clT c,.pv (.sl 4 (V.rows vals))] [] (evalT (evalA c vals e)) []:=by
 have H1:=evType_ok m c e hc he;have H2:=sc_0E (classCheck_ok m c vals hc (fun x hx=>⟨(hf x hx).2,by have:=(hf x hx).1.len;unfold maxLen;omega⟩) hl);have H3:=calls_ok (glE m);unfold evalA;refine z7 hmix tf_59 rfl ?_;unfold clT evalT typeT tyT checkT at*;obtain⟨t,ht⟩:∃t,typeA c e=t:=⟨_,rfl⟩
 obtain⟨k,hk⟩:∃k,check c vals=k:=⟨_,rfl⟩
 rw[ht]at H1 ⊢;rw[hk]at H2 ⊢;by_cases h1:t.2=0
 ·rw[if_neg (c:=t.2≠0) (by omega)];by_cases h2:k.2=0
  ·rw[if_neg (c:=k.2≠0) (by omega)];obtain⟨h3,h4⟩:rightE e=true∧(typeV c.fs 8 e).2=true:=by
    unfold typeA at ht;rw[←ht]at h1;cases h5:rightE e
    ·rw[h5]at h1;cases h1
    ·cases h6:(typeV c.fs 8 e).2
     ·rw[h5,h6]at h1;cases h7:z18 c<;>rw[h7]at h1<;>cases h1
     ·exact⟨rfl,rfl⟩
   have H4:=worth_ok m c vals ⟨hc.len,check_fit (by rw[hk];exact h2),fun v hv=>(hf v hv).1⟩ 8 e (rightE_inv h3).1 he h4;obtain⟨r,hr⟩:∃r,worthV c.fs vals 8 e=r:=⟨_,rfl⟩
   rw[hr]at H4 ⊢;rw[if_pos rfl];unfold scp at H4;unfold tv at*;simp only[vW,seval,cmV];(with_reducible apply v_call);simp only[vW,seval,cmV];rfl;rfl;exact H1;exact km;simp only[vW,seval,cmV];rfl;simp only[vW,seval,cmV,h1];(with_reducible apply v_call);simp only[vW,seval,cmV];rfl;rfl;exact H2;exact km;simp only[vW,seval,cmV];rfl;simp only[vW,seval,cmV,h2];(with_reducible apply v_call);simp only[vW,seval,cmV];rfl;rfl;exact H3;exact km;simp only[vW,seval,cmV];rfl;simp only[vW,seval,cmV];(with_reducible apply v_call);simp only[vW,seval,cmV];rfl;rfl;exact H4;exact km;simp only[vW,seval,cmV];rfl;simp only[vW,seval,cmV]
  ·rw[if_pos (c:=k.2≠0) h2,if_neg (c:=k.2=0) h2];simp only[vW,seval,cmV];(with_reducible apply v_call);simp only[vW,seval,cmV];rfl;rfl;exact H1;exact km;simp only[vW,seval,cmV];rfl;simp only[vW,seval,cmV,h1];(with_reducible apply v_call);simp only[vW,seval,cmV];rfl;rfl;exact H2;exact km;simp only[vW,seval,cmV];rfl;simp only[vW,seval,cmV,h2];rfl
 ·rw[if_pos (c:=t.2≠0) h1,if_neg (c:=t.2=0) h1];simp only[vW,seval,cmV];(with_reducible apply v_call);simp only[vW,seval,cmV];rfl;rfl;exact H1;exact km;simp only[vW,seval,cmV];rfl;simp only[vW,seval,cmV,h1];rfl
end Go.Proofs.YtcpaleaajdilgaaGreatDoor
end
