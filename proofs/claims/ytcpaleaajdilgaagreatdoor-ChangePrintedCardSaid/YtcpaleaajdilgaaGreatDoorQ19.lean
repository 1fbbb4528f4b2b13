/- Merged texts: Pz1 Pe1 PVals PrT RegIn PrE Cd6 Zg1 Pe2. No statement of the program is proved here. -/
import Derived.Test.YtcpaleaajdilgaaGreatDoorQ15
import Derived.Lib.AtoiAll
import Derived.Lib.Small
import Derived.Lib.Index
import Derived.Lib.SmallJoins
import Derived.StillTailTactics
import Derived.OrdersIn
import Derived.TacticsIn
import Derived.RangeFuncCalls
set_option linter.unusedSimpArgs false
set_option linter.unusedVariables false
set_option maxRecDepth 100000
set_option maxHeartbeats 8000000
section
namespace Go.Proofs.YtcpaleaajdilgaaGreatDoor
open Go Go.Mor
structure Tri(p q r:Int):Prop where
 a: -1≤p∧p≤1
 b: -1≤q∧q≤1
 c: -1≤r∧r≤1
 d:p=0→r=q
 e:q=0→r=p
 f:p= -1→q= -1→r= -1
 g:p=1→q=1→r=1
theorem Tri.lex{p q r p' q' r':Int}(h:Tri p q r)(h':Tri p' q' r'):Tri (z03 p p') (z03 q q') (z03 r r'):=by
 obtain⟨a,b,c,d,e,f,g⟩:=h;obtain⟨a',b',c',d',e',f',g'⟩:=h';unfold z03;constructor<;>(repeat' split)<;>omega
theorem z8z(a b:Int):z25 b a= -z25 a b:=by
 grind [z25]
def z5c:zB→zB→Int
 |[],[]=>0
 |[],_::_=> -1
 |_::_,[]=>1
 |a::x,b::y=>z03 (z25 a.toNat b.toNat) (z5c x y)
theorem zez:∀(x y:zB),z2I x y=z5c x y
 |[],[]=>by simp[z2I,z5c,Op.bytesLess]
 |[],b::y=>by simp[z2I,z5c,Op.bytesLess]
 |a::x,[]=>by simp[z2I,z5c,Op.bytesLess]
 |a::x,b::y=>by
  have ih:=zez x y;simp only[z5c,←ih];unfold z2I z25 z03;simp only[Op.bytesLess]
  grind [UInt8.lt_iff_toNat_lt,UInt8.toNat_inj]
def Rng(p:Int):Prop:= -1≤p∧p≤1
theorem Rng.lex{p q:Int}(h:Rng p)(h':Rng q):Rng (z03 p q):=by grind [z03]
theorem z4q{a b c d:Int}(h:b= -a)(h':d= -c):z03 b d= -z03 a c:=by
 grind [z03]
theorem zcA:∀(x y:zB),z5c y x= -z5c x y
 |[],[]=>by simp[z5c]
 |[],b::y=>by simp[z5c]
 |a::x,[]=>by simp[z5c]
 |a::x,b::y=>by simp only[z5c];exact z4q (z8z _ _) (zcA x y)
theorem zjX(a b:zB):z2I b a= -z2I a b:=by grind [zez,zcA]
theorem zcj:∀(x y:List V),(∀a∈x,∀b,cmpV b a= -cmpV a b)→z1u y x= -z1u x y
 |[],[],_=>by simp[z1u]
 |[],b::y,_=>by simp[z1u]
 |a::x,[],_=>by simp[z1u]
 |a::x,b::y,h=>by simp only[z1u];exact z4q (h a (by simp) b) (zcj x y fun c hc=>h c (by simp[hc]))
theorem zhd(n:Nat):∀x y:V,SizeOf.sizeOf x≤n→cmpV y x= -cmpV x y:=by
 induction n with
 |zero=>intro x y h;cases x;simp at h
 |succ n ih=>
  intro x y h;rw[z97 x y,z97 y x];refine z4q (z8z _ _) (z4q (z8z _ _) (z4q (zjX _ _) (zcj _ _ fun a ha b=>ih a b ?_)));have:=List.sizeOf_lt_of_mem ha;cases x;simp[V.l]at h this ⊢;omega
theorem zj0(x y:V):cmpV y x= -cmpV x y:=zhd _ x y (Nat.le_refl _)
theorem zj1(x:V):cmpV x x=0:=by grind [zj0]
end Go.Proofs.YtcpaleaajdilgaaGreatDoor
end

section
namespace Go.Mor
open Go
def ty0:Ty:=⟨0,0⟩
def z0h(a b:Ty):Bool:=a.k==b.k&&a.o==b.o
def z1G(a b:Ty):Bool:=z0h a b&&(a.k==1||a.k==2)
def z22:List Ty→List Int→Bool
 |[],_=>true
 |t::l,k::r=>t.k==k&&z22 l r
 |_::_,[]=>false
def zE(k:Int)(ks:List Int)(ps:List Ty):Ty×Bool:=if z22 ps ks then(⟨k,0⟩,true)else(ty0,false)
def zdq(s:zB)(ps:List Ty):Ty×Bool:=
 if s=[43]∨s=[45]∨s=[42]∨s=[47]∨s=[37] then zE 1 [1,1] ps
 else if s=[38] then zE 2 [2,2] ps
 else(⟨1,0⟩,z1G (ps.getD 0 ty0) (ps.getD 1 ty0))
def z4i:zB:=[108,101,110]
def z1r:zB:=[108,101,102,116]
def z0T:zB:=[114,105,103,104,116]
def z1q:zB:=[102,114,111,109]
def z34:zB:=[102,105,110,100]
def z1z:zB:=[116,101,120,116]
def z4j:zB:=[110,117,109]
def nIf:zB:=[105,102]
def z4z:zB:=[109,105,110]
def z5e:zB:=[109,97,120]
def z27(ps:List Ty):Ty×Bool:=if(ps.getD 0 ty0).k=1∧z1G (ps.getD 1 ty0) (ps.getD 2 ty0)=true then(ps.getD 1 ty0,true)else(ty0,false)
def z7b(s:zB)(ps:List Ty):Ty×Bool:=
 if s=z4i then zE 1 [2] ps else if s=z1r then zE 2 [2,1] ps else if s=z0T then zE 2 [2,1] ps else if s=z1q then zE 2 [2,1] ps
 else if s=z34 then zE 1 [2,2] ps else if s=z1z then zE 2 [1] ps else if s=z4j then zE 1 [2] ps else if s=nIf then z27 ps
 else zE 1 [1,1] ps
def z0X(t:V→Ty×Bool):List V→Option (List Ty)
 |[]=>some []
 |x::l=>if(t x).2 then(z0X t l).map ((t x).1::·)else none
def z2G(fs:List Fld)(e:V)(ps:List Ty):Ty×Bool:=
 if e.k=2 then(⟨2,0⟩,true)
 else if e.k=3 then(if fieldAt fs e.s<0 then(ty0,false)else((fs.getD (fieldAt fs e.s).toNat ⟨[],ty0,false⟩).t,true))
 else if e.k=4 then zdq e.s ps
 else if e.k=5 then zE 1 [1] ps
 else if e.k=6 then z7b e.s ps
 else(⟨1,0⟩,true)
def zl(fs:List Fld):Nat→V→Ty×Bool
 |0,_=>(ty0,false)
 |d+1,e=>match z0X (zl fs d) e.l with
  |none=>(ty0,false)
  |some ps=>z2G fs e ps
def zdS(n:Int):Int:=max (-1000000000000000) (min n 1000000000000000)
def z0i(n:Int):V:=.mk 1 (zdS n) [] []
def z4b:Nat→zB→Nat→Nat
 |0,_,a=>a
 |f+1,l,a=>if l=[] then a else if 60<(a:Int)+Lib.runeLen ((Lib.decodeL l).1:Int)then a else z4b f (l.drop (Lib.decodeL l).2) (a+(Lib.decodeL l).2)
def z59(s:zB):zB:=s.take (z4b s.length s 0)
def z1K(s:zB):V:=.mk 2 0 (z59 s) []
def z4I:Nat→zB→Nat
 |0,_=>0
 |f+1,l=>if l=[] then 0 else z4I f (l.drop (Lib.decodeL l).2)+1
def z0V(s:zB):Nat:=z4I s.length s
def z48:Nat→zB→Nat→Nat→Int→Nat
 |0,_,a,_,_=>a
 |f+1,l,a,k,n=>if l=[] then a else if n≤(k:Int)then a else z48 f (l.drop (Lib.decodeL l).2) (a+(Lib.decodeL l).2) (k+1) n
def z1J(s:zB)(n:Int):Nat:=z48 s.length s 0 0 n
def z9a(t u:zB):Int:=if Lib.index t u<0 then -1 else(z0V (t.take (Lib.index t u).toNat):Int)
def z3M(t:zB):Int:=match Lib.atoiAll t with
 | .ok v=>if v< -1000000000000000∨1000000000000000<v∨Lib.itoa v≠t then 0 else v
 |_=>0
def z9r(a b:Int):Int:=if a=0∨max b (-b)≤(1000000000000000:Int).tdiv (max a (-a))then a*b else if(decide (a<0)==decide (b<0))=true then 1000000000000000 else -1000000000000000
def z5p(s:zB)(a b:Int):Int:=if b=0 then 0 else if s=[47] then a.tdiv b else a.tmod b
def z3C(s:zB)(c:Int):Bool:=
 if s=[60,61] then decide (c≤0)else if s=[61] then decide (c=0)else if s=[62,61] then decide (0≤c)else if s=[62] then decide (0<c)else if s=[60,62] then decide (c≠0)else decide (c<0)
def opV(s:zB)(a b:V):V:=
 if s=[45] then z0i (a.n+ -b.n)else if s=[43] then z0i (a.n+b.n)else if s=[42] then z0i (z9r a.n b.n)
 else if s=[47]∨s=[37] then z0i (z5p s a.n b.n)else if s=[38] then z1K (a.s++b.s)
 else if z3C s (Go.Proofs.YtcpaleaajdilgaaGreatDoor.cmpV a b)then z0i 1 else z0i 0
def z09(s:zB)(l:List V):V:=
 let x:=l.getD 0 V.nil
 let y:=l.getD 1 V.nil
 if s=z4i then z0i (z0V x.s)else if s=z1r then z1K (x.s.take (z1J x.s y.n))else if s=z0T then z1K (x.s.drop (z1J x.s (z0V x.s-y.n)))
 else if s=z1q then z1K (x.s.drop (z1J x.s y.n))else if s=z34 then z0i (z9a x.s y.s)else if s=z1z then z1K (Lib.itoa x.n)else if s=z4j then z0i (z3M x.s)
 else if s=nIf then(if x.n≠0 then y else l.getD 2 V.nil)else if s=z4z then z0i (min x.n y.n)else z0i (max x.n y.n)
def z9n(fs:List Fld)(vals:List V)(e:V)(ps:List V):V:=
 if e.k=2 then z1K e.s
 else if e.k=3 then vals.getD (fieldAt fs e.s).toNat V.nil
 else if e.k=4 then opV e.s (ps.getD 0 V.nil) (ps.getD 1 V.nil)
 else if e.k=5 then z0i (-(ps.getD 0 V.nil).n)
 else if e.k=6 then z09 e.s ps
 else z0i e.n
def z1I(fs:List Fld)(vals:List V):Nat→V→V
 |0,_=>V.nil
 |d+1,e=>z9n fs vals e (e.l.map (z1I fs vals d))
def z2q(c:Cls)(e:V):Ty×Int:=if z0q e then(if zn c then(if(zl c.fs 8 e).2 then((zl c.fs 8 e).1,0)else(ty0,60))else(ty0,40))else(ty0,50)
def z4c(c:Cls)(vals:List V)(e:V):V×Int:=if(z2q c e).2≠0 then(V.nil,(z2q c e).2)else if(z1Z c vals).2≠0 then(V.nil,(z1Z c vals).2)else(z1I c.fs vals 8 e,0)
section
open Go.RowKit
def zix(i:Int):zB:=([[],[97],[98,99],[195,169,116,195,169],[97,32,98],[122,122,32,116,111,112],[48],[45,55]]:List (zB)).getD i.toNat []
def z1g(k n many:Int):V:=
 if k=1 then .mk 1 (pick n 41-20) [] []
 else if k=2 then .mk 2 0 (zix (pick n 8)) []
 else if many<1∨pick n 5=4 then V.nil
 else .mk k (1+pick n many) [] []
def z33(t:Ty)(n many:Int):V:=
 if t.k=5 then .mk 5 0 [] ((List.range (pick n 4).toNat).map fun i:Nat=>z1g t.o (n.tdiv 4+(i:Int)) many)else z1g t.k n many
def z6B(l:List Int)(i:Nat):Int:=if l=[] then i else IntKind.i64.wrap (l.getD (i%l.length) 0+i)
def z2S(fs:List Fld)(l:List Int)(many:Int):List V:=fs.mapIdx fun i f=>z33 f.t (z6B l i) many
theorem ziy(j:Int)(h0:0≤j)(h1:j<8):zh (zix j)=true:=by
 have:j=0∨j=1∨j=2∨j=3∨j=4∨j=5∨j=6∨j=7:=by omega
 rcases this with rfl|rfl|rfl|rfl|rfl|rfl|rfl|rfl<;>rfl
theorem zcN(k n many:Int)(hk:1≤k∧k≤4)(hm:many≤100000):z0U (z1g k n many)=true∧(z1g k n many).l=[]∧z0L (z1g k n many) k=true∧(z1g k n many).k≠5∧(z1g k n many).s.length≤60:=by
 unfold z1g;by_cases h1:k=1
 ·subst h1;have:=zF n 41 (by omega);simp[z0U,bare,z0L,V.k,V.n,V.s,V.l];omega
 ·rw[if_neg h1];by_cases h2:k=2
  ·subst h2;have h8:=zF n 8 (by omega);have:=ziy _ h8.1 h8.2;have hl:(zix (pick n 8)).length≤60:=by simp only[zh,Bool.and_eq_true,decide_eq_true_iff]at this;exact this.1
   grind [z0U,z0L,V.k,V.n,V.s,V.l]
  ·rw[if_neg h2];by_cases h3:many<1∨pick n 5=4
   ·rw[if_pos h3];have hk34:k=3∨k=4:=by omega
    refine⟨by decide,rfl,?_,by decide,by decide⟩;rcases hk34 with rfl|rfl<;>decide
   ·rw[if_neg h3];have:=zF n many (by omega);have hid:z2A (1+pick n many)=true:=by grind [z2A]
    grind [z0L,V.k,V.s,z0U,bare,V.n,V.l]
end
end Go.Mor
end

section
namespace Go.Proofs.YtcpaleaajdilgaaGreatDoor
open Go Go.RowKit Go.Mor Go.Sh
structure GlobT(w:World):Prop where
 tab:Lib.TabIs Tryz.prog w "internal/strconv.uint64pow10" .u64 Lib.pow10Tab
 mx:∃k,w.cell? ⟨4,0,none⟩=some (.int .i64 k)
theorem z9S:Tryz.prog.globalNamed "internal/strconv.uint64pow10" =some 5:=by kernel_rfl
theorem zq7{P:Program}{w w':World}{n g:Nat}{nm:String}{k:IntKind}{zs:List Int}(hg:P.globalNamed nm=some g)(hn:g<n)(h:Lib.TabIs P w nm k zs)(hk:∀k,k<n→w'.heap[k]?=w.heap[k]?):Lib.TabIs P w' nm k zs:=by
 unfold Lib.TabIs World.var? at*;rw[hg]at*;simp only[Option.bind_some]at*;rw[hk g hn];exact h
theorem zeb{w w':World}{n:Nat}(hv:10≤n)(h:GlobT w)(hk:∀k,k<n→w'.heap[k]?=w.heap[k]?):GlobT w':=by
 refine⟨zq7 z9S (by omega) h.tab hk,?_⟩;obtain⟨k,h0⟩:=h.mx;exact⟨k,by rw[World.cell?_of_block (w:=w) (hk _ (show 4<n by omega))];exact h0⟩
structure GlobNT(n:Nat)(w:World):Prop extends GlobN0 n w where
 t:GlobT w
def glT(n:Nat):Sh.Glob where
 G:=GlobNT n
 n:=n
 st:=fun w w' h hk=>⟨⟨zai h.hv h.u hk,zbY h.sz hk,h.hv⟩,zeb h.hv h.t hk⟩
 le:=fun w h=>h.sz
theorem zne{m f:Nat}{xs:List TV}{os:List MO}{y:TV}{os':List MO}(h:SCalls Tryz.prog (gl0 m) f xs os y os'):SCalls Tryz.prog (glT m) f xs os y os':=
 z9w (g:=gl0 m) (g':=glT m) rfl (fun w (hG:GlobNT m w)=>hG.toGlobN0) h
end Go.Proofs.YtcpaleaajdilgaaGreatDoor
end

section
namespace Go.Mor
open Go
section
structure Open(F:Fence):Prop where
 fn:∀f,F.fn f
 depth:F.depth=none
 calls:∀(n:Nat) (P:Program) (f:FuncId) (args:Array Value) (w:World) (R:Ending→World→Prop),Calls P f args w R→CallsIn F n P f args w R
theorem zjV:Open Fence.wide:=⟨fun _=>trivial,rfl,fun _ _ _ _ _ _ h=>callsIn_wide.2 h⟩
theorem zbd(l:Nat):Open (Fence.wide.inRound l):=⟨fun _=>trivial,rfl,fun _ _ _ _ _ _ h=>CallsIn.inRound l (callsIn_wide.2 h)⟩
def z4A(ops:Array Oper):Bool:=ops.all fun o=>match o.op with| .defer _=>false|_=>true
theorem zes{ops:Array Oper}(h:z4A ops=true){i:Nat}{o:Oper}(hi:ops[i]?=some o):∀c,o.op≠ .defer c:=by
 intro c hc;have hlt:=(gA hi)
 obtain⟨hl,rfl⟩:=hlt;have:=Array.all_eq_true.1 h i hl;rw[hc]at this;cases this
section
variable{F:Fence}{n:Nat}{P:Program}{ops:Array Oper}{md:Region.Mode}{w:World}
theorem zc8(hF:Open F)(hnd:z4A ops=true){i:Nat}{a:Act}{K:Act→Prop}{K':Act→World→Prop}{Q':Exit→Act→World→Prop}(h:∀a,K a→K' a w)(hh:stOp P ops w i K a):
  wpOpIn F n P ops Q' i K' a w:=by
 unfold stOp at hh;unfold wpOpIn;split
 ·rename_i ho;simp only[ho]at hh;exact h _ hh
 ·rename_i o ho;simp only[ho]at hh;split
  ·rename_i hw;simp only[hw,if_true]at hh;refine⟨fun f _=>hF.fn f,?_⟩;rw[Oper.semAt_eq _ _ _ (zes hnd ho)];unfold Oper.still at hh;generalize(execOp a.eval o).run P w=r at*;cases r with
   |ok x w'=>
    cases x<;>simp only[Oper.stillUpon,Oper.uponIn]at hh ⊢
    ·obtain⟨rfl,hh⟩:=hh;exact h _ hh
    ·obtain⟨rfl,hh⟩:=hh;exact h _ hh
    ·obtain⟨rfl,v,hc,hh⟩:=hh;refine⟨fun hd=>(by rw[hF.depth]at hd;cases hd),hF.calls _ _ _ _ _ _ (hc.mono ?_)⟩;rintro e w'' ⟨rfl,rfl⟩;exact h _ hh
   |halt x w'=>exact hh.elim
  ·rename_i hw;simp only[hw]at hh;exact⟨fun f _=>hF.fn f,h _ hh⟩
theorem z6q(hF:Open F)(hnd:z4A ops=true){m g:Nat}{L:Array Bool→Act→Prop}{Q':Exit→Act→World→Prop}(hL:∀listed a,L listed a→wpAnyIn F n P md ops Q' g listed a w):
  ∀(f:Nat) (listed:Array Bool) (a:Act),wpAnyL P md ops w m L f listed a→wpAnyIn F n P md ops Q' (f+g) listed a w
 |0,listed,a,h=>by rw[Nat.zero_add];exact hL _ _ h
 |f+1,listed,a,h=>by
  rw[show f+1+g=(f+g)+1 by omega];exact⟨fun h0=>absurd h0 h.1,fun i hi=>zc8 hF hnd (fun a' h'=>z6q hF hnd hL f _ a' h') (h.2 i hi).2⟩
theorem z78{Q':Exit→Act→World→Prop}:∀(l:List Oper) (k:Nat) (listed:Array Bool) (a:Act) (w:World),(∀j,l[j]?=ops[k+j]?)→
  Region.seqB md ops l.length k listed=true→wpListIn F n P ops Q' l a w→wpAnyIn F n P md ops Q' l.length listed a w
 |[],_,_,_,_,_,hB,h=>⟨by simpa [Region.seqB]using hB,h⟩
 |o::l,k,listed,a,w,hl,hB,h=>by
  have h0:ops[k]?=some o:=by simpa using(hl 0).symm
  simp only[List.length_cons,Region.seqB,Bool.and_eq_true,decide_eq_true_eq]at hB;refine⟨fun h1=>(by rw[hB.1]at h1;cases h1),fun i hi=> ?_⟩;rw[hB.1]at hi;have hik:i=k:=by simpa using hi
  subst hik;have hw:wpOpIn F n P ops Q' i (wpListIn F n P ops Q' l) a w:=by unfold wpOpIn;simp only[h0];exact h
  exact wpOpIn_mono (fun a' w' h'=>z78 l (i+1) _ a' w' (fun j=>by have:=hl (j+1);simpa [Nat.add_assoc,Nat.add_comm 1 j]using this) hB.2 h') hw
theorem z2k{id:Nat}{Q:Exit→Act→World→Prop}{a:Act}{w:World}{l:List Oper}(hF:Open F)(m:Nat)(hm:P.follows .mixedOrders=true)(hB:(Region.lexTailB .any l.toArray m&&z4A l.toArray)=true)
  (h:wpStill P l.toArray w.drew (fun a'=>wpListIn F n P l.toArray Q (l.drop m) a' w.drew) (l.take m) a):(Code.region id l.toArray true).wpIn F n P Q a w:=by
 rw[Bool.and_eq_true]at hB;obtain⟨hB,hnd⟩:=hB;simp only[Region.lexTailB,Bool.and_eq_true,decide_eq_true_eq]at hB;obtain⟨⟨⟨⟨hsel,hn⟩,hs⟩,hc⟩,hlex⟩:=hB;have hn':m<l.length:=by simpa using hn
 have htl:(l.take m).length=m:=by simp;omega
 have hdl:(l.drop m).length=l.toArray.size-m:=by simp
 have inv0:HeadInv .any l.toArray m (Array.replicate l.toArray.size false):=
  ⟨by simp,fun j oj _ hl=>(by rw[getD_replicate_false]at hl;cases hl),fun t _ ht=>getD_in (by simpa using ht) (getD_replicate_false _ _)⟩
 have H:=wpAnyL_lex (md:=.any) (g:=l.toArray.size-m) hsel hs hc hn (l.take m) 0 _ a (fun j hj=>by
  have hj':j<m:=by rw[htl]at hj;exact hj
  simp[hj']) (by simpa using htl) inv0 (by rw[htl];exact hlex) h
 refine wpIn_region_any hm ?_;have:=z6q (n:=n) hF hnd (Q':=Q) (g:=l.toArray.size-m) (fun listed a' hL=>by
  have:=z78 (F:=F) (n:=n) (P:=P) (md:=.any) (Q':=Q) (l.drop m) m listed a' w.drew (fun j=>by simp[List.getElem?_drop]) (by rw[hdl];exact hL.1) hL.2
  rwa [hdl]at this) _ _ _ H
 rw[htl,show m+(l.toArray.size-m)=l.toArray.size by omega]at this;exact this
theorem z0J{id:Nat}{Q:Exit→Act→World→Prop}{a:Act}{w:World}{l:List Oper}(m:Nat)(hm:P.follows .mixedOrders=true)(hB:Region.lexTailB .any l.toArray m=true)
  (h:wpStill P l.toArray w.drew (fun a'=>wpList P l.toArray Q (l.drop m) a' w.drew) (l.take m) a):(Code.region id l.toArray true).wp P Q a w:=wp_region_still_tail m hm hB h
end
end
end Go.Mor
end

section
namespace Go.Proofs.YtcpaleaajdilgaaGreatDoor
open Go Go.RowKit Go.Mor Go.Sh
structure GlobE(w:World):Prop where
 sy:∃t p,w.cell? ⟨6,0,none⟩=some (.iface t p)
 rg:∃t p,w.cell? ⟨7,0,none⟩=some (.iface t p)
theorem zea{w w':World}{n:Nat}(hv:10≤n)(h:GlobE w)(hk:∀k,k<n→w'.heap[k]?=w.heap[k]?):GlobE w':=by
 obtain⟨⟨t,p,h1⟩,⟨t',p',h2⟩⟩:=h;exact⟨⟨t,p,by rw[World.cell?_of_block (w:=w) (hk _ (show 6<n by omega))];exact h1⟩,⟨t',p',by rw[World.cell?_of_block (w:=w) (hk _ (show 7<n by omega))];exact h2⟩⟩
structure GlobNE(n:Nat)(w:World):Prop extends GlobNT n w where
 e:GlobE w
def glE(n:Nat):Sh.Glob where
 G:=GlobNE n
 n:=n
 st:=fun w w' h hk=>⟨(glT n).st w w' h.toGlobNT hk,zea h.hv h.e hk⟩
 le:=fun w h=>h.sz
theorem zdy{m f:Nat}{xs:List TV}{os:List MO}{y:TV}{os':List MO}(h:SCalls Tryz.prog (glT m) f xs os y os'):SCalls Tryz.prog (glE m) f xs os y os':=
 z9w (g:=glT m) (g':=glE m) rfl (fun w (hG:GlobNE m w)=>hG.toGlobNT) h
theorem zdx{m f:Nat}{xs:List TV}{os:List MO}{y:TV}{os':List MO}(h:SCalls Tryz.prog (gl0 m) f xs os y os'):SCalls Tryz.prog (glE m) f xs os y os':=zdy (zne h)
end Go.Proofs.YtcpaleaajdilgaaGreatDoor
end

section
namespace Go.Sh.Cd6
open Go Go.Sh
abbrev gQ(a:GA):Prop:=gT Go.Proofs.Tryz.prog a
theorem gK{a:GA}(h:gQ a:=by unfold gQ gT;kernel_rfl):gQ a:=h
theorem tf_108:gQ ⟨12,81,[(10,0),(11,0),(14,0),(37,0),(42,0),(52,0),(69,0),(77,0)],[],[[0],[10],[11017],[],[18025],[7,27028,73],[26,29033],[34045],[46048],[49055],[6,49,56064],[8,65071],[9,72],[7,73079],[1,3005,80]],[.cell true 2 2],false⟩:=gK
theorem tf_110:gQ ⟨13,43,[(39,0),(40,0)],[],[[0,6],[],[],[10013],[15016],[14,17],[18019],[20029],[9,20,30041],[1003,7008,42]],[.tmp 6],false⟩:=gK
theorem tf_54:gQ ⟨19,41,[],[],[[0,4005],[8009],[1002,10],[4005,10015],[1002,16022],[2,4005,16,23],[],[27030],[7,31037],[1,6,24026,38039],[4006,38,40],[1,24026]],[.tmp 4,.tmp 5],false⟩:=gK
theorem tf_57:gQ ⟨33,39,[],[],[[0,2],[7015],[1,16],[2,16017],[],[21024],[25026],[1,3004,18020,27],[2,4,6,27034],[3,5,35036],[1,18020,37],[2,37038],[1,18020]],[.tmp 2],false⟩:=gK
theorem tf_55:gQ ⟨34,14,[(10,1)],[],[[1000001,4005],[2003,7010],[11],[6,12],[6,12013]],[.tmp 4,.tmp 5],false⟩:=gK
theorem tf_67:gQ ⟨37,39,[(38,1)],[],[[1000001,7],[8,13018],[19],[2004,9,20022],[7,9010,20,23028],[29],[2004,11,30032],[2,4,7,11,30,33036],[3,12,37038]],[.cell true 4 6,.tmp 7],false⟩:=gK
theorem tf_58:gQ ⟨44,27,[],[],[[0,2],[3004],[1,5013],[1,5,14026]],[.tmp 2],false⟩:=gK
theorem tf_111:gQ ⟨45,13,[],[],[[4],[5],[6009],[1000001,6,10012]],[.tmp 4],false⟩:=gK
theorem tf_124:gQ ⟨46,23,[],[],[[0,4005],[],[7010],[4005,12013,21],[11,14020],[1002,6,21022],[1002,6]],[.tmp 4,.tmp 5],false⟩:=gK
theorem tf_109:gQ ⟨47,67,[(10,0),(16,0),(23,0),(34,0),(42,0),(48,0),(62,0),(63,0)],[],[[0],[10],[11],[14],[1003,7,12013,15018],[13,20],[1003,7,12,19,21026],[7,19,28],[12,29],[12,27,30035],[1003,36037],[1003,36,38044],[12,27,45],[],[46048],[50051],[49,52065],[1003,8009,66]],[.cell true 4 6],false⟩:=gK
theorem tf_60:gQ ⟨70,22,[],[],[[0,2],[3011],[1,12],[1,12021]],[.tmp 2],false⟩:=gK
theorem tf_155:gQ ⟨71,19,[(16,1)],[],[[4],[6],[],[9010],[11015],[1000001,5,7008,16017],[4005,16,18],[1000001,7008]],[.tmp 4],false⟩:=gK
theorem tf_56:gQ ⟨72,8,[],[],[[0,3],[1002,4007]],[.tmp 3],false⟩:=gK
theorem tf_68:gQ ⟨78,29,[(22,1)],[],[[1000001,5],[9010],[2003,11012],[5,11,13014],[2003,15016],[3,5,15,17019],[2,6,20024],[8,25],[7,26027],[7,26,28]],[.cell true 2 4,.tmp 5],false⟩:=gK
theorem tf_21:gQ ⟨80,90,[(26,1),(86,1)],[],[[1],[10013],[14],[],[18021],[6007,22027],[28],[15017,29],[32],[0,3,5,30031,33035],[31,37],[3,5,9,30,36,38047],[0,8,48055],[36,57],[0,3,5,30,56,58066],[56,68],[0,3,5,30,67,69074],[30,67,76],[0,3,5,75,77086],[0,3,5,75,87089]],[.cell true 4 4],false⟩:=gK
theorem tf_126:gQ ⟨112,62,[],[],[[0,2],[6014],[1,15],[2,15],[16019],[4005,21022],[20,23027],[28046],[1,3004,47],[2,47],[48049],[2,51052,61],[50,53060],[1,3005,61],[1,3]],[.tmp 2],false⟩:=gK
theorem tf_20:gQ ⟨135,100,[(28,1),(74,1),(82,1),(96,1)],[],[[1,5],[13016],[17],[],[21024],[8,25030],[10,31],[0,3,6007,9,18020,32033],[5,7,9,32,34037],[38],[18020,39],[42],[0,3,6,40041,43],[41,45],[3,6,40,44,46055],[12,56],[0,11,57058],[0,11,57,59067],[44,69],[0,3,6,40,68,70076],[68,78],[0,3,6,40,77,79084],[40,77,86],[0,3,6,85,87098],[0,3,6,85,99]],[.cell true 2 4,.tmp 5],false⟩:=gK
theorem tf_92:gQ ⟨136,6,[],[],[[1000001,4],[2003,5]],[.tmp 4],false⟩:=gK
theorem tf_71:gQ ⟨137,9,[],[],[[],[0,3008]],[.cell true 4 2],false⟩:=gK
theorem tf_85:gQ ⟨138,7,[],[],[[],[0,3006]],[.cell true 4 2],false⟩:=gK
theorem tf_91:gQ ⟨139,11,[],[],[[2],[],[0,4],[6],[7009],[3,5,10]],[.tmp 2],false⟩:=gK
theorem tf_73:gQ ⟨140,17,[],[],[[],[4007],[0,3,8016]],[.cell true 4 2],false⟩:=gK
theorem tf_94:gQ ⟨141,22,[],[],[[],[5],[],[7010],[4,11014],[0,3,6,15019],[0,6,20021]],[.cell true 4 2],false⟩:=gK
theorem tf_70:gQ ⟨142,20,[],[],[[4],[],[7],[],[9011],[12013],[1000001,5006,8,14015],[4,6,14,16017],[1000001,5,8,18019]],[.tmp 4],false⟩:=gK
theorem tf_74:gQ ⟨143,20,[],[],[[],[4007],[0,3,8019]],[.cell true 4 2],false⟩:=gK
theorem tf_75:gQ ⟨144,17,[],[],[[],[4007],[0,3,8016]],[.cell true 4 2],false⟩:=gK
theorem tf_76:gQ ⟨145,13,[],[],[[],[0,3012]],[.cell true 4 2],false⟩:=gK
theorem tf_82:gQ ⟨146,15,[],[],[[4],[1,6008],[9],[0,5,10],[0,5,10014]],[.tmp 4],false⟩:=gK
theorem tf_77:gQ ⟨147,9,[],[],[[],[0,3008]],[.cell true 4 2],false⟩:=gK
theorem tf_78:gQ ⟨148,9,[],[],[[],[0,3008]],[.cell true 4 2],false⟩:=gK
theorem tf_81:gQ ⟨150,19,[(12,1)],[],[[3],[4013],[0,14015],[0,14,16018]],[.cell true 2 2,.tmp 3],false⟩:=gK
theorem tf_79:gQ ⟨151,14,[],[],[[],[3006],[0,7010],[0,7,11013]],[.cell true 4 2],false⟩:=gK
theorem tf_80:gQ ⟨152,13,[],[],[[],[0,3012]],[.cell true 4 2],false⟩:=gK
theorem tf_72:gQ ⟨153,13,[],[],[[],[0,3012]],[.cell true 4 2],false⟩:=gK
theorem tf_83:gQ ⟨154,22,[(15,0),(16,0)],[],[[0],[],[6],[],[10012],[5,13017],[18],[3,7009,19020],[1,21]],[.cell true 4 2],false⟩:=gK
theorem tf_86:gQ ⟨155,55,[],[],[[1002],[],[9],[8,11],[10,13],[12,15],[16],[7,14,18],[0,17,19022],[4005,23028],[4005,29034],[0,4005,35041],[4005,42047],[0,4005,48051],[52053],[52,54]],[.cell true 4 6],false⟩:=gK
theorem tf_127:gQ ⟨171,21,[],[],[[0,2],[1,3020]],[.tmp 2],false⟩:=gK
theorem tf_87:gQ ⟨210,16,[],[],[[2],[0],[5],[6],[7],[8],[9],[3004,10011],[3004,13],[12,14015],[12]],[.tmp 2],false⟩:=gK
theorem tf_93:gQ ⟨211,26,[],[],[[5],[0],[],[11014],[6007,15020],[1002,8010,21022],[5,21,23],[1002,8010,24025]],[.cell true 2 4,.tmp 5],false⟩:=gK
theorem tf_69:gQ ⟨215,24,[],[],[[2],[0,3023]],[.tmp 2],false⟩:=gK
theorem tf_89:gQ ⟨216,27,[],[],[[4],[5017],[1000001,18021],[1000001,4,18,22025],[26],[26]],[.tmp 4],false⟩:=gK
theorem tf_90:gQ ⟨217,17,[],[],[[6],[7],[1000002,8],[0,6,8009],[1002,10013],[1002,10,14016]],[.tmp 6],false⟩:=gK
theorem tf_84:gQ ⟨218,28,[],[],[[4],[0],[7],[6,9],[8,11],[10,13],[5,12,15],[14,16],[1,17],[1,17019],[4,20],[1,21],[1,21023],[1,24025],[1,26027]],[.tmp 4],false⟩:=gK
theorem tf_129:gQ ⟨226,9,[],[],[[2],[0,3008]],[.tmp 2],false⟩:=gK
theorem tf_88:gQ ⟨251,7,[(6,1)],[],[[3],[0,4006]],[.cell true 2 2,.tmp 3],false⟩:=gK
noncomputable def funcs:Nat→Option SFunc
 |_=>none
end Go.Sh.Cd6
end

section
namespace Go.Proofs.YtcpaleaajdilgaaGreatDoor
open Go Go.RowKit Go.Mor Go.Sh Go.Sh.Cd1 Go.Sh.Cd6
def flR1(f:Fld):List PV:=[.v (.string (str f.n)),.v (.int .i64 f.t.k),.v (.int .i64 f.t.o),.v (.bool f.ix)]
def flR(l:List Fld):List (List PV):=l.map flR1
def flT(f:Fld):TV:=.agg [S (str f.n),I f.t.k,I f.t.o,.pv (.v (.bool f.ix))]
def clT(c:Cls):TV:=.agg [S (str c.n),.pv (.sl 4 (flR c.fs))]
theorem zhs(l:List Fld)(k:Nat):(flR l)[k]?=(l[k]?).map flR1:=by unfold flR;rw[List.getElem?_map]
theorem z3n(l:List Fld):(flR l).length=l.length:=by unfold flR;rw[List.length_map]
theorem clV:(type_of% @zhs)∧(type_of% @z3n)∧(type_of% @flR1.eq_1)∧(type_of% @flT.eq_1)∧(type_of% @clT.eq_1):=⟨@zhs,@z3n,@flR1.eq_1,@flT.eq_1,@clT.eq_1⟩
def z0t(s:zB):Prop:=s.length<4611686018427387904
structure ClsOk(c:Cls):Prop where
 n:z0t c.n
 fs:∀f∈c.fs,z0t f.n
 len:c.fs.length≤4611686018427387904
theorem z7V(g:Sh.Glob)(t:Ty):zC g 44 [tyT t] [] (B (zg t)) []:=by
 refine za tf_58 ?_;obtain⟨k,o⟩:=t;unfold B;simp only[vW,seval];unfold zg
 repeat' (first|(apply And.intro)|(intro _))
 all_goals(first|(simp_all;done)|(simp_all;omega))
theorem zjf(g:Sh.Glob)(f:Fld)(s:zB):zC g 72 [flT f,.ptr 1000 0] [.box [S (str s)]] (B (f.n==s)) [.box [S (str s)]]:=by
 refine zp tf_56 ?_;unfold B;simp only[vW,seval,clV]
theorem zfA(g:Sh.Glob)(l:List Fld)(s:zB)(hl:l.length≤maxLen):zC g 71 [.pv (.sl 4 (flR l)),.fn (.func 72) [] [.ptr 1000 0]] [.box [S (str s)]] (I (fieldAt l s)) [.box [S (str s)]]:=by
 refine zp tf_155 ?_;have hm:maxLen=9223372036854775807:=rfl;simp only[vW,seval,clV];refine zw (σ:={i:Nat // i≤l.length∧∀j x,j<i→l[j]?=some x→(x.n==s)=false}) (fun i=>⟨[(0,.pv (.sl 4 (flR l))),(1,.fn (.func 72) [] [.ptr 1000 0]),(7,I (l.length:Int)),(8,I (i.1:Int))],[(1000,[S (str s)])],[],[]⟩) (fun i=>l.length-i.1) ⟨0,Nat.zero_le _,fun j x hj=>by omega⟩ (z0Y (by simp[I,S])) ?_;rintro⟨i,hi,hno⟩;by_cases hlt:i<l.length
 ·have d1:(i:Int)<(l.length:Int):=by omega
  obtain⟨x,ex⟩:∃x,l[i]?=some x:=⟨_,gE hlt⟩
  have HN:=zjf g x s;have w1:=wS i;unfold flT B at HN;simp only[vW,seval,d1,ex,clV];(with_reducible apply zJ);exact kv;exact HN;rfl;exact kv;cases hp:(x.n==s)
  ·simp only[vW,seval,w1];refine zc ⟨i+1,by omega,fun j y hj hy=> ?_⟩ (by show l.length-(i+1)<l.length-i;omega) ?_
   ·by_cases hji:j=i
    ·subst hji;rw[ex]at hy;cases hy;exact hp
    ·exact hno j y (by omega) hy
   ·exact lwA
  ·simp only[vW,seval];unfold fieldAt;rw[z38 (fun f=>f.n==s) l i hno x ex hp]
 ·have d1:¬(i:Int)<(l.length:Int):=by omega
  simp only[vW,seval,d1];unfold fieldAt;rw[z39 (fun f=>f.n==s) l (fun x hx=>by
   obtain⟨j,hj⟩:=List.getElem?_of_mem hx;exact hno j x (by have:=(gJ hj).1;omega) hj)]
def z1V(l:List Fld)(s:zB):TV:=if fieldAt l s<0 then .tuple [I 0,B false] else .tuple [I (fieldAt l s),B true]
theorem z5G(g:Sh.Glob)(c:Cls)(s:zB)(hl:c.fs.length≤4611686018427387904):zC g 34 [clT c,S (str s)] [] (z1V c.fs s) []:=by
 have HI:=zfA g c.fs s (by unfold maxLen;omega);unfold z1V;refine za tf_55 ?_;by_cases h:fieldAt c.fs s<0
 ·rw[if_pos h];simp only[vW,seval,clV];refine z7 HI ?_;simp only[vW,seval,h,B]
 ·rw[if_neg h];simp only[vW,seval,clV];refine z7 HI ?_;simp only[vW,seval,h,B]
theorem zd9(g:Sh.Glob)(f:Fld)(hf:z0t f.n):zC g 70 [flT f] [] (B (zG f)) []:=by
 have HN:=z5R g f.n hf;have HT:=z7V g f.t;unfold zG;refine za tf_60 ?_;unfold B at*;simp only[vW,seval,clV];refine z7 HN ?_;cases h1:zb f.n
 ·simp only[vW,seval]
 ·simp only[vW,seval];refine z7 HT ?_;cases h2:zg f.t
  ·simp only[vW,seval]
  ·cases h3:f.ix
   ·simp only[vW,seval,h3];rfl
   ·simp only[vW,seval,h3]
theorem z8w{all:List Fld}{k:Nat}{f:Fld}{r:List Fld}:z2U all k (f::r)=(zG f&&fieldAt all f.n==k&&z2U all (k+1) r):=rfl
theorem zfv{l:List Fld}{f:Fld}(h:f∈l):¬fieldAt l f.n<0:=by
 unfold fieldAt;rw[z6w];intro hn;have:=hn f h;simp at this
theorem z28(g:Sh.Glob)(c:Cls)(hc:ClsOk c):zC g 33 [clT c] [] (B (zn c)) []:=by
 have HN:=z5R g c.n hc.n;have hlen:=hc.len;obtain⟨R,hR⟩:∃R,zn c=R:=⟨_,rfl⟩
 rw[hR];unfold zn at hR;refine za tf_57 ?_;unfold B at*;simp only[vW,seval,clV];refine z7 HN ?_;cases h1:zb c.n
 ·rw[h1]at hR;subst hR;simp only[vW,seval]
 rw[h1,Bool.true_and]at hR;by_cases h8:c.fs.length≤8
 ·rw[decide_eq_true h8,Bool.true_and]at hR;have d8:¬(8:Int)<(c.fs.length:Int):=by omega
  simp only[vW,seval,d8,clV];refine zw (σ:={k:Nat // k≤c.fs.length∧z2U c.fs k (c.fs.drop k)=R}) (fun k=>⟨[(18,.pv (.sl 4 (flR c.fs))),(19,I (c.fs.length:Int)),(20,I (k.1:Int)),(1,.ptr 1 0)],[(1,[S (str c.n),.pv (.sl 4 (flR c.fs))])],[],[]⟩) (fun k=>c.fs.length-k.1) ⟨0,Nat.zero_le _,by simpa using hR⟩ ?_ ?_
  ·exact lwA
  rintro⟨k,hk,hT⟩;by_cases hlt:k<c.fs.length
  ·have d1:(k:Int)<(c.fs.length:Int):=by omega
   obtain⟨f,ef⟩:∃f,c.fs[k]?=some f:=⟨_,gE hlt⟩
   have hmem:=gM ef;have HF:=zd9 g f (hc.fs f hmem);have HA:=z5G g c f.n hlen;have hne:=zfv hmem;have w1:=wS k;have hdr:c.fs.drop k=f::c.fs.drop (k+1):=by
    rw[List.drop_eq_getElem_cons hlt];congr 1;rw[gE hlt]at ef;exact Option.some.inj ef
   rw[hdr,z8w]at hT;unfold z1V at HA;rw[if_neg hne]at HA;unfold flT clT B at*;simp only[vW,seval,d1,ef,clV];refine z7 HF ?_;cases h2:zG f
   ·rw[h2]at hT;subst hT;simp only[vW,seval]
   rw[h2,Bool.true_and]at hT;simp only[vW,seval];refine z7 HA ?_;by_cases hat:fieldAt c.fs f.n=(k:Int)
   ·have hb:(fieldAt c.fs f.n==(k:Int))=true:=by simpa using hat
    rw[hb,Bool.true_and]at hT;simp only[vW,seval,hat,w1];refine zc ⟨k+1,hlt,hT⟩ (by show c.fs.length-(k+1)<c.fs.length-k;omega) ?_;exact lwA
   ·have hb:(fieldAt c.fs f.n==(k:Int))=false:=by simpa using hat
    rw[hb]at hT;subst hT;simp only[vW,seval,hat]
  ·have d1:¬(k:Int)<(c.fs.length:Int):=by omega
   have hdr:c.fs.drop k=[]:=List.drop_eq_nil_of_le (by omega);rw[hdr]at hT;simp only[vW,seval,d1];rw[←hT];rfl
 ·rw[decide_eq_false h8]at hR;subst hR;have d8:(8:Int)<(c.fs.length:Int):=by omega
  simp only[vW,seval,d8,clV]
def z5D(r:Int×Int):TV:=.tuple [I r.1,I r.2]
theorem z7R(m:Nat)(c:Cls)(vs:List V)(hc:ClsOk c)(hv:∀x∈vs,VOk x∧x.l.length≤maxLen)(hl:vs.length≤4611686018427387904):zC (gl0 m) 19 [clT c,.pv (.sl 4 (V.rows vs))] [] (z5D (z1Z c vs)) []:=by
 have HR:=z28 (gl0 m) c hc;have hlen:=hc.len;obtain⟨R,hR⟩:∃R,z1Z c vs=R:=⟨_,rfl⟩
 rw[hR];unfold z1Z at hR;refine za tf_54 ?_;unfold z5D clT B at*;simp only[vW,seval,clV];refine z7 HR ?_;cases h1:zn c
 ·rw[h1]at hR;simp at hR;subst hR;simp only[vW,seval]
 rw[h1]at hR;simp only[Bool.not_true,Bool.false_eq_true,if_false]at hR;by_cases h2:vs.length=c.fs.length
 ·have d2:(vs.length:Int)=(c.fs.length:Int):=by omega
  rw[if_neg (by simpa using h2)]at hR;simp only[vW,seval,d2,clV];refine zw (σ:={k:Nat // k≤c.fs.length∧z2w k (c.fs.drop k) (vs.drop k)=R}) (fun k=>⟨[(1,.pv (.sl 4 (V.rows vs))),(24,.pv (.sl 4 (flR c.fs))),(25,I (c.fs.length:Int)),(26,I (k.1:Int))],[(2,[S (str c.n),.pv (.sl 4 (flR c.fs))])],[],[]⟩) (fun k=>c.fs.length-k.1) ⟨0,Nat.zero_le _,by simpa using hR⟩ ?_ ?_
  ·exact lwA
  rintro⟨k,hk,hT⟩;by_cases hlt:k<c.fs.length
  ·have d1:(k:Int)<(c.fs.length:Int):=by omega
   obtain⟨f,ef⟩:∃f,c.fs[k]?=some f:=⟨_,gE hlt⟩
   have hlt2:k<vs.length:=by omega
   obtain⟨v,ev⟩:∃v,vs[k]?=some v:=⟨_,gE hlt2⟩
   obtain⟨hv1,hv2⟩:=hv v (gM ev);have HF:=zlv m v f.t hv1 hv2;have w1:=wS k;have hdr:c.fs.drop k=f::c.fs.drop (k+1):=by
    rw[List.drop_eq_getElem_cons hlt];congr 1;rw[gE hlt]at ef;exact Option.some.inj ef
   have hdv:vs.drop k=v::vs.drop (k+1):=by
    rw[List.drop_eq_getElem_cons hlt2];congr 1;rw[gE hlt2]at ev;exact Option.some.inj ev
   rw[hdr,hdv,z2w]at hT;unfold B at HF;simp only[vW,seval,d1,ef,ev,clV];refine z7 HF ?_;cases h3:zD v f.t
   ·rw[h3]at hT;simp only[Bool.false_eq_true,if_false]at hT;subst hT;simp only[vW,seval]
   ·rw[h3]at hT;simp only[if_true]at hT;simp only[vW,seval,w1];refine zc ⟨k+1,hlt,hT⟩ (by show c.fs.length-(k+1)<c.fs.length-k;omega) ?_;exact lwA
  ·have d1:¬(k:Int)<(c.fs.length:Int):=by omega
   have hdr:c.fs.drop k=[]:=List.drop_eq_nil_of_le (by omega);rw[hdr,z2w]at hT;subst hT;simp only[vW,seval,d1]
 ·have d2:¬(vs.length:Int)=(c.fs.length:Int):=by omega
  rw[if_pos h2]at hR;subst hR;have hmin:min (vs.length:Int) (c.fs.length:Int)=((min vs.length c.fs.length:Nat):Int):=by omega
  simp only[vW,seval,d2,hmin,clV]
theorem z3G(g:Sh.Glob)(c:Cls)(s:zB)(hl:c.fs.length≤4611686018427387904):zC g 46 [clT c,S (str s)] [] (z1V c.fs s) []:=by
 unfold z1V;refine za tf_124 ?_;simp only[vW,seval,clV];refine zw (σ:={i:Nat // i≤c.fs.length∧∀j x,j<i→c.fs[j]?=some x→(x.n==s)=false}) (fun i=>⟨[(1,S (str s)),(6,I (i.1:Int)),(2,.ptr 2 0)],[(2,[S (str c.n),.pv (.sl 4 (flR c.fs))])],[],[]⟩) (fun i=>c.fs.length-i.1) ⟨0,Nat.zero_le _,fun j x hj=>by omega⟩ ?_ ?_
 ·exact lwA
 rintro⟨i,hi,hno⟩;by_cases hlt:i<c.fs.length
 ·have d1:(i:Int)<(c.fs.length:Int):=by omega
  obtain⟨x,ex⟩:∃x,c.fs[i]?=some x:=⟨_,gE hlt⟩
  have w1:=wS i;cases hp:(x.n==s)
  ·simp only[vW,seval,d1,ex,hp,w1,clV];refine zc ⟨i+1,by omega,fun j y hj hy=> ?_⟩ (by show c.fs.length-(i+1)<c.fs.length-i;omega) ?_
   ·by_cases hji:j=i
    ·subst hji;rw[ex]at hy;cases hy;exact hp
    ·exact hno j y (by omega) hy
   ·exact lwA
  ·have hf:fieldAt c.fs s=(i:Int):=z38 (fun f:Fld=>f.n==s) c.fs i hno x ex hp;rw[hf,if_neg (by omega)];simp only[vW,seval,d1,ex,hp,clV];rfl
 ·have d1:¬(i:Int)<(c.fs.length:Int):=by omega
  have hf:fieldAt c.fs s= -1:=z39 (fun f:Fld=>f.n==s) c.fs (fun x hx=>by
   obtain⟨j,hj⟩:=List.getElem?_of_mem hx;exact hno j x (by have:=(gJ hj).1;omega) hj)
  rw[hf,if_pos (by omega)];simp only[vW,seval,d1,clV];rfl
end Go.Proofs.YtcpaleaajdilgaaGreatDoor
end

section
namespace Go.Mor
open Go
structure Sgn(g:zB):Prop where
 pos:1≤g.length
 le:g.length≤4
 dec:∀t,Lib.decodeL (g++t)=((Lib.decodeL g).1,g.length)
 rl:Lib.runeLen ((Lib.decodeL g).1:Int)=(g.length:Int)
 ok:¬((Lib.decodeL g).1=65533∧g.length=1)
 hd:(g.getD 0 0).toNat<128∨192≤(g.getD 0 0).toNat
 tl:∀c∈g.drop 1,128≤c.toNat∧c.toNat<192
 pl:z3F (Lib.decodeL g).1=true
theorem zqO{b c:UInt8}(h0:¬b.toNat<128)(h1:b.toNat / 32=6)(h2:c.toNat / 64=2)(hr:b.toNat%32*64+c.toNat%64≥128)(t:zB):Lib.decodeL (b::c::t)=(b.toNat%32*64+c.toNat%64,2):=by
 rw[Lib.decodeL_N]
 grind [Lib.decodeN]
theorem zqP{b c d:UInt8}(h0:¬b.toNat<128)(h1:b.toNat / 16=14)(h2:c.toNat / 64=2)(h3:d.toNat / 64=2)
  (hr:b.toNat%16*4096+c.toNat%64*64+d.toNat%64≥2048∧(b.toNat%16*4096+c.toNat%64*64+d.toNat%64<55296∨(57344≤b.toNat%16*4096+c.toNat%64*64+d.toNat%64∧b.toNat%16*4096+c.toNat%64*64+d.toNat%64≤1114111))) (t:zB):
  Lib.decodeL (b::c::d::t)=(b.toNat%16*4096+c.toNat%64*64+d.toNat%64,3):=by
 rw[Lib.decodeL_N]
 grind [Lib.decodeN]
theorem zqQ{b c d e:UInt8}(h0:¬b.toNat<128)(h1:b.toNat / 8=30)(h2:c.toNat / 64=2)(h3:d.toNat / 64=2)(h4:e.toNat / 64=2)
  (hr:b.toNat%8*262144+c.toNat%64*4096+d.toNat%64*64+e.toNat%64≥65536∧(b.toNat%8*262144+c.toNat%64*4096+d.toNat%64*64+e.toNat%64<55296∨(57344≤b.toNat%8*262144+c.toNat%64*4096+d.toNat%64*64+e.toNat%64∧b.toNat%8*262144+c.toNat%64*4096+d.toNat%64*64+e.toNat%64≤1114111))) (t:zB):
  Lib.decodeL (b::c::d::e::t)=(b.toNat%8*262144+c.toNat%64*4096+d.toNat%64*64+e.toNat%64,4):=by
 rw[Lib.decodeL_N]
 grind [Lib.decodeN]
theorem zdw{n:Nat}{k:Int}(h:(n<128∧k=1)∨(128≤n∧n<2048∧k=2)∨(2048≤n∧(n<55296∨57344≤n)∧n<65536∧k=3)∨(65536≤n∧n≤1114111∧k=4)):Lib.runeLen (n:Int)=k:=by
 grind [Lib.runeLen]
theorem zpB{r:zB}(h:1≤r.length):∃c t,r=c::t:=by
 match r,h with
 |c::t,_=>simp
theorem zq9{r:zB}(h:2≤r.length):∃c d t,r=c::d::t:=by
 match r,h with
 |c::d::t,_=>simp
theorem zmt{r:zB}(h:3≤r.length):∃c d e t,r=c::d::e::t:=by
 match r,h with
 |c::d::e::t,_=>simp
theorem zkp{l:zB}(hne:l≠[])(hv:¬((Lib.decodeL l).1=65533∧(Lib.decodeL l).2=1))(hp:z3F (Lib.decodeL l).1=true):Sgn (l.take (Lib.decodeL l).2):=by
 obtain⟨b,r,rfl⟩:=List.exists_cons_of_ne_nil hne;have hN:=Lib.decodeL_N (b::r);unfold Lib.decodeN at hN;by_cases h0:b.toNat<128
 ·have hd:=fun t=>Lib.decodeL_ascii b t h0;rw[hd]at hp hv ⊢;rw[List.take_succ_cons,List.take_zero];exact⟨by simp,by simp,fun t=>by rw[List.singleton_append,hd,hd];rfl,by rw[hd];exact zdw (.inl ⟨h0,rfl⟩),by rw[hd];simp;omega,.inl h0,by simp,by rw[hd];exact hp⟩
 ·simp only[List.getD_cons_zero,if_neg h0,List.getD_cons_succ,List.length_cons]at hN;split at hN
  ·rename_i h1;split at hN
   ·rename_i h2;obtain⟨c,t,rfl⟩:=zpB (r:=r) (by omega)
    ·simp only[List.getD_cons_zero]at h1 h2;have hd:=fun t=>zqO h0 h1.1 h1.2.2 h2 t;rw[hd]at hp hv ⊢;simp;refine⟨by simp,by simp,fun t=> ?_,by rw[hd];exact zdw (.inr (.inl ⟨h2,by omega,rfl⟩)),by simp,.inr (by grind),?_,by rw[hd];exact hp⟩
     ·grind
     ·grind
   ·grind
  split at hN
  ·rename_i h1;split at hN
   ·rename_i h2;obtain⟨c,d,t,rfl⟩:=zq9 (r:=r) (by omega)
    ·simp only[List.getD_cons_zero,List.getD_cons_succ]at h1 h2;have hd:=fun t=>zqP h0 h1.1 h1.2.1.2 h1.2.2.2 h2 t;rw[hd]at hp hv ⊢;simp;refine⟨by simp,by simp,fun t=> ?_,by rw[hd];exact zdw (.inr (.inr (.inl ⟨h2.1,by omega,by omega,rfl⟩))),by simp,.inr (by grind),?_,by rw[hd];exact hp⟩
     ·grind
     ·grind
   ·grind
  split at hN
  ·rename_i h1;split at hN
   ·rename_i h2;obtain⟨c,d,e,t,rfl⟩:=zmt (r:=r) (by omega)
    ·simp only[List.getD_cons_zero,List.getD_cons_succ]at h1 h2;have hd:=fun t=>zqQ h0 h1.1 h1.2.1.2 h1.2.2.1.2 h1.2.2.2.2 h2 t;rw[hd]at hp hv ⊢;simp;refine⟨by simp,by simp,fun t=> ?_,by rw[hd];exact zdw (.inr (.inr (.inr ⟨h2.1,by omega,rfl⟩))),by simp,.inr (by grind),?_,by rw[hd];exact hp⟩
     ·grind
     ·grind
   ·grind
  ·grind
theorem Sgn.ne{g:zB}(h:Sgn g):g≠[]:=by intro e;have:=h.pos;rw[e]at this;simp at this
def Txt(gs:List (zB)):Prop:=∀g∈gs,Sgn g
theorem Txt.tail{g:zB}{gs:List (zB)}(h:Txt (g::gs)):Txt gs:=fun x hx=>h x (List.mem_cons_of_mem _ hx)
theorem Txt.head{g:zB}{gs:List (zB)}(h:Txt (g::gs)):Sgn g:=h g (List.mem_cons_self ..)
theorem Txt.take{gs:List (zB)}(h:Txt gs)(n:Nat):Txt (gs.take n):=fun x hx=>h x (List.mem_of_mem_take hx)
theorem Txt.drop{gs:List (zB)}(h:Txt gs)(n:Nat):Txt (gs.drop n):=fun x hx=>h x (List.mem_of_mem_drop hx)
theorem Txt.app{gs hs:List (zB)}(h:Txt gs)(h':Txt hs):Txt (gs++hs):=fun x hx=>(List.mem_append.1 hx).elim (h x) (h' x)
theorem zkA:∀(n:Nat) (s:zB),s.length≤n→Lib.validD s=true→z2V s=true→∃gs,Txt gs∧gs.flatten=s
 |0,s,h,_,_=>by
  obtain rfl:=List.eq_nil_of_length_eq_zero (Nat.le_zero.1 h);exact⟨[],by intro g hg;simp at hg,rfl⟩
 |n+1,s,h,hv,hp=>by
  by_cases hne:s=[]
  ·subst hne;exact⟨[],by intro g hg;simp at hg,rfl⟩
  rw[Lib.validD_step s hne]at hv;rw[z4R s hne,Bool.and_eq_true]at hp;split at hv
  ·cases hv
  ·rename_i hok;have hw:=Lib.decodeL_width s;obtain⟨gs,h1,h2⟩:=zkA n (s.drop (Lib.decodeL s).2) (by grind) hv hp.2;refine⟨s.take (Lib.decodeL s).2::gs,fun g hg=> ?_,by rw[List.flatten_cons,h2,List.take_append_drop]⟩;rcases List.mem_cons.1 hg with rfl|hg
   ·grind [zkp]
   ·exact h1 g hg
theorem zc2{g:zB}{gs:List (zB)}(h:Txt (g::gs)):Lib.decodeL (g::gs).flatten=((Lib.decodeL g).1,g.length):=by rw[List.flatten_cons];exact h.head.dec _
theorem z9c{g:zB}{gs:List (zB)}(h:Txt (g::gs)):(g::gs).flatten≠[]:=by
 rw[List.flatten_cons];intro e;exact h.head.ne (List.append_eq_nil_iff.1 e).1
theorem zcv{g:zB}{gs:List (zB)}:((g::gs).flatten).drop g.length=gs.flatten:=by simp
theorem zcT:∀(gs:List (zB)),Txt gs→Lib.validD gs.flatten=true∧z2V gs.flatten=true
 |[],_=>⟨rfl,rfl⟩
 |g::gs,h=>by
  obtain⟨h1,h2⟩:=zcT gs h.tail;rw[Lib.validD_step _ (z9c h),z4R _ (z9c h),zc2 h];simp only[zcv];rw[if_neg h.head.ok,h1,h2,h.head.pl];simp
theorem zkB{gs:List (zB)}(h:Txt gs)(hl:gs.flatten.length≤60):zh gs.flatten=true:=by
 grind [zcT,zh]
theorem z55{s:zB}(h:zh s=true):∃gs,Txt gs∧gs.flatten=s∧s.length≤60:=by
 unfold zh at h;rw[Bool.and_eq_true,Bool.and_eq_true,decide_eq_true_eq]at h;obtain⟨gs,h1,h2⟩:=zkA s.length s (Nat.le_refl _) h.2.1 h.2.2
 grind
theorem z4u:∀(gs:List (zB)),Txt gs→gs.length≤gs.flatten.length
 |[],_=>by simp
 |g::gs,h=>by
  have:=z4u gs h.tail;have:=h.head.pos
  grind
theorem zcd:∀(gs:List (zB)) (f a k:Nat) (n:Int),Txt gs→gs.flatten.length≤f→z48 f gs.flatten a k n=a+(gs.take (n-k).toNat).flatten.length
 |[],f,a,k,n,_,_=>by cases f<;>simp[z48]
 |g::gs,f,a,k,n,h,hf=>by
  have hp:=h.head.pos;rw[List.flatten_cons,List.length_append]at hf;obtain⟨j,rfl⟩:∃j,f=j+1:=⟨f-1,by omega⟩
  rw[z48,if_neg (z9c h),zc2 h];simp only[zcv];by_cases hk:n≤(k:Int)
  ·simp_all
  ·rw[if_neg hk,zcd gs j _ (k+1) n h.tail (by omega),show(n-(k:Int)).toNat=(n-((k+1:Nat):Int)).toNat+1 by omega,List.take_succ_cons,List.flatten_cons,List.length_append];omega
theorem zfZ{gs:List (zB)}(h:Txt gs)(n:Int):z1J gs.flatten n=(gs.take n.toNat).flatten.length:=by
 unfold z1J;rw[zcd gs _ 0 0 n h (Nat.le_refl _)];simp
theorem z5k(gs:List (zB))(n:Nat):gs.flatten=(gs.take n).flatten++(gs.drop n).flatten:=by
 rw[←List.flatten_append,List.take_append_drop]
theorem zms{gs:List (zB)}(h:Txt gs)(n:Int):gs.flatten.take (z1J gs.flatten n)=(gs.take n.toNat).flatten:=by
 grind [zfZ,z5k,List.take_left]
theorem zlp{gs:List (zB)}(h:Txt gs)(n:Int):gs.flatten.drop (z1J gs.flatten n)=(gs.drop n.toNat).flatten:=by
 grind [zfZ,z5k,List.drop_left]
theorem zcm:∀(gs:List (zB)) (f a:Nat),Txt gs→gs.flatten.length≤f→a≤60→∃k,k≤gs.length∧z4b f gs.flatten a=a+(gs.take k).flatten.length∧a+(gs.take k).flatten.length≤60∧(k=gs.length∨60<a+(gs.take (k+1)).flatten.length)
 |[],f,a,_,_,ha=>⟨0,by simp,by cases f<;>simp[z4b],by simpa using ha,.inl rfl⟩
 |g::gs,f,a,h,hf,ha=>by
  have hp:=h.head.pos;rw[List.flatten_cons,List.length_append]at hf;obtain⟨j,rfl⟩:∃j,f=j+1:=⟨f-1,by omega⟩
  rw[z4b,if_neg (z9c h),zc2 h];rw[h.head.rl];by_cases hk:(60:Int)<(a:Int)+(g.length:Int)
  ·rw[if_pos hk];refine⟨0,by simp,by simp,by simpa using ha,.inr ?_⟩
   grind
  ·rw[if_neg hk];obtain⟨k,h1,h2,h3,h4⟩:=zcm gs j (a+g.length) h.tail (by omega) (by omega);refine⟨k+1,by simpa using h1,?_,?_,?_⟩
   ·grind
   ·grind
   ·grind
theorem zgh{gs:List (zB)}(h:Txt gs):∃k,k≤gs.length∧z59 gs.flatten=(gs.take k).flatten∧(gs.take k).flatten.length≤60∧(k=gs.length∨60<(gs.take (k+1)).flatten.length):=by
 obtain⟨k,h1,h2,h3,h4⟩:=zcm gs _ 0 h (Nat.le_refl _) (by omega)
 grind [z59,z5k,List.take_left]
theorem zf8(gs:List (zB))(k:Nat):(gs.take k).flatten.length≤gs.flatten.length:=by
 grind [List.length,z5k,List.length_append]
theorem zp0{gs:List (zB)}(h:Txt gs)(hl:gs.flatten.length≤60):z59 gs.flatten=gs.flatten:=by
 grind [zgh,List.take_length,zf8]
theorem z5Z{gs:List (zB)}(h:Txt gs):zh (z59 gs.flatten)=true:=by
 obtain⟨k,h1,h2,h3,_⟩:=zgh h;rw[h2];exact zkB (h.take k) h3
theorem zdV{s:zB}(h:zh s=true):z59 s=s:=by
 grind [z55,zp0]
theorem zko{b:UInt8}(h0:32≤b.toNat)(h1:b.toNat<127):Sgn [b]:=by
 grind [Lib.decodeL_ascii,z3F,zkp]
theorem zkz{s:zB}(h:∀b∈s,32≤b.toNat∧b.toNat<127):Txt (s.map fun b=>[b])∧(s.map fun b=>[b]).flatten=s:=by
 refine⟨fun g hg=> ?_,?_⟩
 ·grind [zko]
 ·induction s<;>simp_all
end Go.Mor
end
