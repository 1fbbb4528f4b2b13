/- Merged texts: PCls Pz1 Pe1 PVals PrT RegIn PrE Cd6 Zg1 Pe2 Pe3 Pe9 S26 Zg2 Bb Vf Zw1 Zy2 Zg3 Zg4 S27. No statement of the program is proved here. -/
import Derived.Test.YtcpaleaajdilgaaGreatDoorM1
import Derived.Test.YtcpaleaajdilgaaGreatDoorM2
import Derived.Test.YtcpaleaajdilgaaGreatDoorM3
import Derived.Test.YtcpaleaajdilgaaGreatDoorM4
import Derived.Test.YtcpaleaajdilgaaGreatDoorM5
import Derived.Test.YtcpaleaajdilgaaGreatDoorM6
import Derived.Lib.AtoiAll
import Derived.Lib.Small
import Derived.Lib.Index
import Derived.Lib.SmallJoins
import Derived.StillTailTactics
import Derived.TacticsIn
import Derived.RangeFuncCalls
import Derived.Lib.ItoaMem
import Derived.Shelf.Strconv.AtoiAll
import Derived.Lib.AtoiAllCases
import Derived.Lib.AtoiErrMem
set_option linter.unusedSimpArgs false
set_option linter.unusedVariables false
set_option maxRecDepth 100000
set_option maxHeartbeats 8000000
section
namespace Go.Mor
open Go Go.RowKit
def pick(c n:Int):Int:=(if c<0 then -(c+1)else c)%n
theorem z25(c n:Int)(hn:0<n):0≤pick c n∧pick c n<n:=⟨Int.emod_nonneg _ (by omega),Int.emod_lt_of_pos _ hn⟩
structure RawF where
 n:Int
 k:Int
 o:Int
 ix:Bool
structure Raw where
 n:Int
 fs:List RawF
def nmF(i:Int):zB:=([[97],[98,50],[110,97,109,101],[110,101,120,116,95,111,110,101],[107,105,100,115],[120]]:List (zB)).getD i.toNat []
def nmC(i:Int):zB:=([[110,111,100,101],[105,116,101,109],[117,115,101,114],[112,97,103,101,95,49],[108,101,97,102],[113]]:List (zB)).getD i.toNat []
def z134(r:RawF):Fld:=⟨nmF (pick r.n 6),⟨1+pick r.k 5,if pick r.k 5=4 then 1+pick r.o 4 else 0⟩,r.ix&&decide (1+pick r.k 5≤3)⟩
def addF(acc:List Fld)(r:RawF):List Fld:=if fieldAt acc (z134 r).n<0 then acc++[z134 r] else acc
def z52(x:Raw):Cls:=⟨nmC (pick x.n 6),(x.fs.take 6).foldl addF []⟩
theorem firstAt_eq{α:Type}(p:α→Bool)(l:List α)(k:Nat)(x:α)(hx:l[k]?=some x)(hp:p x=true)(h:∀(i:Nat) y,i<k→l[i]?=some y→p y=false):z54 p l=k:=by
 have:l.findIdx? p=some k:=by
  grind [List.findIdx?_eq_some_iff_getElem,List.getElem?_eq_some_iff,List.getElem?_eq_getElem]
 simp[z54,this]
theorem z135{α:Type}(p:α→Bool)(l:List α)(k:Nat)(h:z54 p l=k):∃x,l[k]?=some x∧p x=true:=by
 grind [z54,List.findIdx?_eq_some_iff_getElem,List.getElem?_eq_getElem]
theorem firstAt_neg{α:Type}(p:α→Bool)(l:List α):z54 p l<0 ↔ ∀x∈l,p x=false:=by
 grind [z54,List.findIdx?_eq_none_iff,List.findIdx?_eq_some_iff_getElem,List.getElem_mem]
def Dist(l:List Fld):Prop:=∀(i j:Nat) (f g:Fld),l[i]?=some f→l[j]?=some g→f.n=g.n→i=j
theorem onceGo_iff(all:List Fld):∀(r:List Fld) (k:Nat),onceGo all k r=true ↔ ∀(i:Nat) f,r[i]?=some f→z26 f=true∧fieldAt all f.n=((k+i:Nat):Int):=by
 intro r
 induction r with
 |nil=>grind [onceGo]
 |cons g r ih=>
  intro k;rw[onceGo,Bool.and_eq_true,Bool.and_eq_true,ih (k+1)];constructor
  ·grind
  ·intro h;have h0:=h 0 g (by simp);refine⟨⟨h0.1,by simpa using h0.2⟩,fun i f hf=> ?_⟩;have:=h (i+1) f (by grind)
   grind
theorem dist_at{l:List Fld}(h:Dist l){i:Nat}{f:Fld}(hf:l[i]?=some f):fieldAt l f.n=i:=by
 refine firstAt_eq _ l i f hf (by simp) fun j y hj hy=> ?_;rw[beq_eq_false_iff_ne];intro he;have:=h j i y f hy hf he;omega
theorem z99(c:Cls):z19 c=true ↔ z11 c.n=true∧c.fs.length≤8∧(∀f∈c.fs,z26 f=true)∧Dist c.fs:=by
 rw[z19,Bool.and_eq_true,Bool.and_eq_true,onceGo_iff,decide_eq_true_iff];constructor
 ·rintro⟨⟨h1,h2⟩,h3⟩;refine⟨h1,h2,fun f hf=> ?_,fun i j f g hi hj he=> ?_⟩
  ·grind [List.getElem?_of_mem]
  ·grind
 ·grind [List.mem_of_getElem?,dist_at]
theorem nmF_right(j:Int)(h0:0≤j)(h1:j<6):z11 (nmF j)=true∧(nmF j).length≤8:=by
 have:j=0∨j=1∨j=2∨j=3∨j=4∨j=5:=by omega
 rcases this with rfl|rfl|rfl|rfl|rfl|rfl<;>decide
theorem nmC_right(j:Int)(h0:0≤j)(h1:j<6):z11 (nmC j)=true∧(nmC j).length≤8:=by
 have:j=0∨j=1∨j=2∨j=3∨j=4∨j=5:=by omega
 rcases this with rfl|rfl|rfl|rfl|rfl|rfl<;>decide
theorem fieldOf_right(r:RawF):z26 (z134 r)=true∧(z134 r).n.length≤8:=by
 have h1:=z25 r.n 6 (by omega);have h2:=z25 r.k 5 (by omega);have h3:=z25 r.o 4 (by omega);have h4:=nmF_right _ h1.1 h1.2;refine⟨?_,h4.2⟩;simp only[z26,z134,h4.1,Bool.true_and,Bool.and_eq_true]
 grind [z16]
theorem dist_snoc{l:List Fld}{f:Fld}(h:Dist l)(hn:fieldAt l f.n<0):Dist (l++[f]):=by
 have hno:=(firstAt_neg _ _).1 hn;intro i j a b ha hb he;rw[List.getElem?_append]at ha hb;split at ha<;>split at hb
 ·exact h i j a b ha hb he
 ·grind
 ·grind
 ·grind
theorem fold_good:∀(rs:List RawF) (acc:List Fld),(∀f∈acc,z26 f=true∧f.n.length≤8)→Dist acc→
  (∀f∈rs.foldl addF acc,z26 f=true∧f.n.length≤8)∧Dist (rs.foldl addF acc)∧(rs.foldl addF acc).length≤acc.length+rs.length:=by
 intro rs
 induction rs with
 |nil=>intro acc h1 h2;exact⟨h1,h2,by simp⟩
 |cons r rs ih=>
  intro acc h1 h2;rw[List.foldl_cons];by_cases hn:fieldAt acc (z134 r).n<0
  ·have:addF acc r=acc++[z134 r]:=by rw[addF,if_pos hn]
   rw[this];have:=ih (acc++[z134 r]) (fun f hf=>by
    rcases List.mem_append.1 hf with hf|hf
    ·exact h1 f hf
    ·obtain rfl:=List.mem_singleton.1 hf;exact fieldOf_right r) (dist_snoc h2 hn)
   refine⟨this.1,this.2.1,?_⟩;simp at this ⊢;omega
  ·have:addF acc r=acc:=by rw[addF,if_neg hn]
   rw[this];have:=ih acc h1 h2;refine⟨this.1,this.2.1,?_⟩;simp at this ⊢;omega
structure GoodC(c:Cls):Prop where
 nm:z11 c.n=true∧c.n.length≤8
 fs:∀f∈c.fs,z26 f=true∧f.n.length≤8
 di:Dist c.fs
 len:c.fs.length≤6
theorem classOf_good(x:Raw):GoodC (z52 x):=by
 have h:=fold_good (x.fs.take 6) [] (by simp) (by intro i j f g h;simp at h);have hb:=z25 x.n 6 (by omega);exact⟨nmC_right _ hb.1 hb.2,h.1,h.2.1,by have:=h.2.2;simp only[z52];simp at this ⊢;omega⟩
theorem GoodC.right{c:Cls}(h:GoodC c):z19 c=true:=(z99 c).2 ⟨h.nm.1,by have:=h.len;omega,fun f hf=>(h.fs f hf).1,h.di⟩
end Go.Mor
end

section
namespace Go.Proofs.YtcpaleaajdilgaaGreatDoor
open Go Go.Mor
structure Tri(p q r:Int):Prop where
 a: -1≤p∧p≤1
 b: -1≤q∧q≤1
 c: -1≤r∧r≤1
 d:p=0→r=q
 e:q=0→r=p
 f:p= -1→q= -1→r= -1
 g:p=1→q=1→r=1
theorem Tri.lex{p q r p' q' r':Int}(h:Tri p q r)(h':Tri p' q' r'):Tri (thenI p p') (thenI q q') (thenI r r'):=by
 obtain⟨a,b,c,d,e,f,g⟩:=h;obtain⟨a',b',c',d',e',f',g'⟩:=h';unfold thenI;constructor<;>(repeat' split)<;>omega
theorem ordI_anti(a b:Int):ordI b a= -ordI a b:=by
 grind [ordI]
def lexB:zB→zB→Int
 |[],[]=>0
 |[],_::_=> -1
 |_::_,[]=>1
 |a::x,b::y=>thenI (ordI a.toNat b.toNat) (lexB x y)
theorem ordS_lex:∀(x y:zB),ordS x y=lexB x y
 |[],[]=>by simp[ordS,lexB,Op.bytesLess]
 |[],b::y=>by simp[ordS,lexB,Op.bytesLess]
 |a::x,[]=>by simp[ordS,lexB,Op.bytesLess]
 |a::x,b::y=>by
  have ih:=ordS_lex x y;simp only[lexB,←ih];unfold ordS ordI thenI;simp only[Op.bytesLess]
  grind [UInt8.lt_iff_toNat_lt,UInt8.toNat_inj]
def Rng(p:Int):Prop:= -1≤p∧p≤1
theorem Rng.lex{p q:Int}(h:Rng p)(h':Rng q):Rng (thenI p q):=by grind [thenI]
theorem z164{a b c d:Int}(h:b= -a)(h':d= -c):thenI b d= -thenI a c:=by
 grind [thenI]
theorem lexB_anti:∀(x y:zB),lexB y x= -lexB x y
 |[],[]=>by simp[lexB]
 |[],b::y=>by simp[lexB]
 |a::x,[]=>by simp[lexB]
 |a::x,b::y=>by simp only[lexB];exact z164 (ordI_anti _ _) (lexB_anti x y)
theorem ordS_anti(a b:zB):ordS b a= -ordS a b:=by grind [ordS_lex,lexB_anti]
theorem cmpL_anti:∀(x y:List V),(∀a∈x,∀b,cmpV b a= -cmpV a b)→cmpL y x= -cmpL x y
 |[],[],_=>by simp[cmpL]
 |[],b::y,_=>by simp[cmpL]
 |a::x,[],_=>by simp[cmpL]
 |a::x,b::y,h=>by simp only[cmpL];exact z164 (h a (by simp) b) (cmpL_anti x y fun c hc=>h c (by simp[hc]))
theorem cmpV_antiN(n:Nat):∀x y:V,SizeOf.sizeOf x≤n→cmpV y x= -cmpV x y:=by
 induction n with
 |zero=>intro x y h;cases x;simp at h
 |succ n ih=>
  intro x y h;rw[cmpV_eq x y,cmpV_eq y x];refine z164 (ordI_anti _ _) (z164 (ordI_anti _ _) (z164 (ordS_anti _ _) (cmpL_anti _ _ fun a ha b=>ih a b ?_)));have:=List.sizeOf_lt_of_mem ha;cases x;simp[V.l]at h this ⊢;omega
theorem cmpV_anti(x y:V):cmpV y x= -cmpV x y:=cmpV_antiN _ x y (Nat.le_refl _)
theorem cmpV_self(x:V):cmpV x x=0:=by grind [cmpV_anti]
end Go.Proofs.YtcpaleaajdilgaaGreatDoor
end

section
namespace Go.Mor
open Go
def ty0:Ty:=⟨0,0⟩
def eqTy(a b:Ty):Bool:=a.k==b.k&&a.o==b.o
def alikeT(a b:Ty):Bool:=eqTy a b&&(a.k==1||a.k==2)
def takeG:List Ty→List Int→Bool
 |[],_=>true
 |t::l,k::r=>t.k==k&&takeG l r
 |_::_,[]=>false
def takeT(k:Int)(ks:List Int)(ps:List Ty):Ty×Bool:=if takeG ps ks then(⟨k,0⟩,true)else(ty0,false)
def operT(s:zB)(ps:List Ty):Ty×Bool:=
 if s=[43]∨s=[45]∨s=[42]∨s=[47]∨s=[37] then takeT 1 [1,1] ps
 else if s=[38] then takeT 2 [2,2] ps
 else(⟨1,0⟩,alikeT (ps.getD 0 ty0) (ps.getD 1 ty0))
def nLen:zB:=[108,101,110]
def nLeft:zB:=[108,101,102,116]
def nRight:zB:=[114,105,103,104,116]
def nFrom:zB:=[102,114,111,109]
def nFind:zB:=[102,105,110,100]
def nText:zB:=[116,101,120,116]
def nNum:zB:=[110,117,109]
def nIf:zB:=[105,102]
def nMin:zB:=[109,105,110]
def nMax:zB:=[109,97,120]
def z95(ps:List Ty):Ty×Bool:=if(ps.getD 0 ty0).k=1∧alikeT (ps.getD 1 ty0) (ps.getD 2 ty0)=true then(ps.getD 1 ty0,true)else(ty0,false)
def callT(s:zB)(ps:List Ty):Ty×Bool:=
 if s=nLen then takeT 1 [2] ps else if s=nLeft then takeT 2 [2,1] ps else if s=nRight then takeT 2 [2,1] ps else if s=nFrom then takeT 2 [2,1] ps
 else if s=nFind then takeT 1 [2,2] ps else if s=nText then takeT 2 [1] ps else if s=nNum then takeT 1 [2] ps else if s=nIf then z95 ps
 else takeT 1 [1,1] ps
def kidsT(t:V→Ty×Bool):List V→Option (List Ty)
 |[]=>some []
 |x::l=>if(t x).2 then(kidsT t l).map ((t x).1::·)else none
def nodeT(fs:List Fld)(e:V)(ps:List Ty):Ty×Bool:=
 if e.k=2 then(⟨2,0⟩,true)
 else if e.k=3 then(if fieldAt fs e.s<0 then(ty0,false)else((fs.getD (fieldAt fs e.s).toNat ⟨[],ty0,false⟩).t,true))
 else if e.k=4 then operT e.s ps
 else if e.k=5 then takeT 1 [1] ps
 else if e.k=6 then callT e.s ps
 else(⟨1,0⟩,true)
def typeV(fs:List Fld):Nat→V→Ty×Bool
 |0,_=>(ty0,false)
 |d+1,e=>match kidsT (typeV fs d) e.l with
  |none=>(ty0,false)
  |some ps=>nodeT fs e ps
def cutN(n:Int):Int:=max (-1000000000000000) (min n 1000000000000000)
def numE(n:Int):V:=.mk 1 (cutN n) [] []
def cutGo:Nat→zB→Nat→Nat
 |0,_,a=>a
 |f+1,l,a=>if l=[] then a else if 60<(a:Int)+Lib.runeLen ((Lib.decodeL l).1:Int)then a else cutGo f (l.drop (Lib.decodeL l).2) (a+(Lib.decodeL l).2)
def cutT(s:zB):zB:=s.take (cutGo s.length s 0)
def textE(s:zB):V:=.mk 2 0 (cutT s) []
def signsGo:Nat→zB→Nat
 |0,_=>0
 |f+1,l=>if l=[] then 0 else signsGo f (l.drop (Lib.decodeL l).2)+1
def signsV(s:zB):Nat:=signsGo s.length s
def behGo:Nat→zB→Nat→Nat→Int→Nat
 |0,_,a,_,_=>a
 |f+1,l,a,k,n=>if l=[] then a else if n≤(k:Int)then a else behGo f (l.drop (Lib.decodeL l).2) (a+(Lib.decodeL l).2) (k+1) n
def behV(s:zB)(n:Int):Nat:=behGo s.length s 0 0 n
def findV(t u:zB):Int:=if Lib.index t u<0 then -1 else(signsV (t.take (Lib.index t u).toNat):Int)
def toldV(t:zB):Int:=match Lib.atoiAll t with
 | .ok v=>if v< -1000000000000000∨1000000000000000<v∨Lib.itoa v≠t then 0 else v
 |_=>0
def prodV(a b:Int):Int:=if a=0∨max b (-b)≤(1000000000000000:Int).tdiv (max a (-a))then a*b else if(decide (a<0)==decide (b<0))=true then 1000000000000000 else -1000000000000000
def quotV(s:zB)(a b:Int):Int:=if b=0 then 0 else if s=[47] then a.tdiv b else a.tmod b
def holdsV(s:zB)(c:Int):Bool:=
 if s=[60,61] then decide (c≤0)else if s=[61] then decide (c=0)else if s=[62,61] then decide (0≤c)else if s=[62] then decide (0<c)else if s=[60,62] then decide (c≠0)else decide (c<0)
def opV(s:zB)(a b:V):V:=
 if s=[45] then numE (a.n+ -b.n)else if s=[43] then numE (a.n+b.n)else if s=[42] then numE (prodV a.n b.n)
 else if s=[47]∨s=[37] then numE (quotV s a.n b.n)else if s=[38] then textE (a.s++b.s)
 else if holdsV s (Go.Proofs.YtcpaleaajdilgaaGreatDoor.cmpV a b)then numE 1 else numE 0
def callV(s:zB)(l:List V):V:=
 let x:=l.getD 0 V.nil
 let y:=l.getD 1 V.nil
 if s=nLen then numE (signsV x.s)else if s=nLeft then textE (x.s.take (behV x.s y.n))else if s=nRight then textE (x.s.drop (behV x.s (signsV x.s-y.n)))
 else if s=nFrom then textE (x.s.drop (behV x.s y.n))else if s=nFind then numE (findV x.s y.s)else if s=nText then textE (Lib.itoa x.n)else if s=nNum then numE (toldV x.s)
 else if s=nIf then(if x.n≠0 then y else l.getD 2 V.nil)else if s=nMin then numE (min x.n y.n)else numE (max x.n y.n)
def nodeW(fs:List Fld)(vals:List V)(e:V)(ps:List V):V:=
 if e.k=2 then textE e.s
 else if e.k=3 then vals.getD (fieldAt fs e.s).toNat V.nil
 else if e.k=4 then opV e.s (ps.getD 0 V.nil) (ps.getD 1 V.nil)
 else if e.k=5 then numE (-(ps.getD 0 V.nil).n)
 else if e.k=6 then callV e.s ps
 else numE e.n
def worthV(fs:List Fld)(vals:List V):Nat→V→V
 |0,_=>V.nil
 |d+1,e=>nodeW fs vals e (e.l.map (worthV fs vals d))
def typeA(c:Cls)(e:V):Ty×Int:=if rightE e then(if z19 c then(if(typeV c.fs 8 e).2 then((typeV c.fs 8 e).1,0)else(ty0,60))else(ty0,40))else(ty0,50)
def evalA(c:Cls)(vals:List V)(e:V):V×Int:=if(typeA c e).2≠0 then(V.nil,(typeA c e).2)else if(check c vals).2≠0 then(V.nil,(check c vals).2)else(worthV c.fs vals 8 e,0)
section
open Go.RowKit
def txts(i:Int):zB:=([[],[97],[98,99],[195,169,116,195,169],[97,32,98],[122,122,32,116,111,112],[48],[45,55]]:List (zB)).getD i.toNat []
def mkVal1(k n many:Int):V:=
 if k=1 then .mk 1 (pick n 41-20) [] []
 else if k=2 then .mk 2 0 (txts (pick n 8)) []
 else if many<1∨pick n 5=4 then V.nil
 else .mk k (1+pick n many) [] []
def mkVal(t:Ty)(n many:Int):V:=
 if t.k=5 then .mk 5 0 [] ((List.range (pick n 4).toNat).map fun i:Nat=>mkVal1 t.o (n.tdiv 4+(i:Int)) many)else mkVal1 t.k n many
def rawN(l:List Int)(i:Nat):Int:=if l=[] then i else IntKind.i64.wrap (l.getD (i%l.length) 0+i)
def mkVals(fs:List Fld)(l:List Int)(many:Int):List V:=fs.mapIdx fun i f=>mkVal f.t (rawN l i) many
theorem txts_right(j:Int)(h0:0≤j)(h1:j<8):z18 (txts j)=true:=by
 have:j=0∨j=1∨j=2∨j=3∨j=4∨j=5∨j=6∨j=7:=by omega
 rcases this with rfl|rfl|rfl|rfl|rfl|rfl|rfl|rfl<;>rfl
theorem right1_of(k n many:Int)(hk:1≤k∧k≤4)(hm:many≤100000):right1 (mkVal1 k n many)=true∧(mkVal1 k n many).l=[]∧ofKind (mkVal1 k n many) k=true∧(mkVal1 k n many).k≠5∧(mkVal1 k n many).s.length≤60:=by
 unfold mkVal1;by_cases h1:k=1
 ·subst h1;have:=z25 n 41 (by omega);simp[right1,bare,ofKind,V.k,V.n,V.s,V.l];omega
 ·rw[if_neg h1];by_cases h2:k=2
  ·subst h2;have h8:=z25 n 8 (by omega);have:=txts_right _ h8.1 h8.2;have hl:(txts (pick n 8)).length≤60:=by simp only[z18,Bool.and_eq_true,decide_eq_true_iff]at this;exact this.1
   grind [right1,ofKind,V.k,V.n,V.s,V.l]
  ·rw[if_neg h2];by_cases h3:many<1∨pick n 5=4
   ·rw[if_pos h3];have hk34:k=3∨k=4:=by omega
    refine⟨by decide,rfl,?_,by decide,by decide⟩;rcases hk34 with rfl|rfl<;>decide
   ·rw[if_neg h3];have:=z25 n many (by omega);have hid:z110 (1+pick n many)=true:=by grind [z110]
    grind [ofKind,V.k,V.s,right1,bare,V.n,V.l]
end
end Go.Mor
end

section
namespace Go.Proofs.YtcpaleaajdilgaaGreatDoor
open Go Go.RowKit Go.Mor Go.Sh
structure GlobT(w:World):Prop where
 tab:Lib.TabIs Tryz.prog w "internal/strconv.uint64pow10" .u64 Lib.pow10Tab
 mx:∃k,w.cell? ⟨4,0,none⟩=some (.int .i64 k)
theorem pow10_named:Tryz.prog.globalNamed "internal/strconv.uint64pow10" =some 5:=by kernel_rfl
theorem tab_st{P:Program}{w w':World}{n g:Nat}{nm:String}{k:IntKind}{zs:List Int}(hg:P.globalNamed nm=some g)(hn:g<n)(h:Lib.TabIs P w nm k zs)(hk:∀k,k<n→w'.heap[k]?=w.heap[k]?):Lib.TabIs P w' nm k zs:=by
 unfold Lib.TabIs World.var? at*;rw[hg]at*;simp only[Option.bind_some]at*;rw[hk g hn];exact h
theorem globT_st{w w':World}{n:Nat}(hv:10≤n)(h:GlobT w)(hk:∀k,k<n→w'.heap[k]?=w.heap[k]?):GlobT w':=by
 refine⟨tab_st pow10_named (by omega) h.tab hk,?_⟩;obtain⟨k,h0⟩:=h.mx;exact⟨k,by rw[World.cell?_of_block (w:=w) (hk _ (show 4<n by omega))];exact h0⟩
structure GlobNT(n:Nat)(w:World):Prop extends GlobN0 n w where
 t:GlobT w
def glT(n:Nat):Sh.Glob where
 G:=GlobNT n
 n:=n
 st:=fun w w' h hk=>⟨⟨globU_st h.hv h.u hk,size_st h.sz hk,h.hv⟩,globT_st h.hv h.t hk⟩
 le:=fun w h=>h.sz
theorem sc_0T{m f:Nat}{xs:List TV}{os:List MO}{y:TV}{os':List MO}(h:SCalls Tryz.prog (gl0 m) f xs os y os'):SCalls Tryz.prog (glT m) f xs os y os':=
 sc_of (g:=gl0 m) (g':=glT m) rfl (fun w (hG:GlobNT m w)=>hG.toGlobN0) h
end Go.Proofs.YtcpaleaajdilgaaGreatDoor
end

section
namespace Go.Mor
open Go
section
structure Open(F:Fence):Prop where
 fn:∀f,F.fn f
 depth:F.depth=none
 calls:∀(n:Nat) (P:Program) (f:FuncId) (args:Array Value) (w:World) (R:Ending→World→Prop),Calls P f args w R→CallsIn F n P f args w R
theorem open_wide:Open Fence.wide:=⟨fun _=>trivial,rfl,fun _ _ _ _ _ _ h=>callsIn_wide.2 h⟩
theorem open_round(l:Nat):Open (Fence.wide.inRound l):=⟨fun _=>trivial,rfl,fun _ _ _ _ _ _ h=>CallsIn.inRound l (callsIn_wide.2 h)⟩
def noDefer(ops:Array Oper):Bool:=ops.all fun o=>match o.op with| .defer _=>false|_=>true
theorem noDefer_spec{ops:Array Oper}(h:noDefer ops=true){i:Nat}{o:Oper}(hi:ops[i]?=some o):∀c,o.op≠ .defer c:=by
 intro c hc;have hlt:=(gA hi)
 obtain⟨hl,rfl⟩:=hlt;have:=Array.all_eq_true.1 h i hl;rw[hc]at this;cases this
section
variable{F:Fence}{n:Nat}{P:Program}{ops:Array Oper}{md:Region.Mode}{w:World}
theorem wpOpIn_of_stOp(hF:Open F)(hnd:noDefer ops=true){i:Nat}{a:Act}{K:Act→Prop}{K':Act→World→Prop}{Q':Exit→Act→World→Prop}(h:∀a,K a→K' a w)(hh:stOp P ops w i K a):
  wpOpIn F n P ops Q' i K' a w:=by
 unfold stOp at hh;unfold wpOpIn;split
 ·rename_i ho;simp only[ho]at hh;exact h _ hh
 ·rename_i o ho;simp only[ho]at hh;split
  ·rename_i hw;simp only[hw,if_true]at hh;refine⟨fun f _=>hF.fn f,?_⟩;rw[Oper.semAt_eq _ _ _ (noDefer_spec hnd ho)];unfold Oper.still at hh;generalize(execOp a.eval o).run P w=r at*;cases r with
   |ok x w'=>
    cases x<;>simp only[Oper.stillUpon,Oper.uponIn]at hh ⊢
    ·obtain⟨rfl,hh⟩:=hh;exact h _ hh
    ·obtain⟨rfl,hh⟩:=hh;exact h _ hh
    ·obtain⟨rfl,v,hc,hh⟩:=hh;refine⟨fun hd=>(by rw[hF.depth]at hd;cases hd),hF.calls _ _ _ _ _ _ (hc.mono ?_)⟩;rintro e w'' ⟨rfl,rfl⟩;exact h _ hh
   |halt x w'=>exact hh.elim
  ·rename_i hw;simp only[hw]at hh;exact⟨fun f _=>hF.fn f,h _ hh⟩
theorem z194(hF:Open F)(hnd:noDefer ops=true){m g:Nat}{L:Array Bool→Act→Prop}{Q':Exit→Act→World→Prop}(hL:∀listed a,L listed a→wpAnyIn F n P md ops Q' g listed a w):
  ∀(f:Nat) (listed:Array Bool) (a:Act),wpAnyL P md ops w m L f listed a→wpAnyIn F n P md ops Q' (f+g) listed a w
 |0,listed,a,h=>by rw[Nat.zero_add];exact hL _ _ h
 |f+1,listed,a,h=>by
  rw[show f+1+g=(f+g)+1 by omega];exact⟨fun h0=>absurd h0 h.1,fun i hi=>wpOpIn_of_stOp hF hnd (fun a' h'=>z194 hF hnd hL f _ a' h') (h.2 i hi).2⟩
theorem z197{Q':Exit→Act→World→Prop}:∀(l:List Oper) (k:Nat) (listed:Array Bool) (a:Act) (w:World),(∀j,l[j]?=ops[k+j]?)→
  Region.seqB md ops l.length k listed=true→wpListIn F n P ops Q' l a w→wpAnyIn F n P md ops Q' l.length listed a w
 |[],_,_,_,_,_,hB,h=>⟨by simpa [Region.seqB]using hB,h⟩
 |o::l,k,listed,a,w,hl,hB,h=>by
  have h0:ops[k]?=some o:=by simpa using(hl 0).symm
  simp only[List.length_cons,Region.seqB,Bool.and_eq_true,decide_eq_true_eq]at hB;refine⟨fun h1=>(by rw[hB.1]at h1;cases h1),fun i hi=> ?_⟩;rw[hB.1]at hi;have hik:i=k:=by simpa using hi
  subst hik;have hw:wpOpIn F n P ops Q' i (wpListIn F n P ops Q' l) a w:=by unfold wpOpIn;simp only[h0];exact h
  exact wpOpIn_mono (fun a' w' h'=>z197 l (i+1) _ a' w' (fun j=>by have:=hl (j+1);simpa [Nat.add_assoc,Nat.add_comm 1 j]using this) hB.2 h') hw
theorem z104{id:Nat}{Q:Exit→Act→World→Prop}{a:Act}{w:World}{l:List Oper}(hF:Open F)(m:Nat)(hm:P.follows .mixedOrders=true)(hB:(Region.lexTailB .any l.toArray m&&noDefer l.toArray)=true)
  (h:wpStill P l.toArray w.drew (fun a'=>wpListIn F n P l.toArray Q (l.drop m) a' w.drew) (l.take m) a):(Code.region id l.toArray true).wpIn F n P Q a w:=by
 rw[Bool.and_eq_true]at hB;obtain⟨hB,hnd⟩:=hB;simp only[Region.lexTailB,Bool.and_eq_true,decide_eq_true_eq]at hB;obtain⟨⟨⟨⟨hsel,hn⟩,hs⟩,hc⟩,hlex⟩:=hB;have hn':m<l.length:=by simpa using hn
 have htl:(l.take m).length=m:=by simp;omega
 have hdl:(l.drop m).length=l.toArray.size-m:=by simp
 have inv0:HeadInv .any l.toArray m (Array.replicate l.toArray.size false):=
  ⟨by simp,fun j oj _ hl=>(by rw[getD_replicate_false]at hl;cases hl),fun t _ ht=>getD_in (by simpa using ht) (getD_replicate_false _ _)⟩
 have H:=wpAnyL_lex (md:=.any) (g:=l.toArray.size-m) hsel hs hc hn (l.take m) 0 _ a (fun j hj=>by
  have hj':j<m:=by rw[htl]at hj;exact hj
  simp[hj']) (by simpa using htl) inv0 (by rw[htl];exact hlex) h
 refine wpIn_region_any hm ?_;have:=z194 (n:=n) hF hnd (Q':=Q) (g:=l.toArray.size-m) (fun listed a' hL=>by
  have:=z197 (F:=F) (n:=n) (P:=P) (md:=.any) (Q':=Q) (l.drop m) m listed a' w.drew (fun j=>by simp[List.getElem?_drop]) (by rw[hdl];exact hL.1) hL.2
  rwa [hdl]at this) _ _ _ H
 rw[htl,show m+(l.toArray.size-m)=l.toArray.size by omega]at this;exact this
theorem z55{id:Nat}{Q:Exit→Act→World→Prop}{a:Act}{w:World}{l:List Oper}(m:Nat)(hm:P.follows .mixedOrders=true)(hB:Region.lexTailB .any l.toArray m=true)
  (h:wpStill P l.toArray w.drew (fun a'=>wpList P l.toArray Q (l.drop m) a' w.drew) (l.take m) a):(Code.region id l.toArray true).wp P Q a w:=wp_region_still_tail m hm hB h
end
end
end Go.Mor
end

section
namespace Go.Proofs.YtcpaleaajdilgaaGreatDoor
open Go Go.RowKit Go.Mor Go.Sh
structure GlobE(w:World):Prop where
 sy:∃t p,w.cell? ⟨6,0,none⟩=some (.iface t p)
 rg:∃t p,w.cell? ⟨7,0,none⟩=some (.iface t p)
theorem globE_st{w w':World}{n:Nat}(hv:10≤n)(h:GlobE w)(hk:∀k,k<n→w'.heap[k]?=w.heap[k]?):GlobE w':=by
 obtain⟨⟨t,p,h1⟩,⟨t',p',h2⟩⟩:=h;exact⟨⟨t,p,by rw[World.cell?_of_block (w:=w) (hk _ (show 6<n by omega))];exact h1⟩,⟨t',p',by rw[World.cell?_of_block (w:=w) (hk _ (show 7<n by omega))];exact h2⟩⟩
structure GlobNE(n:Nat)(w:World):Prop extends GlobNT n w where
 e:GlobE w
def glE(n:Nat):Sh.Glob where
 G:=GlobNE n
 n:=n
 st:=fun w w' h hk=>⟨(glT n).st w w' h.toGlobNT hk,globE_st h.hv h.e hk⟩
 le:=fun w h=>h.sz
theorem sc_TE{m f:Nat}{xs:List TV}{os:List MO}{y:TV}{os':List MO}(h:SCalls Tryz.prog (glT m) f xs os y os'):SCalls Tryz.prog (glE m) f xs os y os':=
 sc_of (g:=glT m) (g':=glE m) rfl (fun w (hG:GlobNE m w)=>hG.toGlobNT) h
theorem sc_0E{m f:Nat}{xs:List TV}{os:List MO}{y:TV}{os':List MO}(h:SCalls Tryz.prog (gl0 m) f xs os y os'):SCalls Tryz.prog (glE m) f xs os y os':=sc_TE (sc_0T h)
end Go.Proofs.YtcpaleaajdilgaaGreatDoor
end

section
namespace Go.Sh.Cd6
open Go Go.Sh
abbrev gQ(a:GA):Prop:=gT Go.Proofs.Tryz.prog a
theorem gK{a:GA}(h:gQ a:=by unfold gQ gT;kernel_rfl):gQ a:=h
theorem tf_104:gQ ⟨12,81,[(10,0),(11,0),(14,0),(37,0),(42,0),(52,0),(69,0),(77,0)],[],[[0],[10],[11017],[],[18025],[7,27028,73],[26,29033],[34045],[46048],[49055],[6,49,56064],[8,65071],[9,72],[7,73079],[1,3005,80]],[.cell true 2 2],false⟩:=gK
theorem tf_106:gQ ⟨13,43,[(39,0),(40,0)],[],[[0,6],[],[],[10013],[15016],[14,17],[18019],[20029],[9,20,30041],[1003,7008,42]],[.tmp 6],false⟩:=gK
theorem tf_52:gQ ⟨19,41,[],[],[[0,4005],[8009],[1002,10],[4005,10015],[1002,16022],[2,4005,16,23],[],[27030],[7,31037],[1,6,24026,38039],[4006,38,40],[1,24026]],[.tmp 4,.tmp 5],false⟩:=gK
theorem tf_55:gQ ⟨33,39,[],[],[[0,2],[7015],[1,16],[2,16017],[],[21024],[25026],[1,3004,18020,27],[2,4,6,27034],[3,5,35036],[1,18020,37],[2,37038],[1,18020]],[.tmp 2],false⟩:=gK
theorem tf_53:gQ ⟨34,14,[(10,1)],[],[[1000001,4005],[2003,7010],[11],[6,12],[6,12013]],[.tmp 4,.tmp 5],false⟩:=gK
theorem tf_64:gQ ⟨37,39,[(38,1)],[],[[1000001,7],[8,13018],[19],[2004,9,20022],[7,9010,20,23028],[29],[2004,11,30032],[2,4,7,11,30,33036],[3,12,37038]],[.cell true 4 6,.tmp 7],false⟩:=gK
theorem tf_56:gQ ⟨44,27,[],[],[[0,2],[3004],[1,5013],[1,5,14026]],[.tmp 2],false⟩:=gK
theorem tf_107:gQ ⟨45,13,[],[],[[4],[5],[6009],[1000001,6,10012]],[.tmp 4],false⟩:=gK
theorem tf_121:gQ ⟨46,23,[],[],[[0,4005],[],[7010],[4005,12013,21],[11,14020],[1002,6,21022],[1002,6]],[.tmp 4,.tmp 5],false⟩:=gK
theorem tf_105:gQ ⟨47,67,[(10,0),(16,0),(23,0),(34,0),(42,0),(48,0),(62,0),(63,0)],[],[[0],[10],[11],[14],[1003,7,12013,15018],[13,20],[1003,7,12,19,21026],[7,19,28],[12,29],[12,27,30035],[1003,36037],[1003,36,38044],[12,27,45],[],[46048],[50051],[49,52065],[1003,8009,66]],[.cell true 4 6],false⟩:=gK
theorem tf_57:gQ ⟨70,22,[],[],[[0,2],[3011],[1,12],[1,12021]],[.tmp 2],false⟩:=gK
theorem tf_151:gQ ⟨71,19,[(16,1)],[],[[4],[6],[],[9010],[11015],[1000001,5,7008,16017],[4005,16,18],[1000001,7008]],[.tmp 4],false⟩:=gK
theorem tf_54:gQ ⟨72,8,[],[],[[0,3],[1002,4007]],[.tmp 3],false⟩:=gK
theorem tf_65:gQ ⟨78,29,[(22,1)],[],[[1000001,5],[9010],[2003,11012],[5,11,13014],[2003,15016],[3,5,15,17019],[2,6,20024],[8,25],[7,26027],[7,26,28]],[.cell true 2 4,.tmp 5],false⟩:=gK
theorem tf_21:gQ ⟨80,90,[(26,1),(86,1)],[],[[1],[10013],[14],[],[18021],[6007,22027],[28],[15017,29],[32],[0,3,5,30031,33035],[31,37],[3,5,9,30,36,38047],[0,8,48055],[36,57],[0,3,5,30,56,58066],[56,68],[0,3,5,30,67,69074],[30,67,76],[0,3,5,75,77086],[0,3,5,75,87089]],[.cell true 4 4],false⟩:=gK
theorem tf_123:gQ ⟨112,62,[],[],[[0,2],[6014],[1,15],[2,15],[16019],[4005,21022],[20,23027],[28046],[1,3004,47],[2,47],[48049],[2,51052,61],[50,53060],[1,3005,61],[1,3]],[.tmp 2],false⟩:=gK
theorem tf_20:gQ ⟨135,100,[(28,1),(74,1),(82,1),(96,1)],[],[[1,5],[13016],[17],[],[21024],[8,25030],[10,31],[0,3,6007,9,18020,32033],[5,7,9,32,34037],[38],[18020,39],[42],[0,3,6,40041,43],[41,45],[3,6,40,44,46055],[12,56],[0,11,57058],[0,11,57,59067],[44,69],[0,3,6,40,68,70076],[68,78],[0,3,6,40,77,79084],[40,77,86],[0,3,6,85,87098],[0,3,6,85,99]],[.cell true 2 4,.tmp 5],false⟩:=gK
theorem tf_89:gQ ⟨136,6,[],[],[[1000001,4],[2003,5]],[.tmp 4],false⟩:=gK
theorem tf_68:gQ ⟨137,9,[],[],[[],[0,3008]],[.cell true 4 2],false⟩:=gK
theorem tf_82:gQ ⟨138,7,[],[],[[],[0,3006]],[.cell true 4 2],false⟩:=gK
theorem tf_88:gQ ⟨139,11,[],[],[[2],[],[0,4],[6],[7009],[3,5,10]],[.tmp 2],false⟩:=gK
theorem tf_70:gQ ⟨140,17,[],[],[[],[4007],[0,3,8016]],[.cell true 4 2],false⟩:=gK
theorem tf_91:gQ ⟨141,22,[],[],[[],[5],[],[7010],[4,11014],[0,3,6,15019],[0,6,20021]],[.cell true 4 2],false⟩:=gK
theorem tf_67:gQ ⟨142,20,[],[],[[4],[],[7],[],[9011],[12013],[1000001,5006,8,14015],[4,6,14,16017],[1000001,5,8,18019]],[.tmp 4],false⟩:=gK
theorem tf_71:gQ ⟨143,20,[],[],[[],[4007],[0,3,8019]],[.cell true 4 2],false⟩:=gK
theorem tf_72:gQ ⟨144,17,[],[],[[],[4007],[0,3,8016]],[.cell true 4 2],false⟩:=gK
theorem tf_73:gQ ⟨145,13,[],[],[[],[0,3012]],[.cell true 4 2],false⟩:=gK
theorem tf_79:gQ ⟨146,15,[],[],[[4],[1,6008],[9],[0,5,10],[0,5,10014]],[.tmp 4],false⟩:=gK
theorem tf_74:gQ ⟨147,9,[],[],[[],[0,3008]],[.cell true 4 2],false⟩:=gK
theorem tf_75:gQ ⟨148,9,[],[],[[],[0,3008]],[.cell true 4 2],false⟩:=gK
theorem tf_78:gQ ⟨150,19,[(12,1)],[],[[3],[4013],[0,14015],[0,14,16018]],[.cell true 2 2,.tmp 3],false⟩:=gK
theorem tf_76:gQ ⟨151,14,[],[],[[],[3006],[0,7010],[0,7,11013]],[.cell true 4 2],false⟩:=gK
theorem tf_77:gQ ⟨152,13,[],[],[[],[0,3012]],[.cell true 4 2],false⟩:=gK
theorem tf_69:gQ ⟨153,13,[],[],[[],[0,3012]],[.cell true 4 2],false⟩:=gK
theorem tf_80:gQ ⟨154,22,[(15,0),(16,0)],[],[[0],[],[6],[],[10012],[5,13017],[18],[3,7009,19020],[1,21]],[.cell true 4 2],false⟩:=gK
theorem tf_83:gQ ⟨155,55,[],[],[[1002],[],[9],[8,11],[10,13],[12,15],[16],[7,14,18],[0,17,19022],[4005,23028],[4005,29034],[0,4005,35041],[4005,42047],[0,4005,48051],[52053],[52,54]],[.cell true 4 6],false⟩:=gK
theorem tf_124:gQ ⟨171,21,[],[],[[0,2],[1,3020]],[.tmp 2],false⟩:=gK
theorem tf_84:gQ ⟨210,16,[],[],[[2],[0],[5],[6],[7],[8],[9],[3004,10011],[3004,13],[12,14015],[12]],[.tmp 2],false⟩:=gK
theorem tf_90:gQ ⟨211,26,[],[],[[5],[0],[],[11014],[6007,15020],[1002,8010,21022],[5,21,23],[1002,8010,24025]],[.cell true 2 4,.tmp 5],false⟩:=gK
theorem tf_66:gQ ⟨215,24,[],[],[[2],[0,3023]],[.tmp 2],false⟩:=gK
theorem tf_86:gQ ⟨216,27,[],[],[[4],[5017],[1000001,18021],[1000001,4,18,22025],[26],[26]],[.tmp 4],false⟩:=gK
theorem tf_87:gQ ⟨217,17,[],[],[[6],[7],[1000002,8],[0,6,8009],[1002,10013],[1002,10,14016]],[.tmp 6],false⟩:=gK
theorem tf_81:gQ ⟨218,28,[],[],[[4],[0],[7],[6,9],[8,11],[10,13],[5,12,15],[14,16],[1,17],[1,17019],[4,20],[1,21],[1,21023],[1,24025],[1,26027]],[.tmp 4],false⟩:=gK
theorem tf_126:gQ ⟨226,9,[],[],[[2],[0,3008]],[.tmp 2],false⟩:=gK
theorem tf_85:gQ ⟨251,7,[(6,1)],[],[[3],[0,4006]],[.cell true 2 2,.tmp 3],false⟩:=gK
noncomputable def funcs:Nat→Option SFunc
 |_=>none
end Go.Sh.Cd6
end

section
namespace Go.Proofs.YtcpaleaajdilgaaGreatDoor
open Go Go.RowKit Go.Mor Go.Sh Go.Sh.Cd1 Go.Sh.Cd6
def flR1(f:Fld):List PV:=[.v (.string (str f.n)),.v (.int .i64 f.t.k),.v (.int .i64 f.t.o),.v (.bool f.ix)]
def flR(l:List Fld):List (List PV):=l.map flR1
def flT(f:Fld):TV:=.agg [S (str f.n),I f.t.k,I f.t.o,.pv (.v (.bool f.ix))]
def clT(c:Cls):TV:=.agg [S (str c.n),.pv (.sl 4 (flR c.fs))]
theorem flGet(l:List Fld)(k:Nat):(flR l)[k]?=(l[k]?).map flR1:=by unfold flR;rw[List.getElem?_map]
theorem flLen(l:List Fld):(flR l).length=l.length:=by unfold flR;rw[List.length_map]
theorem clV:(type_of% @flGet)∧(type_of% @flLen)∧(type_of% @flR1.eq_1)∧(type_of% @flT.eq_1)∧(type_of% @clT.eq_1):=⟨@flGet,@flLen,@flR1.eq_1,@flT.eq_1,@clT.eq_1⟩
def Short(s:zB):Prop:=s.length<4611686018427387904
structure ClsOk(c:Cls):Prop where
 n:Short c.n
 fs:∀f∈c.fs,Short f.n
 len:c.fs.length≤4611686018427387904
theorem rightTypeC_ok(g:Sh.Glob)(t:Ty):zC g 44 [tyT t] [] (B (z16 t)) []:=by
 refine z10 tf_56 ?_;obtain⟨k,o⟩:=t;unfold B;simp only[vW,seval];unfold z16
 repeat' (first|(apply And.intro)|(intro _))
 all_goals(first|(simp_all;done)|(simp_all;omega))
theorem field1_ok(g:Sh.Glob)(f:Fld)(s:zB):zC g 72 [flT f,.ptr 1000 0] [.box [S (str s)]] (B (f.n==s)) [.box [S (str s)]]:=by
 refine z22 tf_54 ?_;unfold B;simp only[vW,seval,clV]
theorem indexFld_ok(g:Sh.Glob)(l:List Fld)(s:zB)(hl:l.length≤maxLen):zC g 71 [.pv (.sl 4 (flR l)),.fn (.func 72) [] [.ptr 1000 0]] [.box [S (str s)]] (I (fieldAt l s)) [.box [S (str s)]]:=by
 refine z22 tf_151 ?_;have hm:maxLen=9223372036854775807:=rfl;simp only[vW,seval,clV];refine v_loop (σ:={i:Nat // i≤l.length∧∀j x,j<i→l[j]?=some x→(x.n==s)=false}) (fun i=>⟨[(0,.pv (.sl 4 (flR l))),(1,.fn (.func 72) [] [.ptr 1000 0]),(7,I (l.length:Int)),(8,I (i.1:Int))],[(1000,[S (str s)])],[],[]⟩) (fun i=>l.length-i.1) ⟨0,Nat.zero_le _,fun j x hj=>by omega⟩ (lw_eq (by simp[I,S])) ?_;rintro⟨i,hi,hno⟩;by_cases hlt:i<l.length
 ·have d1:(i:Int)<(l.length:Int):=by omega
  obtain⟨x,ex⟩:∃x,l[i]?=some x:=⟨_,gE hlt⟩
  have HN:=field1_ok g x s;have w1:=wS i;unfold flT B at HN;simp only[vW,seval,d1,ex,clV];(with_reducible apply z28);exact kv;exact HN;rfl;exact kv;cases hp:(x.n==s)
  ·simp only[vW,seval,w1];refine z13 ⟨i+1,by omega,fun j y hj hy=> ?_⟩ (by show l.length-(i+1)<l.length-i;omega) ?_
   ·by_cases hji:j=i
    ·subst hji;rw[ex]at hy;cases hy;exact hp
    ·exact hno j y (by omega) hy
   ·exact lwA
  ·simp only[vW,seval];unfold fieldAt;rw[z121 (fun f=>f.n==s) l i hno x ex hp]
 ·have d1:¬(i:Int)<(l.length:Int):=by omega
  simp only[vW,seval,d1];unfold fieldAt;rw[z122 (fun f=>f.n==s) l (fun x hx=>by
   obtain⟨j,hj⟩:=List.getElem?_of_mem hx;exact hno j x (by have:=(gJ hj).1;omega) hj)]
def fieldT(l:List Fld)(s:zB):TV:=if fieldAt l s<0 then .tuple [I 0,B false] else .tuple [I (fieldAt l s),B true]
theorem field_ok(g:Sh.Glob)(c:Cls)(s:zB)(hl:c.fs.length≤4611686018427387904):zC g 34 [clT c,S (str s)] [] (fieldT c.fs s) []:=by
 have HI:=indexFld_ok g c.fs s (by unfold maxLen;omega);unfold fieldT;refine z10 tf_53 ?_;by_cases h:fieldAt c.fs s<0
 ·rw[if_pos h];simp only[vW,seval,clV];refine z7 HI ?_;simp only[vW,seval,h,B]
 ·rw[if_neg h];simp only[vW,seval,clV];refine z7 HI ?_;simp only[vW,seval,h,B]
theorem rightField_ok(g:Sh.Glob)(f:Fld)(hf:Short f.n):zC g 70 [flT f] [] (B (z26 f)) []:=by
 have HN:=rightName_ok g f.n hf;have HT:=rightTypeC_ok g f.t;unfold z26;refine z10 tf_57 ?_;unfold B at*;simp only[vW,seval,clV];refine z7 HN ?_;cases h1:z11 f.n
 ·simp only[vW,seval]
 ·simp only[vW,seval];refine z7 HT ?_;cases h2:z16 f.t
  ·simp only[vW,seval]
  ·cases h3:f.ix
   ·simp only[vW,seval,h3];rfl
   ·simp only[vW,seval,h3]
theorem once_step{all:List Fld}{k:Nat}{f:Fld}{r:List Fld}:onceGo all k (f::r)=(z26 f&&fieldAt all f.n==k&&onceGo all (k+1) r):=rfl
theorem fieldAt_mem{l:List Fld}{f:Fld}(h:f∈l):¬fieldAt l f.n<0:=by
 unfold fieldAt;rw[firstAt_neg];intro hn;have:=hn f h;simp at this
theorem classRight_ok(g:Sh.Glob)(c:Cls)(hc:ClsOk c):zC g 33 [clT c] [] (B (z19 c)) []:=by
 have HN:=rightName_ok g c.n hc.n;have hlen:=hc.len;obtain⟨R,hR⟩:∃R,z19 c=R:=⟨_,rfl⟩
 rw[hR];unfold z19 at hR;refine z10 tf_55 ?_;unfold B at*;simp only[vW,seval,clV];refine z7 HN ?_;cases h1:z11 c.n
 ·rw[h1]at hR;subst hR;simp only[vW,seval]
 rw[h1,Bool.true_and]at hR;by_cases h8:c.fs.length≤8
 ·rw[decide_eq_true h8,Bool.true_and]at hR;have d8:¬(8:Int)<(c.fs.length:Int):=by omega
  simp only[vW,seval,d8,clV];refine v_loop (σ:={k:Nat // k≤c.fs.length∧onceGo c.fs k (c.fs.drop k)=R}) (fun k=>⟨[(18,.pv (.sl 4 (flR c.fs))),(19,I (c.fs.length:Int)),(20,I (k.1:Int)),(1,.ptr 1 0)],[(1,[S (str c.n),.pv (.sl 4 (flR c.fs))])],[],[]⟩) (fun k=>c.fs.length-k.1) ⟨0,Nat.zero_le _,by simpa using hR⟩ ?_ ?_
  ·exact lwA
  rintro⟨k,hk,hT⟩;by_cases hlt:k<c.fs.length
  ·have d1:(k:Int)<(c.fs.length:Int):=by omega
   obtain⟨f,ef⟩:∃f,c.fs[k]?=some f:=⟨_,gE hlt⟩
   have hmem:=gM ef;have HF:=rightField_ok g f (hc.fs f hmem);have HA:=field_ok g c f.n hlen;have hne:=fieldAt_mem hmem;have w1:=wS k;have hdr:c.fs.drop k=f::c.fs.drop (k+1):=by
    rw[List.drop_eq_getElem_cons hlt];congr 1;rw[gE hlt]at ef;exact Option.some.inj ef
   rw[hdr,once_step]at hT;unfold fieldT at HA;rw[if_neg hne]at HA;unfold flT clT B at*;simp only[vW,seval,d1,ef,clV];refine z7 HF ?_;cases h2:z26 f
   ·rw[h2]at hT;subst hT;simp only[vW,seval]
   rw[h2,Bool.true_and]at hT;simp only[vW,seval];refine z7 HA ?_;by_cases hat:fieldAt c.fs f.n=(k:Int)
   ·have hb:(fieldAt c.fs f.n==(k:Int))=true:=by simpa using hat
    rw[hb,Bool.true_and]at hT;simp only[vW,seval,hat,w1];refine z13 ⟨k+1,hlt,hT⟩ (by show c.fs.length-(k+1)<c.fs.length-k;omega) ?_;exact lwA
   ·have hb:(fieldAt c.fs f.n==(k:Int))=false:=by simpa using hat
    rw[hb]at hT;subst hT;simp only[vW,seval,hat]
  ·have d1:¬(k:Int)<(c.fs.length:Int):=by omega
   have hdr:c.fs.drop k=[]:=List.drop_eq_nil_of_le (by omega);rw[hdr]at hT;simp only[vW,seval,d1];rw[←hT];rfl
 ·rw[decide_eq_false h8]at hR;subst hR;have d8:(8:Int)<(c.fs.length:Int):=by omega
  simp only[vW,seval,d8,clV]
def checkT(r:Int×Int):TV:=.tuple [I r.1,I r.2]
theorem classCheck_ok(m:Nat)(c:Cls)(vs:List V)(hc:ClsOk c)(hv:∀x∈vs,VOk x∧x.l.length≤maxLen)(hl:vs.length≤4611686018427387904):zC (gl0 m) 19 [clT c,.pv (.sl 4 (V.rows vs))] [] (checkT (check c vs)) []:=by
 have HR:=classRight_ok (gl0 m) c hc;have hlen:=hc.len;obtain⟨R,hR⟩:∃R,check c vs=R:=⟨_,rfl⟩
 rw[hR];unfold check at hR;refine z10 tf_52 ?_;unfold checkT clT B at*;simp only[vW,seval,clV];refine z7 HR ?_;cases h1:z19 c
 ·rw[h1]at hR;simp at hR;subst hR;simp only[vW,seval]
 rw[h1]at hR;simp only[Bool.not_true,Bool.false_eq_true,if_false]at hR;by_cases h2:vs.length=c.fs.length
 ·have d2:(vs.length:Int)=(c.fs.length:Int):=by omega
  rw[if_neg (by simpa using h2)]at hR;simp only[vW,seval,d2,clV];refine v_loop (σ:={k:Nat // k≤c.fs.length∧z108 k (c.fs.drop k) (vs.drop k)=R}) (fun k=>⟨[(1,.pv (.sl 4 (V.rows vs))),(24,.pv (.sl 4 (flR c.fs))),(25,I (c.fs.length:Int)),(26,I (k.1:Int))],[(2,[S (str c.n),.pv (.sl 4 (flR c.fs))])],[],[]⟩) (fun k=>c.fs.length-k.1) ⟨0,Nat.zero_le _,by simpa using hR⟩ ?_ ?_
  ·exact lwA
  rintro⟨k,hk,hT⟩;by_cases hlt:k<c.fs.length
  ·have d1:(k:Int)<(c.fs.length:Int):=by omega
   obtain⟨f,ef⟩:∃f,c.fs[k]?=some f:=⟨_,gE hlt⟩
   have hlt2:k<vs.length:=by omega
   obtain⟨v,ev⟩:∃v,vs[k]?=some v:=⟨_,gE hlt2⟩
   obtain⟨hv1,hv2⟩:=hv v (gM ev);have HF:=fits_ok0 m v f.t hv1 hv2;have w1:=wS k;have hdr:c.fs.drop k=f::c.fs.drop (k+1):=by
    rw[List.drop_eq_getElem_cons hlt];congr 1;rw[gE hlt]at ef;exact Option.some.inj ef
   have hdv:vs.drop k=v::vs.drop (k+1):=by
    rw[List.drop_eq_getElem_cons hlt2];congr 1;rw[gE hlt2]at ev;exact Option.some.inj ev
   rw[hdr,hdv,z108]at hT;unfold B at HF;simp only[vW,seval,d1,ef,ev,clV];refine z7 HF ?_;cases h3:fitsV v f.t
   ·rw[h3]at hT;simp only[Bool.false_eq_true,if_false]at hT;subst hT;simp only[vW,seval]
   ·rw[h3]at hT;simp only[if_true]at hT;simp only[vW,seval,w1];refine z13 ⟨k+1,hlt,hT⟩ (by show c.fs.length-(k+1)<c.fs.length-k;omega) ?_;exact lwA
  ·have d1:¬(k:Int)<(c.fs.length:Int):=by omega
   have hdr:c.fs.drop k=[]:=List.drop_eq_nil_of_le (by omega);rw[hdr,z108]at hT;subst hT;simp only[vW,seval,d1]
 ·have d2:¬(vs.length:Int)=(c.fs.length:Int):=by omega
  rw[if_pos h2]at hR;subst hR;have hmin:min (vs.length:Int) (c.fs.length:Int)=((min vs.length c.fs.length:Nat):Int):=by omega
  simp only[vW,seval,d2,hmin,clV]
theorem refField_ok(g:Sh.Glob)(c:Cls)(s:zB)(hl:c.fs.length≤4611686018427387904):zC g 46 [clT c,S (str s)] [] (fieldT c.fs s) []:=by
 unfold fieldT;refine z10 tf_121 ?_;simp only[vW,seval,clV];refine v_loop (σ:={i:Nat // i≤c.fs.length∧∀j x,j<i→c.fs[j]?=some x→(x.n==s)=false}) (fun i=>⟨[(1,S (str s)),(6,I (i.1:Int)),(2,.ptr 2 0)],[(2,[S (str c.n),.pv (.sl 4 (flR c.fs))])],[],[]⟩) (fun i=>c.fs.length-i.1) ⟨0,Nat.zero_le _,fun j x hj=>by omega⟩ ?_ ?_
 ·exact lwA
 rintro⟨i,hi,hno⟩;by_cases hlt:i<c.fs.length
 ·have d1:(i:Int)<(c.fs.length:Int):=by omega
  obtain⟨x,ex⟩:∃x,c.fs[i]?=some x:=⟨_,gE hlt⟩
  have w1:=wS i;cases hp:(x.n==s)
  ·simp only[vW,seval,d1,ex,hp,w1,clV];refine z13 ⟨i+1,by omega,fun j y hj hy=> ?_⟩ (by show c.fs.length-(i+1)<c.fs.length-i;omega) ?_
   ·by_cases hji:j=i
    ·subst hji;rw[ex]at hy;cases hy;exact hp
    ·exact hno j y (by omega) hy
   ·exact lwA
  ·have hf:fieldAt c.fs s=(i:Int):=z121 (fun f:Fld=>f.n==s) c.fs i hno x ex hp;rw[hf,if_neg (by omega)];simp only[vW,seval,d1,ex,hp,clV];rfl
 ·have d1:¬(i:Int)<(c.fs.length:Int):=by omega
  have hf:fieldAt c.fs s= -1:=z122 (fun f:Fld=>f.n==s) c.fs (fun x hx=>by
   obtain⟨j,hj⟩:=List.getElem?_of_mem hx;exact hno j x (by have:=(gJ hj).1;omega) hj)
  rw[hf,if_pos (by omega)];simp only[vW,seval,d1,clV];rfl
end Go.Proofs.YtcpaleaajdilgaaGreatDoor
end

section
namespace Go.Mor
open Go
structure Sgn(g:zB):Prop where
 pos:1≤g.length
 le:g.length≤4
 dec:∀t,Lib.decodeL (g++t)=((Lib.decodeL g).1,g.length)
 rl:Lib.runeLen ((Lib.decodeL g).1:Int)=(g.length:Int)
 ok:¬((Lib.decodeL g).1=65533∧g.length=1)
 hd:(g.getD 0 0).toNat<128∨192≤(g.getD 0 0).toNat
 tl:∀c∈g.drop 1,128≤c.toNat∧c.toNat<192
 pl:plainR (Lib.decodeL g).1=true
theorem dec2{b c:UInt8}(h0:¬b.toNat<128)(h1:b.toNat / 32=6)(h2:c.toNat / 64=2)(hr:b.toNat%32*64+c.toNat%64≥128)(t:zB):Lib.decodeL (b::c::t)=(b.toNat%32*64+c.toNat%64,2):=by
 rw[Lib.decodeL_N]
 grind [Lib.decodeN]
theorem dec3{b c d:UInt8}(h0:¬b.toNat<128)(h1:b.toNat / 16=14)(h2:c.toNat / 64=2)(h3:d.toNat / 64=2)
  (hr:b.toNat%16*4096+c.toNat%64*64+d.toNat%64≥2048∧(b.toNat%16*4096+c.toNat%64*64+d.toNat%64<55296∨(57344≤b.toNat%16*4096+c.toNat%64*64+d.toNat%64∧b.toNat%16*4096+c.toNat%64*64+d.toNat%64≤1114111))) (t:zB):
  Lib.decodeL (b::c::d::t)=(b.toNat%16*4096+c.toNat%64*64+d.toNat%64,3):=by
 rw[Lib.decodeL_N]
 grind [Lib.decodeN]
theorem dec4{b c d e:UInt8}(h0:¬b.toNat<128)(h1:b.toNat / 8=30)(h2:c.toNat / 64=2)(h3:d.toNat / 64=2)(h4:e.toNat / 64=2)
  (hr:b.toNat%8*262144+c.toNat%64*4096+d.toNat%64*64+e.toNat%64≥65536∧(b.toNat%8*262144+c.toNat%64*4096+d.toNat%64*64+e.toNat%64<55296∨(57344≤b.toNat%8*262144+c.toNat%64*4096+d.toNat%64*64+e.toNat%64∧b.toNat%8*262144+c.toNat%64*4096+d.toNat%64*64+e.toNat%64≤1114111))) (t:zB):
  Lib.decodeL (b::c::d::e::t)=(b.toNat%8*262144+c.toNat%64*4096+d.toNat%64*64+e.toNat%64,4):=by
 rw[Lib.decodeL_N]
 grind [Lib.decodeN]
theorem rl_of{n:Nat}{k:Int}(h:(n<128∧k=1)∨(128≤n∧n<2048∧k=2)∨(2048≤n∧(n<55296∨57344≤n)∧n<65536∧k=3)∨(65536≤n∧n≤1114111∧k=4)):Lib.runeLen (n:Int)=k:=by
 grind [Lib.runeLen]
theorem one_of{r:zB}(h:1≤r.length):∃c t,r=c::t:=by
 match r,h with
 |c::t,_=>simp
theorem two_of{r:zB}(h:2≤r.length):∃c d t,r=c::d::t:=by
 match r,h with
 |c::d::t,_=>simp
theorem three_of{r:zB}(h:3≤r.length):∃c d e t,r=c::d::e::t:=by
 match r,h with
 |c::d::e::t,_=>simp
theorem sgn_of{l:zB}(hne:l≠[])(hv:¬((Lib.decodeL l).1=65533∧(Lib.decodeL l).2=1))(hp:plainR (Lib.decodeL l).1=true):Sgn (l.take (Lib.decodeL l).2):=by
 obtain⟨b,r,rfl⟩:=List.exists_cons_of_ne_nil hne;have hN:=Lib.decodeL_N (b::r);unfold Lib.decodeN at hN;by_cases h0:b.toNat<128
 ·have hd:=fun t=>Lib.decodeL_ascii b t h0;rw[hd]at hp hv ⊢;rw[List.take_succ_cons,List.take_zero];exact⟨by simp,by simp,fun t=>by rw[List.singleton_append,hd,hd];rfl,by rw[hd];exact rl_of (.inl ⟨h0,rfl⟩),by rw[hd];simp;omega,.inl h0,by simp,by rw[hd];exact hp⟩
 ·simp only[List.getD_cons_zero,if_neg h0,List.getD_cons_succ,List.length_cons]at hN;split at hN
  ·rename_i h1;split at hN
   ·rename_i h2;obtain⟨c,t,rfl⟩:=one_of (r:=r) (by omega)
    ·simp only[List.getD_cons_zero]at h1 h2;have hd:=fun t=>dec2 h0 h1.1 h1.2.2 h2 t;rw[hd]at hp hv ⊢;simp;refine⟨by simp,by simp,fun t=> ?_,by rw[hd];exact rl_of (.inr (.inl ⟨h2,by omega,rfl⟩)),by simp,.inr (by grind),?_,by rw[hd];exact hp⟩
     ·grind
     ·grind
   ·grind
  split at hN
  ·rename_i h1;split at hN
   ·rename_i h2;obtain⟨c,d,t,rfl⟩:=two_of (r:=r) (by omega)
    ·simp only[List.getD_cons_zero,List.getD_cons_succ]at h1 h2;have hd:=fun t=>dec3 h0 h1.1 h1.2.1.2 h1.2.2.2 h2 t;rw[hd]at hp hv ⊢;simp;refine⟨by simp,by simp,fun t=> ?_,by rw[hd];exact rl_of (.inr (.inr (.inl ⟨h2.1,by omega,by omega,rfl⟩))),by simp,.inr (by grind),?_,by rw[hd];exact hp⟩
     ·grind
     ·grind
   ·grind
  split at hN
  ·rename_i h1;split at hN
   ·rename_i h2;obtain⟨c,d,e,t,rfl⟩:=three_of (r:=r) (by omega)
    ·simp only[List.getD_cons_zero,List.getD_cons_succ]at h1 h2;have hd:=fun t=>dec4 h0 h1.1 h1.2.1.2 h1.2.2.1.2 h1.2.2.2.2 h2 t;rw[hd]at hp hv ⊢;simp;refine⟨by simp,by simp,fun t=> ?_,by rw[hd];exact rl_of (.inr (.inr (.inr ⟨h2.1,by omega,rfl⟩))),by simp,.inr (by grind),?_,by rw[hd];exact hp⟩
     ·grind
     ·grind
   ·grind
  ·grind
theorem Sgn.ne{g:zB}(h:Sgn g):g≠[]:=by intro e;have:=h.pos;rw[e]at this;simp at this
def Txt(gs:List (zB)):Prop:=∀g∈gs,Sgn g
theorem Txt.tail{g:zB}{gs:List (zB)}(h:Txt (g::gs)):Txt gs:=fun x hx=>h x (List.mem_cons_of_mem _ hx)
theorem Txt.head{g:zB}{gs:List (zB)}(h:Txt (g::gs)):Sgn g:=h g (List.mem_cons_self ..)
theorem Txt.take{gs:List (zB)}(h:Txt gs)(n:Nat):Txt (gs.take n):=fun x hx=>h x (List.mem_of_mem_take hx)
theorem Txt.drop{gs:List (zB)}(h:Txt gs)(n:Nat):Txt (gs.drop n):=fun x hx=>h x (List.mem_of_mem_drop hx)
theorem Txt.app{gs hs:List (zB)}(h:Txt gs)(h':Txt hs):Txt (gs++hs):=fun x hx=>(List.mem_append.1 hx).elim (h x) (h' x)
theorem txt_of:∀(n:Nat) (s:zB),s.length≤n→Lib.validD s=true→plainD s=true→∃gs,Txt gs∧gs.flatten=s
 |0,s,h,_,_=>by
  obtain rfl:=List.eq_nil_of_length_eq_zero (Nat.le_zero.1 h);exact⟨[],by intro g hg;simp at hg,rfl⟩
 |n+1,s,h,hv,hp=>by
  by_cases hne:s=[]
  ·subst hne;exact⟨[],by intro g hg;simp at hg,rfl⟩
  rw[Lib.validD_step s hne]at hv;rw[z169 s hne,Bool.and_eq_true]at hp;split at hv
  ·cases hv
  ·rename_i hok;have hw:=Lib.decodeL_width s;obtain⟨gs,h1,h2⟩:=txt_of n (s.drop (Lib.decodeL s).2) (by grind) hv hp.2;refine⟨s.take (Lib.decodeL s).2::gs,fun g hg=> ?_,by rw[List.flatten_cons,h2,List.take_append_drop]⟩;rcases List.mem_cons.1 hg with rfl|hg
   ·grind [sgn_of]
   ·exact h1 g hg
theorem txt_dec{g:zB}{gs:List (zB)}(h:Txt (g::gs)):Lib.decodeL (g::gs).flatten=((Lib.decodeL g).1,g.length):=by rw[List.flatten_cons];exact h.head.dec _
theorem flat_ne{g:zB}{gs:List (zB)}(h:Txt (g::gs)):(g::gs).flatten≠[]:=by
 rw[List.flatten_cons];intro e;exact h.head.ne (List.append_eq_nil_iff.1 e).1
theorem flat_drop{g:zB}{gs:List (zB)}:((g::gs).flatten).drop g.length=gs.flatten:=by simp
theorem txt_valid:∀(gs:List (zB)),Txt gs→Lib.validD gs.flatten=true∧plainD gs.flatten=true
 |[],_=>⟨rfl,rfl⟩
 |g::gs,h=>by
  obtain⟨h1,h2⟩:=txt_valid gs h.tail;rw[Lib.validD_step _ (flat_ne h),z169 _ (flat_ne h),txt_dec h];simp only[flat_drop];rw[if_neg h.head.ok,h1,h2,h.head.pl];simp
theorem txt_right{gs:List (zB)}(h:Txt gs)(hl:gs.flatten.length≤60):z18 gs.flatten=true:=by
 grind [txt_valid,z18]
theorem z179{s:zB}(h:z18 s=true):∃gs,Txt gs∧gs.flatten=s∧s.length≤60:=by
 unfold z18 at h;rw[Bool.and_eq_true,Bool.and_eq_true,decide_eq_true_eq]at h;obtain⟨gs,h1,h2⟩:=txt_of s.length s (Nat.le_refl _) h.2.1 h.2.2
 grind
theorem flat_len:∀(gs:List (zB)),Txt gs→gs.length≤gs.flatten.length
 |[],_=>by simp
 |g::gs,h=>by
  have:=flat_len gs h.tail;have:=h.head.pos
  grind
theorem behGo_txt:∀(gs:List (zB)) (f a k:Nat) (n:Int),Txt gs→gs.flatten.length≤f→behGo f gs.flatten a k n=a+(gs.take (n-k).toNat).flatten.length
 |[],f,a,k,n,_,_=>by cases f<;>simp[behGo]
 |g::gs,f,a,k,n,h,hf=>by
  have hp:=h.head.pos;rw[List.flatten_cons,List.length_append]at hf;obtain⟨j,rfl⟩:∃j,f=j+1:=⟨f-1,by omega⟩
  rw[behGo,if_neg (flat_ne h),txt_dec h];simp only[flat_drop];by_cases hk:n≤(k:Int)
  ·simp_all
  ·rw[if_neg hk,behGo_txt gs j _ (k+1) n h.tail (by omega),show(n-(k:Int)).toNat=(n-((k+1:Nat):Int)).toNat+1 by omega,List.take_succ_cons,List.flatten_cons,List.length_append];omega
theorem beh_txt{gs:List (zB)}(h:Txt gs)(n:Int):behV gs.flatten n=(gs.take n.toNat).flatten.length:=by
 unfold behV;rw[behGo_txt gs _ 0 0 n h (Nat.le_refl _)];simp
theorem z185(gs:List (zB))(n:Nat):gs.flatten=(gs.take n).flatten++(gs.drop n).flatten:=by
 rw[←List.flatten_append,List.take_append_drop]
theorem take_beh{gs:List (zB)}(h:Txt gs)(n:Int):gs.flatten.take (behV gs.flatten n)=(gs.take n.toNat).flatten:=by
 grind [beh_txt,z185,List.take_left]
theorem drop_beh{gs:List (zB)}(h:Txt gs)(n:Int):gs.flatten.drop (behV gs.flatten n)=(gs.drop n.toNat).flatten:=by
 grind [beh_txt,z185,List.drop_left]
theorem cutGo_txt:∀(gs:List (zB)) (f a:Nat),Txt gs→gs.flatten.length≤f→a≤60→∃k,k≤gs.length∧cutGo f gs.flatten a=a+(gs.take k).flatten.length∧a+(gs.take k).flatten.length≤60∧(k=gs.length∨60<a+(gs.take (k+1)).flatten.length)
 |[],f,a,_,_,ha=>⟨0,by simp,by cases f<;>simp[cutGo],by simpa using ha,.inl rfl⟩
 |g::gs,f,a,h,hf,ha=>by
  have hp:=h.head.pos;rw[List.flatten_cons,List.length_append]at hf;obtain⟨j,rfl⟩:∃j,f=j+1:=⟨f-1,by omega⟩
  rw[cutGo,if_neg (flat_ne h),txt_dec h];rw[h.head.rl];by_cases hk:(60:Int)<(a:Int)+(g.length:Int)
  ·rw[if_pos hk];refine⟨0,by simp,by simp,by simpa using ha,.inr ?_⟩
   grind
  ·rw[if_neg hk];obtain⟨k,h1,h2,h3,h4⟩:=cutGo_txt gs j (a+g.length) h.tail (by omega) (by omega);refine⟨k+1,by simpa using h1,?_,?_,?_⟩
   ·grind
   ·grind
   ·grind
theorem cut_txt{gs:List (zB)}(h:Txt gs):∃k,k≤gs.length∧cutT gs.flatten=(gs.take k).flatten∧(gs.take k).flatten.length≤60∧(k=gs.length∨60<(gs.take (k+1)).flatten.length):=by
 obtain⟨k,h1,h2,h3,h4⟩:=cutGo_txt gs _ 0 h (Nat.le_refl _) (by omega)
 grind [cutT,z185,List.take_left]
theorem take_flat_le(gs:List (zB))(k:Nat):(gs.take k).flatten.length≤gs.flatten.length:=by
 grind [List.length,z185,List.length_append]
theorem cut_id{gs:List (zB)}(h:Txt gs)(hl:gs.flatten.length≤60):cutT gs.flatten=gs.flatten:=by
 grind [cut_txt,List.take_length,take_flat_le]
theorem cut_right{gs:List (zB)}(h:Txt gs):z18 (cutT gs.flatten)=true:=by
 obtain⟨k,h1,h2,h3,_⟩:=cut_txt h;rw[h2];exact txt_right (h.take k) h3
theorem cut_of_right{s:zB}(h:z18 s=true):cutT s=s:=by
 grind [z179,cut_id]
theorem sgn_ascii{b:UInt8}(h0:32≤b.toNat)(h1:b.toNat<127):Sgn [b]:=by
 grind [Lib.decodeL_ascii,plainR,sgn_of]
theorem txt_ascii{s:zB}(h:∀b∈s,32≤b.toNat∧b.toNat<127):Txt (s.map fun b=>[b])∧(s.map fun b=>[b]).flatten=s:=by
 refine⟨fun g hg=> ?_,?_⟩
 ·grind [sgn_ascii]
 ·induction s<;>simp_all
section
theorem cutN_rng(n:Int): -1000000000000000≤cutN n∧cutN n≤1000000000000000:=by grind [cutN]
theorem z67(n:Int):fitsV (numE n) ⟨1,0⟩=true:=by
 have:=cutN_rng n;unfold numE;simp[fitsV,rightV,right1,bare,z16,ofKind,V.k,V.n,V.s,V.l,this.1,this.2]
theorem z158{s:zB}(h:z18 s=true):fitsV (.mk 2 0 s []) ⟨2,0⟩=true:=by
 simp[fitsV,rightV,right1,z16,ofKind,V.k,V.n,V.s,V.l,h]
theorem fits_right{v:V}{t:Ty}(h:fitsV v t=true):rightV v=true:=by
 unfold fitsV at h;simp at h;exact h.1.1.1
theorem fits_kind{v:V}{t:Ty}(h:fitsV v t=true)(hk:t.k≠3)(hk4:t.k≠4):v.k=t.k:=by
 grind [fitsV,ofKind]
theorem text_of{v:V}{t:Ty}(h:fitsV v t=true)(hk:t.k=2):v.k=2∧v.n=0∧v.l=[]∧z18 v.s=true:=by
 have h1:=fits_kind h (by omega) (by omega);have h2:=fits_right h
 grind [rightV,right1]
theorem num_of{v:V}{t:Ty}(h:fitsV v t=true)(hk:t.k=1):v.k=1∧ -1000000000000000≤v.n∧v.n≤1000000000000000∧v.s=[]∧v.l=[]:=by
 have h1:=fits_kind h (by omega) (by omega);have h2:=fits_right h
 grind [rightV,right1,bare]
theorem right_of_text{s:zB}(h:z18 s=true):z18 (cutT s)=true:=by grind [cut_of_right]
theorem cut_app{s t:zB}(hs:z18 s=true)(ht:z18 t=true):z18 (cutT (s++t))=true:=by
 obtain⟨gs,h1,rfl,_⟩:=z179 hs;obtain⟨hs',h2,rfl,_⟩:=z179 ht;rw[←List.flatten_append];exact cut_right (h1.app h2)
theorem cut_take{s:zB}(hs:z18 s=true)(n:Int):z18 (cutT (s.take (behV s n)))=true:=by
 obtain⟨gs,h1,rfl,_⟩:=z179 hs;rw[take_beh h1];exact cut_right (h1.take _)
theorem cut_drop{s:zB}(hs:z18 s=true)(n:Int):z18 (cutT (s.drop (behV s n)))=true:=by
 obtain⟨gs,h1,rfl,_⟩:=z179 hs;rw[drop_beh h1];exact cut_right (h1.drop _)
theorem itoa_ascii(n:Int):∀b∈Lib.itoa n,32≤b.toNat∧b.toNat<127:=by
 have hd:∀m:Nat,∀b∈Lib.decDigits m,32≤b.toNat∧b.toNat<127:=by
  intro m
  induction m using Nat.strongRecOn with
  |_ m ih=>
   intro b hb;by_cases hm:m<10
   ·rw[Lib.decDigits_one hm]at hb
    grind [digC]
   ·rw[Lib.decDigits,dif_neg hm,List.mem_append]at hb;rcases hb with hb|hb
    ·grind
    ·simp only[List.mem_cons,List.not_mem_nil,or_false]at hb
     grind [digC]
 intro b hb;unfold Lib.itoa at hb;split at hb
 ·rcases List.mem_cons.1 hb with rfl|hb<;>grind
 ·grind
theorem cut_itoa(n:Int):z18 (cutT (Lib.itoa n))=true:=by
 obtain⟨h1,h2⟩:=txt_ascii (itoa_ascii n)
 grind [cut_right]
theorem z79{k:Int}{ks:List Int}{ps:List Ty}{t:Ty}(h:takeT k ks ps=(t,true)):t=⟨k,0⟩∧takeG ps ks=true:=by
 grind [takeT]
theorem takeG_at:∀{ps:List Ty} {ks:List Int} {i:Nat} {t:Ty},takeG ps ks=true→ps[i]?=some t→ks[i]?=some t.k
 |t::l,k::r,0,t',h,e=>by
  cases e;rw[takeG,Bool.and_eq_true,beq_iff_eq]at h;simp[h.1]
 |t::l,k::r,i+1,t',h,e=>by
  rw[takeG,Bool.and_eq_true]at h;have:=takeG_at (ps:=l) (ks:=r) (i:=i) (t:=t') h.2 (by grind)
  grind
 |t::l,[],_,_,h,_=>by simp[takeG]at h
 |[],_,_,_,_,e=>by simp at e
theorem kidsT_at{t:V→Ty×Bool}:∀{l:List V} {ps:List Ty},kidsT t l=some ps→ps.length=l.length∧∀(i:Nat) x,l[i]?=some x→(t x).2=true∧ps[i]?=some (t x).1
 |[],ps,h=>by cases h;exact⟨rfl,fun i x e=>by simp at e⟩
 |x::l,ps,h=>by
  unfold kidsT at h;split at h
  ·rename_i h1;obtain⟨qs,h2,rfl⟩:=gO h;obtain⟨h3,h4⟩:=kidsT_at h2
   grind
  ·cases h
def FitAll(fs:List Fld)(vals:List V):Prop:=(∀f∈fs,z16 f.t=true)∧vals.length=fs.length∧∀(i:Nat) f v,fs[i]?=some f→vals[i]?=some v→fitsV v f.t=true
theorem getD_at{α:Type}{l:List α}{i:Nat}{x d:α}(h:l[i]?=some x):l.getD i d=x:=by grind
theorem field_at{fs:List Fld}{vals:List V}(hf:FitAll fs vals){s:zB}(h:¬fieldAt fs s<0):∃f v,fs[(fieldAt fs s).toNat]?=some f∧vals[(fieldAt fs s).toNat]?=some v∧fitsV v f.t=true∧f.n=s:=by
 obtain⟨k,hk⟩:∃k:Nat,fieldAt fs s=k:=⟨(fieldAt fs s).toNat,by omega⟩
 obtain⟨f,h1,h2⟩:=z135 _ _ k hk;rw[hk,Int.toNat_natCast];have hlt:k<vals.length:=by rw[hf.2.1];exact(gJ h1).1
 exact⟨f,vals[k],h1,gE hlt,hf.2.2 k f _ h1 (gE hlt),by simpa using h2⟩
theorem z148{s:zB}(h:0<takesV s):s=nLen∨s=nText∨s=nNum∨s=nLeft∨s=nRight∨s=nFrom∨s=nFind∨s=nMin∨s=nMax∨s=nIf:=by
 unfold takesV at h;split at h
 ·grind [nLen,nText,nNum]
 grind [nLeft,nRight,nFrom,nFind,nMin,nMax,nIf]
theorem alike_inv{a b:Ty}(h:alikeT a b=true):a=b∧(a.k=1∨a.k=2):=by
 unfold alikeT eqTy at h;obtain⟨ak,ao⟩:=a;obtain⟨bk,bo⟩:=b
 grind
section
variable{fs:List Fld}{vals:List V}
def PartsFit(ws:List V)(ps:List Ty):Prop:=ws.length=ps.length∧∀(i:Nat) w t,ws[i]?=some w→ps[i]?=some t→fitsV w t=true
theorem part_fit{ws:List V}{ps:List Ty}(h:PartsFit ws ps){i:Nat}(hi:i<ps.length){k:Int}(hk:(ps.getD i ty0).k=k):fitsV (ws.getD i V.nil) (ps.getD i ty0)=true:=by
 rw[List.getD_eq_getElem?_getD,List.getD_eq_getElem?_getD,gE hi,gE (by rw[h.1];exact hi)];exact h.2 i _ _ (gE (by rw[h.1];exact hi)) (gE hi)
theorem kind_of{ps:List Ty}{ks:List Int}(h:takeG ps ks=true){i:Nat}(hi:i<ps.length):ks[i]?=some (ps.getD i ty0).k:=by
 grind [List.getElem?_eq_getElem,takeG_at]
theorem node_fits(hf:FitAll fs vals){e:V}(hn:nodeE e=true){ps:List Ty}{ws:List V}(hl:ps.length=e.l.length)(hp:PartsFit ws ps){t:Ty}(ht:nodeT fs e ps=(t,true)):fitsV (nodeW fs vals e ws) t=true:=by
  unfold nodeT at ht
  unfold nodeW
  rcases z159 hn with k|k|k|k|k|k
  · rw[if_neg (by omega),if_neg (by omega),if_neg (by omega),if_neg (by omega),if_neg (by omega)]at ht ⊢
    cases ht;exact z67 _
  · rw[if_pos k]at ht ⊢
    cases ht;exact z158 (right_of_text (node2 hn k).2.1)
  · rw[if_neg (by omega),if_pos k]at ht ⊢
    split at ht
    · cases ht
    · rename_i hne
      obtain⟨f,v,h1,h2,h3,_⟩:=field_at hf hne
      rw[getD_at h1]at ht
      cases ht
      rw[getD_at h2];exact h3
  · rw[if_neg (by omega),if_neg (by omega),if_pos k]at ht ⊢
    obtain⟨_,hb,a,b,hab⟩:=node4 hn k
    rw[hab]at hl
    have hl:ps.length=2:=hl
    unfold operT at ht
    unfold opV
    split at ht
    · rename_i h1
      obtain⟨rfl,_⟩:=z79 ht
      rcases h1 with h1|h1|h1|h1|h1<;>simp only[h1]
      · exact z67 _
      · exact z67 _
      · exact z67 _
      · exact z67 _
      · exact z67 _
    · rename_i h1
      rw[not_or,not_or,not_or,not_or]at h1
      rw[if_neg h1.2.1,if_neg h1.1,if_neg h1.2.2.1,if_neg (by rw[not_or];exact h1.2.2.2)]
      split at ht
      · rename_i h2
        rw[if_pos h2]
        obtain⟨rfl,hg⟩:=z79 ht
        have k0:=kind_of hg (i:=0) (by omega)
        have k1:=kind_of hg (i:=1) (by omega)
        simp at k0 k1
        have f0:=text_of (part_fit hp (i:=0) (by omega) rfl) k0.symm
        have f1:=text_of (part_fit hp (i:=1) (by omega) rfl) k1.symm
        exact z158 (cut_app f0.2.2.2 f1.2.2.2)
      · rename_i h2
        rw[if_neg h2]
        have:t=⟨1,0⟩:=by injection ht with h1 h2;exact h1.symm
        subst this
        split<;>exact z67 _
  · rw[if_neg (by omega),if_neg (by omega),if_neg (by omega),if_pos k]at ht ⊢
    obtain⟨rfl,_⟩:=z79 ht
    exact z67 _
  · rw[if_neg (by omega),if_neg (by omega),if_neg (by omega),if_neg (by omega),if_pos k]at ht ⊢
    obtain⟨_,hb,hlen⟩:=node6 hn k
    have hc:=z148 hb
    generalize e.s=s at hc ht hlen
    have tx:∀(i:Nat),i<ps.length→(ps.getD i ty0).k=2→z18 (ws.getD i V.nil).s=true:=fun i hi hk=>(text_of (part_fit hp hi rfl) hk).2.2.2
    have kd:∀{ks:List Int} (i:Nat),takeG ps ks=true→i<ps.length→∀q,ks[i]?=some q→(ps.getD i ty0).k=q:=fun i hg hi q hq=>by
      have:=kind_of hg hi;rw[hq]at this;exact(Option.some.inj this).symm
    rcases hc with rfl|rfl|rfl|rfl|rfl|rfl|rfl|rfl|rfl|rfl
    · obtain⟨rfl,hg⟩:=z79 (show takeT 1 [2] ps=(t,true) from ht);exact z67 _
    · obtain⟨rfl,hg⟩:=z79 (show takeT 2 [1] ps=(t,true) from ht);exact z158 (cut_itoa _)
    · obtain⟨rfl,hg⟩:=z79 (show takeT 1 [2] ps=(t,true) from ht);exact z67 _
    · obtain⟨rfl,hg⟩:=z79 (show takeT 2 [2,1] ps=(t,true) from ht)
      have h2 : ps.length = 2 := by have : takesV nLeft = 2 := by decide
                                    omega
      exact z158 (cut_take (tx 0 (by omega) (kd 0 hg (by omega) 2 rfl)) _)
    · obtain⟨rfl,hg⟩:=z79 (show takeT 2 [2,1] ps=(t,true) from ht)
      have h2 : ps.length = 2 := by have : takesV nRight = 2 := by decide
                                    omega
      exact z158 (cut_drop (tx 0 (by omega) (kd 0 hg (by omega) 2 rfl)) _)
    · obtain⟨rfl,hg⟩:=z79 (show takeT 2 [2,1] ps=(t,true) from ht)
      have h2 : ps.length = 2 := by have : takesV nFrom = 2 := by decide
                                    omega
      exact z158 (cut_drop (tx 0 (by omega) (kd 0 hg (by omega) 2 rfl)) _)
    · obtain⟨rfl,hg⟩:=z79 (show takeT 1 [2,2] ps=(t,true) from ht);exact z67 _
    · obtain⟨rfl,hg⟩:=z79 (show takeT 1 [1,1] ps=(t,true) from ht);exact z67 _
    · obtain⟨rfl,hg⟩:=z79 (show takeT 1 [1,1] ps=(t,true) from ht);exact z67 _
    · have h3 : ps.length = 3 := by have : takesV nIf = 3 := by decide
                                    omega
      have ht':z95 ps=(t,true):=ht
      unfold z95 at ht'
      split at ht'
      · rename_i h1
        obtain⟨h4,h5⟩:=alike_inv h1.2
        cases ht'
        show fitsV (if(ws.getD 0 V.nil).n≠0 then ws.getD 1 V.nil else ws.getD 2 V.nil) _=true
        split
        · exact part_fit hp (by omega) rfl
        · rw[h4];exact part_fit hp (by omega) rfl
      · cases ht'
theorem z184(hf:FitAll fs vals):∀(d:Nat) (e:V) (t:Ty),okE d e=true→typeV fs d e=(t,true)→fitsV (worthV fs vals d e) t=true
 |0,e,t,h,_=>by simp[okE]at h
 |d+1,e,t,h,ht=>by
  obtain⟨hn,hk⟩:=ok_kids h;unfold typeV at ht;cases hp:kidsT (typeV fs d) e.l with
  |none=>grind
  |some ps=>
   rw[hp]at ht;obtain⟨h1,h2⟩:=kidsT_at hp;refine node_fits hf hn h1 ⟨by rw[List.length_map,h1],fun i w u hw hu=> ?_⟩ ht;rw[List.getElem?_map]at hw;obtain⟨x,hx,rfl⟩:=gO hw;obtain⟨h3,h4⟩:=h2 i x hx;exact z184 hf d x _ (hk x (gM hx)) (by grind)
end
end
theorem z109{l:zB}(h:l≠[]):1≤(Lib.decodeL l).2∧(Lib.decodeL l).2≤l.length:=by
 grind [Lib.decodeL_width,Lib.decodeL_le]
theorem cutGo_more:∀(f:Nat) (l:zB) (a:Nat),l.length≤f→cutGo f l a=cutGo l.length l a:=by
 intro f
 induction f using Nat.strongRecOn with
 |_ f ih=>
  intro l a hl;cases f with
  |zero=>grind
  |succ f=>
   by_cases h:l=[]
   ·grind [cutGo]
   ·obtain⟨n,hn⟩:∃n,l.length=n+1:=⟨l.length-1,by have:=List.length_pos_iff.2 h;omega⟩
    grind [z109,Lib.decodeL,List.length_drop,cutGo]
def cutP(l:zB)(a:Nat):Nat:=cutGo l.length l a
theorem cutP_step(l:zB)(a:Nat):cutP l a=if l=[] then a else if 60<(a:Int)+Lib.runeLen ((Lib.decodeL l).1:Int)then a else cutP (l.drop (Lib.decodeL l).2) (a+(Lib.decodeL l).2):=by
 unfold cutP;by_cases h:l=[]
 ·subst h;rfl
 ·obtain⟨n,hn⟩:∃n,l.length=n+1:=⟨l.length-1,by have:=List.length_pos_iff.2 h;omega⟩
  grind [z109,Lib.decodeL,List.length_drop,cutGo,cutGo_more]
theorem cutT_P(s:zB):cutT s=s.take (cutP s 0):=rfl
theorem signsGo_more:∀(f:Nat) (l:zB),l.length≤f→signsGo f l=signsGo l.length l:=by
 intro f
 induction f using Nat.strongRecOn with
 |_ f ih=>
  intro l hl;cases f with
  |zero=>grind
  |succ f=>
   by_cases h:l=[]
   ·grind [signsGo]
   ·obtain⟨n,hn⟩:∃n,l.length=n+1:=⟨l.length-1,by have:=List.length_pos_iff.2 h;omega⟩
    grind [z109,Lib.decodeL,List.length_drop,signsGo]
theorem signs_step(l:zB):signsV l=if l=[] then 0 else signsV (l.drop (Lib.decodeL l).2)+1:=by
 unfold signsV;by_cases h:l=[]
 ·subst h;rfl
 ·obtain⟨n,hn⟩:∃n,l.length=n+1:=⟨l.length-1,by have:=List.length_pos_iff.2 h;omega⟩
  grind [z109,Lib.decodeL,List.length_drop,signsGo,signsGo_more]
theorem signs_le:∀(n:Nat) (l:zB),l.length≤n→signsV l≤l.length:=by
 intro n
 induction n using Nat.strongRecOn with
 |_ n ih=>
  intro l hl;rw[signs_step];split
  ·omega
  ·rename_i h;have hd:=z109 h;have h1:(l.drop (Lib.decodeL l).2).length<n:=by grind
   grind
theorem behGo_more:∀(f:Nat) (l:zB) (a k:Nat) (n:Int),l.length≤f→behGo f l a k n=behGo l.length l a k n:=by
 intro f
 induction f using Nat.strongRecOn with
 |_ f ih=>
  intro l a k m hl;cases f with
  |zero=>grind
  |succ f=>
   by_cases h:l=[]
   ·grind [behGo]
   ·obtain⟨n,hn⟩:∃n,l.length=n+1:=⟨l.length-1,by have:=List.length_pos_iff.2 h;omega⟩
    grind [z109,Lib.decodeL,List.length_drop,behGo]
def behP(l:zB)(a k:Nat)(n:Int):Nat:=behGo l.length l a k n
theorem behP_step(l:zB)(a k:Nat)(m:Int):behP l a k m=if l=[] then a else if m≤(k:Int)then a else behP (l.drop (Lib.decodeL l).2) (a+(Lib.decodeL l).2) (k+1) m:=by
 unfold behP;by_cases h:l=[]
 ·subst h;rfl
 ·obtain⟨n,hn⟩:∃n,l.length=n+1:=⟨l.length-1,by have:=List.length_pos_iff.2 h;omega⟩
  grind [z109,Lib.decodeL,List.length_drop,behGo,behGo_more]
theorem behV_P(s:zB)(n:Int):behV s n=behP s 0 0 n:=rfl
theorem behP_le:∀(n:Nat) (l:zB) (a k:Nat) (m:Int),l.length≤n→a≤behP l a k m∧behP l a k m≤a+l.length:=by
 intro n
 induction n using Nat.strongRecOn with
 |_ n ih=>
  intro l a k m hl;rw[behP_step];split
  ·omega
  ·rename_i h;have hd:=z109 h;split
   ·omega
   ·have h1:(l.drop (Lib.decodeL l).2).length<n:=by rw[List.length_drop];omega
    have h2:=ih _ h1 (l.drop (Lib.decodeL l).2) (a+(Lib.decodeL l).2) (k+1) m (Nat.le_refl _);rw[List.length_drop]at h2;omega
theorem behV_le(s:zB)(n:Int):behV s n≤s.length:=by
 have:=(behP_le _ s 0 0 n (Nat.le_refl _)).2;rw[behV_P];omega
end Go.Mor
end

section
namespace Go.Sh
open Go Go.RowKit
def z125:Nat→Nat→List TV
 |_,0=>[]
 |d,n+1=> .ptr d 0::z125 (d+1) n
theorem ptrs_get:∀(n d j:Nat),j<n→(z125 d n)[j]?=some (.ptr (d+j) 0)
 |0,d,j,h=>by omega
 |n+1,d,0,_=>rfl
 |n+1,d,j+1,h=>by
  rw[z125,List.getElem?_cons_succ,ptrs_get n (d+1) j (by omega)]
  grind
theorem ptrs_len:∀(n d:Nat),(z125 d n).length=n
 |0,_=>rfl
 |n+1,d=>by rw[z125,List.length_cons,ptrs_len n (d+1)]
theorem SCalls.frz{P:Program}{g:Glob}{f:Nat}{xs:List TV}{k:Fn}{pss:List (List PV)}(h:SCalls P g f xs [] (.fn k [] (z125 1000 pss.length)) (pss.map fun ps=> .box (ps.map .pv))):SCalls P g f xs [] (.pv (.fn k [] (pss.map .el))) []:=by
 refine⟨h.1,fun w E vs hG hm hX hl hr=>(h.2 w E vs hG hm hX hl hr).mono ?_⟩;rintro e w' ⟨v,E',h1,h2,h3,h4⟩;have hob:∀(j:Nat) ps,pss[j]?=some ps→objB (pss.map fun ps=>MO.box (ps.map TV.pv)) (1000+j)=some (ps.map TV.pv):=fun j ps hj=>by
  grind [objB,Nat.add_sub_cancel_left]
 let K':Nat→Nat→Prop:=fun b o=>E'.K b o∨∃(j:Nat) (ps:List PV),pss[j]?=some ps∧b=E'.β (1000+j)∧o<ps.length
 have hk:∀b o u,E'.K b o→w'.cell? ⟨b,o,none⟩=some u→K' b o∧w'.cell? ⟨b,o,none⟩=some u:=fun b o u h1 h2=>⟨.inl h1,h2⟩
 have ho:∀d,¬(start w E [] 0).old d:=fun d h=>by have h1:=h.1;have h2:d<1000+0:=h.2;omega
 refine⟨v,{ E' with K:=K' },h1,⟨fun d cs hd=> ?_,fun d e W n hd=> ?_,fun d d' cs cs' hd=> ?_,fun d d' cs q k cap hd=> ?_,fun d d' q q' k cap cap' hd=> ?_,fun k o hko=> ?_,h2.low,fun k o u a1 a2=>⟨.inl (h2.keep k o u a1 a2).1,(h2.keep k o u a1 a2).2⟩,fun k o hko=> ?_,⟨fun d hd=>absurd hd (ho d),fun d hd=>absurd hd (ho d),fun d e W n hd=>absurd hd (ho d)⟩⟩,?_,⟨fun d h1 h2=> ?_,fun d h1 h2=> ?_,fun d e W n hd=> ?_⟩⟩
 ·simp[objB]at hd
 ·simp[objR]at hd
 ·simp[objB]at hd
 ·simp[objB]at hd
 ·simp[objR]at hd
 ·rcases hko with hko|⟨j,ps,hj,rfl,_⟩
  ·exact h2.lt k o hko
  ·exact(h2.box _ _ (hob j ps hj)).1.lt
 ·rcases hko with hko|⟨j,ps,hj,rfl,_⟩
  ·exact h2.knew k o hko
  ·rcases(h2.box _ _ (hob j ps hj)).2 with h5|h5<;>grind
 ·cases h3 with
  |fn _ _ _ us us' e1 e2 r1 r2=>
   have hus:us=[]:=List.eq_nil_of_length_eq_zero e1.symm;subst hus;rw[ptrs_len]at e2;refine .pv (.fn k [] (pss.map .el) [] us' rfl (by grind) (fun j c v hc=>by simp at hc) (fun j c u hc hu=> ?_));rw[List.getElem?_map]at hc;obtain⟨ps,hps,rfl⟩:=gO hc;have hjl:j<pss.length:=(gJ hps).1;have hrel:=r2 j _ u (ptrs_get pss.length 1000 j hjl) hu;cases hrel;obtain⟨hbx,_⟩:=h2.box _ _ (hob j ps hps);have hcell:∀(i:Nat) c,ps[i]?=some c→∃v,w'.cell? ⟨E'.β (1000+j),i,none⟩=some v∧one v∧RelV w' E'.K c v:=fun i c hi=>by
    obtain⟨v,c1,c2,c3⟩:=hbx.cell i (.pv c) (by grind);cases c3 with|pv c3=>exact⟨v,c1,c2,c3⟩
   refine .el ps (E'.β (1000+j)) 0 (fun i=>(w'.cell? ⟨E'.β (1000+j),i,none⟩).getD undef) (fun i c hi=> ?_) (fun i c hi=> ?_)
   ·grind
   ·obtain⟨v,c1,c2,c3⟩:=hcell i c hi;rw[c1];exact c3.mono hk
 ·grind
 ·grind
 ·simp[objR]at hd
end Go.Sh
end

section
namespace Go.Proofs.YtcpaleaajdilgaaGreatDoor
open Go Go.RowKit Go.Mor Go.Sh
section
open Go.Sh.Cd1 Go.Sh.Cd6
def tyP(t:Ty):List PV:=[.v (.int .i64 t.k),.v (.int .i64 t.o)]
def tyC(ps:List Ty):List TV:=pvC (ps.flatMap tyP)
def inR(l:List Int):List (List PV):=l.map fun n=>[.v (.int .i64 n)]
def tyB(r:Ty×Bool):TV:=.tuple [tyT r.1,B r.2]
theorem flat2_take{ps:List Ty}{i:Nat}{t:Ty}(h:ps[i]?=some t):List.take 2 (List.drop (i*2) (tyC ps))=[I t.k,I t.o]:=by
 induction ps generalizing i with
 |nil=>simp at h
 |cons p ps ih=>
  cases i with
  |zero=>simp at h;subst h;rfl
  |succ i=>
   have:=ih (i:=i) (by simpa using h);rw[←this];show List.take 2 (List.drop ((i+1)*2) (I p.k::I p.o::tyC ps))=_;rw[show(i+1)*2=i*2+2 by omega];rfl
theorem tyC_len(ps:List Ty):(tyC ps).length=ps.length*2:=by
 induction ps with
 |nil=>rfl
 |cons p ps ih=>
  show(I p.k::I p.o::tyC ps).length=_;simp[ih];omega
theorem tyC_fgt(ids:List Nat)(ps:List Ty):List.map (fgt3 ids) (tyC ps)=tyC ps:=pvC_fgt ids _
theorem tyC_ids(ps:List Ty):List.flatMap TV.ids1 (tyC ps)=[]:=pvC_ids _
theorem tyC_ren(ρ:Nat→Option Nat)(ps:List Ty):seqO (TV.ren1 ρ) (tyC ps)=some (tyC ps):=pvC_ren ρ _
theorem inGet(l:List Int)(k:Nat):(inR l)[k]?=(l[k]?).map fun n=>[.v (.int .i64 n)]:=by unfold inR;rw[List.getElem?_map]
theorem inLen(l:List Int):(inR l).length=l.length:=by unfold inR;rw[List.length_map]
theorem tyV:(type_of% @tyC_fgt)∧(type_of% @tyC_ids)∧(type_of% @tyC_ren)∧(type_of% @tyC_len)∧(type_of% @inGet)∧(type_of% @inLen)∧(type_of% @tyB.eq_1)∧(type_of% @B.eq_1):=⟨@tyC_fgt,@tyC_ids,@tyC_ren,@tyC_len,@inGet,@inLen,@tyB.eq_1,@B.eq_1⟩
def takF(k:Int)(ks:List Int):TV:=.pv (.fn (.func 211) [] [.el [.sl 1 (inR ks)],.el [.v (.int .i64 k)]])
theorem evTakes_ok(g:Sh.Glob)(k:Int)(ks:List Int):zC g 136 [I k,.pv (.sl 1 (inR ks))] [] (takF k ks) []:=by
 refine SCalls.frz (pss:=[[.sl 1 (inR ks)],[.v (.int .i64 k)]]) ?_;refine startV2 tf_89 ?_;rfl
theorem takes1_ok(g:Sh.Glob)(k:Int)(ks:List Int)(ps:List Ty)(hl:ps.length=ks.length)(h60:ps.length≤60):zC g 211 [.bs 1000 0 ps.length ps.length,.pv (.el [.sl 1 (inR ks)]),.pv (.el [.v (.int .i64 k)])] [.box (tyC ps)] (tyB (takeT k ks ps)) [.box (tyC ps)]:=by
 obtain⟨R,hR⟩:∃R,takeT k ks ps=R:=⟨_,rfl⟩
 rw[hR];refine z22 tf_90 ?_;simp only[vW,seval,tyV];refine v_loop (σ:={i:Nat // i≤ps.length∧(if takeG (ps.drop i) (ks.drop i)then((⟨k,0⟩:Ty),true)else(ty0,false))=R}) (fun i=>⟨[(1,.pv (.el [.sl 1 (inR ks)])),(2,.pv (.el [.v (.int .i64 k)])),(8,.bs 1000 0 ps.length ps.length),(9,I (ps.length:Int)),(10,I (i.1:Int)),(4,.ptr 4 0)],[(1000,tyC ps),(4,[I 0,I 0])],[],[]⟩) (fun i=>ps.length-i.1) ⟨0,Nat.zero_le _,hR⟩ ?_ ?_
 ·exact lwA
 rintro⟨i,hi,hT⟩;by_cases hlt:i<ps.length
 ·have d1:(i:Int)<(ps.length:Int):=by omega
  obtain⟨t,et⟩:∃t,ps[i]?=some t:=⟨_,gE hlt⟩
  obtain⟨q,eq⟩:∃q,ks[i]?=some q:=⟨_,gE (by omega)⟩
  have w1:=wS i;have hdr:ps.drop i=t::ps.drop (i+1):=by
   rw[List.drop_eq_getElem_cons hlt];congr 1;rw[gE hlt]at et;exact Option.some.inj et
  have hdk:ks.drop i=q::ks.drop (i+1):=by
   rw[List.drop_eq_getElem_cons (show i<ks.length by omega)];congr 1;rw[gE (show i<ks.length by omega)]at eq;exact Option.some.inj eq
  rw[hdr,hdk,takeG]at hT;have f2:=flat2_take et;by_cases h:t.k=q
  ·have hb:(t.k==q)=true:=by simpa using h
   rw[hb,Bool.true_and]at hT;simp only[vW,seval,tyV,d1,f2,eq,h,w1];refine⟨by omega,z13 ⟨i+1,hlt,hT⟩ (by show ps.length-(i+1)<ps.length-i;omega) ?_⟩;exact lwA
  ·have hb:(t.k==q)=false:=by simpa using h
   rw[hb,Bool.false_and,if_neg (by decide)]at hT;simp only[vW,seval,tyV,d1,f2,eq,h];refine⟨by omega,?_⟩;rw[←hT];rfl
 ·have d1:¬(i:Int)<(ps.length:Int):=by omega
  have hdr:ps.drop i=[]:=List.drop_eq_nil_of_le (by omega);rw[hdr,takeG,if_pos rfl]at hT;simp only[vW,seval,tyV,d1];rw[←hT]
theorem tyFields:∃f g:Field,(Tryz.prog.fieldsOf 46).toList=[f,g]∧f.name≠ "_" ∧g.name≠ "_" ∧(∀a b:Int,z23 Tryz.prog (part f.type #[.int .i64 a,.int .i64 b] f.offset)=some (.int .i64 a))∧(∀a b:Int,z23 Tryz.prog (part g.type #[.int .i64 a,.int .i64 b] g.offset)=some (.int .i64 b))∧
  (∀(n:Nat) (a c:Int),z23 Tryz.prog (Op.equalIn (n+1) f.type (.int .i64 a) (.int .i64 c))=some (a==c))∧(∀(n:Nat) (a c:Int),z23 Tryz.prog (Op.equalIn (n+1) g.type (.int .i64 a) (.int .i64 c))=some (a==c)):=by
 refine⟨(Tryz.prog.fieldsOf 46).toList.getD 0 default,(Tryz.prog.fieldsOf 46).toList.getD 1 default,by kernel_rfl,?_,?_,fun a b=>by kernel_rfl,fun a b=>by kernel_rfl,fun n a c=>by kernel_rfl,fun n a c=>by kernel_rfl⟩
 ·exact of_decide_eq_true (by kernel_rfl)
 ·exact of_decide_eq_true (by kernel_rfl)
theorem eqlTy(a b c d:Int):scal Tryz.prog (do eqGuard .eql 46 (.const (.agg #[.int .i64 a,.int .i64 b])) (.const (.agg #[.int .i64 c,.int .i64 d])) (.agg #[.int .i64 a,.int .i64 b]) (.agg #[.int .i64 c,.int .i64 d]);binOp .eql 46 (.agg #[.int .i64 a,.int .i64 b]) (.agg #[.int .i64 c,.int .i64 d]))=
  some (.pv (.v (.bool (eqTy ⟨a,b⟩ ⟨c,d⟩))),.no):=by
 unfold scal;rw[z31];have hg:z23 Tryz.prog (eqGuard .eql 46 (.const (.agg #[.int .i64 a,.int .i64 b])) (.const (.agg #[.int .i64 c,.int .i64 d])) (.agg #[.int .i64 a,.int .i64 b]) (.agg #[.int .i64 c,.int .i64 d]))=some ():=by kernel_rfl
 rw[hg,Option.bind_some];have hb:binOp .eql 46 (.agg #[.int .i64 a,.int .i64 b]) (.agg #[.int .i64 c,.int .i64 d])=(Op.equal 46 (.agg #[.int .i64 a,.int .i64 b]) (.agg #[.int .i64 c,.int .i64 d])>>=fun r=>pure (.bool r)):=rfl;rw[hb,z31];have he:z23 Tryz.prog (Op.equal 46 (.agg #[.int .i64 a,.int .i64 b]) (.agg #[.int .i64 c,.int .i64 d]))=some (eqTy ⟨a,b⟩ ⟨c,d⟩):=by
  unfold Op.equal;obtain⟨n,hn⟩:∃n,Op.maxDepth=n+1+1:=⟨_,rfl⟩
  rw[hn,z98 _ _ _ _ (by kernel_rfl) (by kernel_rfl)];obtain⟨f,g,hl,nf,ng,pf,pg,ef,eg⟩:=tyFields;rw[hl];simp only[Op.eqFields,nf,ng,ne_eq,not_false_eq_true,if_true,z31,pf,pg,ef,eg,Option.bind_some];unfold eqTy;cases h:(a==c)
  ·simp[h,z92]
  ·cases h2:(b==d)<;>simp[h,h2,z92,z31,pg,eg,ng]
 rw[he];rfl
theorem alike2_ok(g:Sh.Glob)(a b:Ty):zC g 215 [.bs 1000 0 2 2] [.box (tyC [a,b])] (B (alikeT a b)) [.box (tyC [a,b])]:=by
 have e:tyC [a,b]=[I a.k,I a.o,I b.k,I b.o]:=rfl;rw[e];unfold alikeT;refine z22 tf_66 ?_;obtain⟨ak,ao⟩:=a;obtain⟨bk,bo⟩:=b;simp only;cases h:eqTy ⟨ak,ao⟩ ⟨bk,bo⟩
 ·simp only[vW,seval,tyV,eqlTy,h]
 ·by_cases h1:ak=1
  ·subst h1;simp only[vW,seval,tyV,eqlTy,h]
  ·have hb:(ak==1)=false:=by simpa using h1
   have hc:decide (ak=2)=(ak==2):=by rw[Bool.eq_iff_iff];simp
   simp only[vW,seval,tyV,eqlTy,h,h1,hb,hc]
theorem alike3_ok(g:Sh.Glob)(c a b:Ty):zC g 215 [.bs 1000 2 2 2] [.box (tyC [c,a,b])] (B (alikeT a b)) [.box (tyC [c,a,b])]:=by
 have e:tyC [c,a,b]=[I c.k,I c.o,I a.k,I a.o,I b.k,I b.o]:=rfl;rw[e];unfold alikeT;refine z22 tf_66 ?_;obtain⟨ak,ao⟩:=a;obtain⟨bk,bo⟩:=b;simp only;cases h:eqTy ⟨ak,ao⟩ ⟨bk,bo⟩
 ·simp only[vW,seval,tyV,eqlTy,h]
 ·by_cases h1:ak=1
  ·subst h1;simp only[vW,seval,tyV,eqlTy,h]
  ·have hb:(ak==1)=false:=by simpa using h1
   have hc:decide (ak=2)=(ak==2):=by rw[Bool.eq_iff_iff];simp
   simp only[vW,seval,tyV,eqlTy,h,h1,hb,hc]
theorem choice_ok(g:Sh.Glob)(a b c:Ty):zC g 150 [.bs 1000 0 3 3] [.box (tyC [a,b,c])] (tyB (z95 [a,b,c])) [.box (tyC [a,b,c])]:=by
 have HA:=alike3_ok g a b c;have e:tyC [a,b,c]=[I a.k,I a.o,I b.k,I b.o,I c.k,I c.o]:=rfl;have hu:z95 [a,b,c]=if a.k=1∧alikeT b c=true then(b,true)else(ty0,false):=rfl
 rw[e]at HA ⊢;rw[hu];refine z22 tf_78 ?_;unfold B at HA;obtain⟨ak,ao⟩:=a;simp only at HA ⊢;by_cases h1:ak=1
 ·subst h1;simp only[vW,seval,tyV];refine z7 HA ?_;cases h2:alikeT b c
  ·simp only[vW,seval,tyV];simp[ty0]
  ·simp only[vW,seval,tyV]
 ·rw[if_neg (fun h=>h1 h.1)];simp only[vW,seval,tyV,h1];rfl
theorem oper1_ok(g:Sh.Glob)(a b:Ty):zC g 251 [.bs 1000 0 2 2] [.box (tyC [a,b])] (tyB (⟨1,0⟩,alikeT a b)) [.box (tyC [a,b])]:=by
 have HA:=alike2_ok g a b;have e:tyC [a,b]=[I a.k,I a.o,I b.k,I b.o]:=rfl;rw[e]at HA ⊢;refine z22 tf_85 ?_;unfold B at HA;simp only[vW,seval,tyV];refine z7 HA ?_;simp only[vW,seval,tyV]
def operF(s:zB):TV:=if s=[43]∨s=[45]∨s=[42]∨s=[47]∨s=[37] then takF 1 [1,1] else if s=[38] then takF 2 [2,2] else .pv (.v (.func (.func 251) #[] #[]))
theorem in2(a b:Int):inR [a,b]=[[.v (.int .i64 a)],[.v (.int .i64 b)]]:=rfl
theorem operator_ok(g:Sh.Glob)(s:zB):zC g 210 [S (str s)] [] (operF s) []:=by
 have H1:=evTakes_ok g 1 [1,1];have H2:=evTakes_ok g 2 [2,2];have q1:=bS [43];have q2:=bS [45];have q3:=bS [42];have q4:=bS [47];have q5:=bS [37];have q6:=bS [38];have hb:∀a b:zB,a≠b→(a==b)=false:=fun a b h=>by simpa using h
 unfold operF;unfold takF at*;refine z10 tf_84 ?_;by_cases h1:s=[43]
 ·subst h1;simp only[vW,seval,q1];(with_reducible apply v_call);simp only[vW,seval,in2];rfl;rfl;exact H1;exact km;simp only[vW,seval,in2];rfl;simp only[vW,seval];rfl
 have d1:=hb _ _ h1;by_cases h2:s=[45]
 ·subst h2;simp only[vW,seval,q1,q2,d1];(with_reducible apply v_call);simp only[vW,seval,in2];rfl;rfl;exact H1;exact km;simp only[vW,seval,in2];rfl;simp only[vW,seval];rfl
 have d2:=hb _ _ h2;by_cases h3:s=[42]
 ·subst h3;simp only[vW,seval,q1,q2,q3,d1,d2];(with_reducible apply v_call);simp only[vW,seval,in2];rfl;rfl;exact H1;exact km;simp only[vW,seval,in2];rfl;simp only[vW,seval];rfl
 have d3:=hb _ _ h3;by_cases h4:s=[47]
 ·subst h4;simp only[vW,seval,q1,q2,q3,q4,d1,d2,d3];(with_reducible apply v_call);simp only[vW,seval,in2];rfl;rfl;exact H1;exact km;simp only[vW,seval,in2];rfl;simp only[vW,seval];rfl
 have d4:=hb _ _ h4;by_cases h5:s=[37]
 ·subst h5;simp only[vW,seval,q1,q2,q3,q4,q5,d1,d2,d3,d4];(with_reducible apply v_call);simp only[vW,seval,in2];rfl;rfl;exact H1;exact km;simp only[vW,seval,in2];rfl;simp only[vW,seval];rfl
 have d5:=hb _ _ h5;rw[if_neg (by simp[h1,h2,h3,h4,h5])];by_cases h6:s=[38]
 ·subst h6;simp only[vW,seval,q1,q2,q3,q4,q5,q6,d1,d2,d3,d4,d5];(with_reducible apply v_call);simp only[vW,seval,in2];rfl;rfl;exact H2;exact km;simp only[vW,seval,in2];rfl;simp only[vW,seval];rfl
 have d6:=hb _ _ h6;rw[if_neg h6];simp only[vW,seval,q1,q2,q3,q4,q5,q6,d1,d2,d3,d4,d5,d6]
end
theorem bbEql(p q:Bool):scal Tryz.prog (do eqGuard .eql 4 (.const (.bool p)) (.const (.bool q)) (.bool p) (.bool q);binOp .eql 4 (.bool p) (.bool q))=some (.pv (.v (.bool (p==q))),.no):=by
 cases p<;>cases q<;>kernel_rfl
inductive VFew:V→Prop where
 |mk {k n:Int} {s:zB} {l:List V} (h:l.length≤1000) (hs:∀y∈l,VFew y):VFew (.mk k n s l)
theorem VFew.len{x:V}(h:VFew x):x.l.length≤1000:=by cases h;assumption
theorem VFew.sub{x y:V}(h:VFew x)(hy:y∈x.l):VFew y:=by cases h with|mk _ hs=>exact hs y hy
theorem few0{x:V}(h:x.l=[]):VFew x:=by cases x with|mk k n s l=>simp only[Vl]at h;subst h;exact .mk (by simp) (by simp)
theorem VFew.small{x:V}(h:VFew x):VSmall x:=by
 induction h with
 |mk h _ ih=>exact .mk (by unfold maxLen;omega) ih
theorem below_grow{w:World}{k:Nat}{os:Array Obj}:Below w.heap.size w (Go.Sort.grow (w.drewN k) os):=by
 have h1:∀k,Below w.heap.size w (w.drewN k):=by
  intro k
  induction k with
  |zero=>exact Below.refl _ _
  |succ k ih=>exact ih.trans (by have:=(Below.refl w.heap.size (w.drewN k)).drew;exact this)
 have h:=h1 k;refine⟨h.os,h.tape,h.output,?_,fun j hj=> ?_⟩
 ·show _≤((w.drewN k).heap++os).size;rw[Array.size_append];have:=h.size;omega
 ·show((w.drewN k).heap++os)[j]?=_;rw[Array.getElem?_append_left (by have:=h.size;omega)];exact h.block j hj
theorem itoa_ok(m:Nat)(n:Int)(h0: -9223372036854775808≤n)(h1:n≤9223372036854775807):zC (glT m) 97 [I n] [] (S (str (Lib.itoa n))) []:=
 z86 (vs:=[.int .i64 n]) (z56 (by kernel_rfl)) (fun w E r=> .pv (.v _)) (fun w hG=>(Tryz.strconv_Itoa n h0 h1 w hG.t.tab).mono fun e w' ⟨he,k,os,hw⟩=>⟨he,by rw[hw];exact below_grow⟩)
section
open Go.Sh.Cd1
theorem nanI_ok(g:Sh.Glob)(a:Int):zC g 168 [I a] [] (.pv (.v (.bool false))) []:=by
 refine z10 tf_62 ?_;simp only[vW,seval]
theorem nanS_ok(g:Sh.Glob)(a:ByteArray):zC g 169 [S a] [] (.pv (.v (.bool false))) []:=by
 refine z10 tf_63 ?_;simp only[vW,seval]
theorem cmpI_ok(g:Sh.Glob)(a b:Int):zC g 106 [I a,I b] [] (I (ordI a b)) []:=by
 refine z43 tf_60 ?_;refine z8 (nanI_ok g _) ?_;refine z8 (nanI_ok g _) ?_;unfold ordI;refine⟨fun h=>by rw[if_pos h],fun h=>⟨fun h'=>by rw[if_neg h,if_pos h'],fun h'=>by rw[if_neg h,if_neg h']⟩⟩
theorem cmpS_ok(g:Sh.Glob)(a b:zB):zC g 107 [S (str a),S (str b)] [] (I (ordS a b)) []:=by
 refine z43 tf_61 ?_;refine z8 (nanS_ok g _) ?_;refine z8 (nanS_ok g _) ?_;unfold ordS;cases hb:Op.bytesLess a b
 ·by_cases he:a=b
  ·subst he;simp[boolW]
  ·simp[boolW,he]
 ·simp[boolW]
theorem byItems_ok(g:Sh.Glob)(l l':List V)(hl:l.length≤maxLen)(H:∀(i:Nat) x y,l[i]?=some x→l'[i]?=some y→zC g 55 [tv x,tv y] [] (I (cmpV x y)) []):
  zC g 108 [.pv (.sl 4 (V.rows l)),.pv (.sl 4 (V.rows l')),.pv (.v (.func (.func 55) #[] #[]))] [] (I (cmpL l l')) []:=by
 refine z43 tf_161 ?_;refine v_loop (σ:={ i:Nat // i≤min l.length l'.length∧cmpL l l'=cmpL (l.drop i) (l'.drop i) }) (fun i=>⟨[(0,.pv (.sl 4 (V.rows l))),(1,.pv (.sl 4 (V.rows l'))),(2,.pv (.v (.func (.func 55) #[] #[]))),(13,I (min (l.length:Int) (l'.length:Int))),(14,I (i.1:Int))],[],[],[]⟩) (fun i=>min l.length l'.length-i.1) ⟨0,Nat.zero_le _,rfl⟩ (lw_eq rfl) ?_;rintro⟨i,hi,hc⟩;simp only[vW,seval];have hm:maxLen=9223372036854775807:=rfl;refine⟨fun hlt=> ?_,fun hge=> ?_⟩
 ·refine⟨by omega,fun x hx=>⟨by omega,fun y hy=> ?_⟩⟩;(with_reducible apply z28);exact kv;exact H i x y hx hy;rfl;exact kv;have hd:=cmpL_drop hx hy;rw[←hc]at hd;unfold thenI at hd;simp only[vW,seval];refine⟨fun h0=> ?_,fun h0=> ?_⟩
  ·rw[if_pos h0]at hd;have w1:IntKind.i64.wrap ((i:Int)+1)=(i:Int)+1:=wrap64 (by omega) (by omega);refine z13 ⟨i+1,by omega,hd⟩ (by show _-(i+1)<_-i;omega) ?_;apply lw_of<;>simp[leL,lk,sv,Nat.beq,I,S,ES.kill,has,drp,nilT,w1]
  ·rw[if_neg h0]at hd;rw[hd]
 ·refine z8 (cmpI_ok g _ _) ?_;rw[hc,cmpL_end (by omega)]
theorem compare_n(g:Sh.Glob):∀(n:Nat) (x y:V),SizeOf.sizeOf x≤n→VSmall x→zC g 55 [tv x,tv y] [] (I (cmpV x y)) []
 |0,x,y,h,_=>by cases x;simp at h
 |n+1,x,y,h,hx=>by
  have HB:=byItems_ok g x.l y.l hx.len (fun i a b ha hb=>compare_n g n a b (by
   have hm:=gM ha;have:=List.sizeOf_lt_of_mem hm;cases x;simp[V.l]at h this ⊢;omega) (hx.sub (gM ha)))
  refine z10 tf_154 ?_;rw[cmpV_eq];simp only[vW,seval];refine z8 (cmpI_ok g _ _) ?_;refine⟨fun h1=> ?_,fun h1=>by rw[thenI,if_neg h1]⟩;rw[thenI,if_pos h1];refine z8 (cmpI_ok g _ _) ?_;refine⟨fun h2=> ?_,fun h2=>by rw[thenI,if_neg h2]⟩;rw[thenI,if_pos h2];refine z8 (cmpS_ok g _ _) ?_;refine⟨fun h3=> ?_,fun h3=>by rw[thenI,if_neg h3]⟩;rw[thenI,if_pos h3];exact z14 HB
theorem compare_ok(g:Sh.Glob)(x y:V)(hx:VSmall x):zC g 55 [tv x,tv y] [] (I (cmpV x y)) []:=compare_n g _ x y (Nat.le_refl _) hx
theorem same_ok(g:Sh.Glob)(x y:V)(hx:VSmall x):zC g 18 [tv x,tv y] [] (.pv (.v (.bool (decide (cmpV x y=0))))) []:=by
 refine z43 tf_158 ?_;exact z14 (compare_ok g x y hx)
theorem refLoop(g:Sh.Glob)(x y:V)(hx:VSmall x)(H:∀(i:Nat) a b,x.l[i]?=some a→y.l[i]?=some b→zC g 156 [tv a,tv b] [] (I (cmpV a b)) [])(c:Int):
  swp Tryz.prog g (.loop c_115_12) (blockW 0 (thenW (swp Tryz.prog g (.seq (.seq c_115_13 (.cond (.tmp 67) (.seq c_115_14 .ret) .skip)) (.seq c_115_15 .ret)) (Post0 [.tmp 4] (I (thenI c (cmpL x.l y.l))))) (Post0 [.tmp 4] (I (thenI c (cmpL x.l y.l))))))
   ⟨[(2,.ptr 2 0),(3,.ptr 3 0),(5,I c),(6,I 0)],[(2,[I x.k,I x.n,S (str x.s),.pv (.sl 4 (V.rows x.l))]),(3,[I y.k,I y.n,S (str y.s),.pv (.sl 4 (V.rows y.l))])],[],[]⟩:=by
 refine v_loop (σ:={ p:Nat×Int // p.1≤min x.l.length y.l.length∧thenI c (cmpL x.l y.l)=thenI p.2 (cmpL (x.l.drop p.1) (y.l.drop p.1)) })
  (fun p=>⟨[(2,.ptr 2 0),(3,.ptr 3 0),(5,I p.1.2),(6,I (p.1.1:Int))],[(2,[I x.k,I x.n,S (str x.s),.pv (.sl 4 (V.rows x.l))]),(3,[I y.k,I y.n,S (str y.s),.pv (.sl 4 (V.rows y.l))])],[],[]⟩)
  (fun p=>min x.l.length y.l.length-p.1.1) ⟨(0,c),Nat.zero_le _,rfl⟩ (lw_eq rfl) ?_
 rintro⟨⟨i,d⟩,hi,hc⟩;have hm:maxLen=9223372036854775807:=rfl;have hl:=hx.len;simp only at hi hc;simp only[vW,seval];refine⟨fun h0=>⟨fun h1=>⟨fun h2=>⟨by omega,fun a ha=>⟨by omega,fun b hb=> ?_⟩⟩,fun h2=>⟨fun _=> ?_,fun h=>absurd h0 h⟩⟩,fun h1=>⟨fun _=> ?_,fun h=>absurd h0 h⟩⟩,fun h0=>⟨fun h=>absurd h h0,fun _=> ?_⟩⟩
 ·refine z8 (H i a b ha hb) ?_;have w1:IntKind.i64.wrap ((i:Int)+1)=(i:Int)+1:=wrap64 (by omega) (by omega);refine z13 ⟨(i+1,cmpV a b),by show i+1≤_;omega,?_⟩ (by show _-(i+1)<_-i;omega) ?_
  ·show _=thenI (cmpV a b) (cmpL (x.l.drop (i+1)) (y.l.drop (i+1)));rw[hc,h0,cmpL_drop ha hb];simp[thenI]
  apply lw_of<;>simp[leL,lk,sv,Nat.beq,I,S,ES.kill,has,drp,nilT,w1]
 ·refine z8 (order_ok g _ _) ?_;rw[hc,h0,thenI,if_pos rfl,cmpL_end (by omega)]
 ·refine z8 (order_ok g _ _) ?_;rw[hc,h0,thenI,if_pos rfl,cmpL_end (by omega)]
 ·rw[hc,thenI,if_neg h0]
theorem refCompare_n(g:Sh.Glob):∀(n:Nat) (x y:V),SizeOf.sizeOf x≤n→VSmall x→zC g 156 [tv x,tv y] [] (I (cmpV x y)) []
 |0,x,y,h,_=>by cases x;simp at h
 |n+1,x,y,h,hx=>by
  have H:∀(i:Nat) a b,x.l[i]?=some a→y.l[i]?=some b→zC g 156 [tv a,tv b] [] (I (cmpV a b)) []:=fun i a b ha hb=>refCompare_n g n a b (by
   have hm:=gM ha;have:=List.sizeOf_lt_of_mem hm;cases x;simp[V.l]at h this ⊢;omega) (hx.sub (gM ha))
  have HL:=refLoop g x y hx H;refine call_of0 hmix tf_115 rfl ?_;rw[cmpV_eq];by_cases h1:ordI x.k y.k=0
  ·rw[h1,thenI,if_pos rfl];simp only[vW,seval];refine z7 (order_ok g _ _) ?_;simp only[vW,seval,h1];refine z7 (order_ok g _ _) ?_;by_cases h2:ordI x.n y.n=0
   ·rw[h2,thenI,if_pos rfl];cases hb:Op.bytesLess x.s y.s
    ·by_cases he:x.s=y.s
     ·have e:ordS x.s y.s=0:=by rw[ordS,hb];simp[he]
      have he':(x.s==y.s)=true:=by simp[he]
      rw[e];simp only[vW,seval,h2,hb,he'];exact HL 0
     ·have e:ordS x.s y.s=1:=by simp[ordS,hb,he]
      have he':(x.s==y.s)=false:=by simp[he]
      rw[e];simp only[vW,seval,h2,hb,he'];exact HL 1
    ·have e:ordS x.s y.s= -1:=by simp[ordS,hb]
     rw[e];simp only[vW,seval,h2,hb];exact HL (-1)
   ·rw[show thenI (ordI x.n y.n) (thenI (ordS x.s y.s) (cmpL x.l y.l))=thenI (ordI x.n y.n) (cmpL x.l y.l) by simp[thenI,h2]];simp only[vW,seval,h2];exact HL _
  ·rw[show thenI (ordI x.k y.k) (thenI (ordI x.n y.n) (thenI (ordS x.s y.s) (cmpL x.l y.l)))=thenI (ordI x.k y.k) (cmpL x.l y.l) by simp[thenI,h1]];simp only[vW,seval];refine z7 (order_ok g _ _) ?_;simp only[vW,seval,h1];exact HL _
theorem refCompare_ok(g:Sh.Glob)(x y:V)(hx:VSmall x):zC g 156 [tv x,tv y] [] (I (cmpV x y)) []:=refCompare_n g _ x y (Nat.le_refl _) hx
theorem refSame_ok(g:Sh.Glob)(x y:V)(hx:VSmall x):zC g 82 [tv x,tv y] [] (.pv (.v (.bool (decide (cmpV x y=0))))) []:=by
 refine z43 tf_119 ?_;exact z14 (refCompare_ok g x y hx)
end
section
open Go.Sh.Cd1 Go.Sh.Cd6
theorem signs_ok(g:Sh.Glob)(l:zB)(hl:l.length≤4611686018427387904):zC g 139 [S (str l)] [] (I (signsV l:Int)) []:=by
 obtain⟨R,hR⟩:∃R,signsV l=R:=⟨_,rfl⟩
 rw[hR];have hle:=signs_le _ l (Nat.le_refl _);refine z43 tf_88 ?_;refine v_loop (σ:={q:Nat×Nat // q.1≤l.length∧q.2+signsV (l.drop q.1)=R}) (fun q=>⟨[(3,I (q.1.2:Int)),(5,.it 5)],[],[],[(5,(str l,q.1.1))]⟩) (fun q=>l.length-q.1.1) ⟨(0,0),Nat.zero_le _,by simpa using hR⟩ ?_ ?_
 ·exact lwA
 rintro⟨⟨p,n⟩,hp,hd⟩;simp only at hp hd;rw[signs_step]at hd;by_cases hlt:p<l.length
 ·have hne:l.drop p≠[]:=by rw[Ne,List.drop_eq_nil_iff];omega
  rw[if_neg hne,List.drop_drop]at hd;have hw:=z109 hne;rw[List.length_drop]at hw;have w1:=wS n;simp only[vW,seval,hlt,z132,w1];refine z13 ⟨(p+(Lib.decodeL (l.drop p)).2,n+1),by omega,by simp only;omega⟩ (by show l.length-(p+_)<l.length-p;omega) ?_;exact lwA
 ·have hn:l.drop p=[]:=List.drop_eq_nil_of_le (by omega);rw[if_pos hn]at hd;simp only[vW,seval,hlt];rw[←hd];rfl
theorem behind_ok(g:Sh.Glob)(l:zB)(m:Int)(hl:l.length≤4611686018427387904):zC g 142 [S (str l),I m] [] (I (behV l m:Int)) []:=by
 obtain⟨R,hR⟩:∃R,behV l m=R:=⟨_,rfl⟩
 rw[hR];rw[behV_P]at hR;refine z43 tf_67 ?_;refine v_loop (σ:={q:Nat×Nat // q.1≤l.length∧q.2≤q.1∧behP (l.drop q.1) q.1 q.2 m=R}) (fun q=>⟨[(0,S (str l)),(1,I m),(5,I (q.1.2:Int)),(8,.it 8)],[],[],[(8,(str l,q.1.1))]⟩) (fun q=>l.length-q.1.1) ⟨(0,0),Nat.zero_le _,Nat.zero_le _,by simpa using hR⟩ ?_ ?_
 ·exact lwA
 rintro⟨⟨p,n⟩,hp,hnp,hd⟩;simp only at hp hd hnp;rw[behP_step]at hd;by_cases hlt:p<l.length
 ·have hne:l.drop p≠[]:=by rw[Ne,List.drop_eq_nil_iff];omega
  rw[if_neg hne,List.drop_drop]at hd;have hw:=z109 hne;rw[List.length_drop]at hw;have w1:=wS n;by_cases h:m≤(n:Int)
  ·rw[if_pos h]at hd;simp only[vW,seval,hlt,z132,h];rw[hd]
  ·rw[if_neg h]at hd;simp only[vW,seval,hlt,z132,w1,h];refine z13 ⟨(p+(Lib.decodeL (l.drop p)).2,n+1),by omega,by simp only;omega,hd⟩ (by show l.length-(p+_)<l.length-p;omega) ?_;exact lwA
 ·have hn:l.drop p=[]:=List.drop_eq_nil_of_le (by omega);rw[if_pos hn]at hd;simp only[vW,seval,hlt];have:p=l.length:=by omega
  rw[←this,hd]
theorem runeLen_ok(g:Sh.Glob)(r:Int):zC g 212 [.pv (.v (.int .i32 r))] [] (I (Lib.runeLen r)) []:=
 z86 (vs:=[.int .i32 r]) (z56 (by kernel_rfl)) (fun w E r=> .pv (.v _)) (fun w hG=>(Tryz.utf8_RuneLen r w).mono fun e w' ⟨he,hw⟩=>⟨he,by rw[hw];exact Below.refl _ _⟩)
theorem index_ok(m:Nat)(s t:zB)(hs:s.length<4294967281):zC (glT m) 213 [S (str s),S (str t)] [] (I (Lib.index s t)) []:=
 z86 (vs:=[.string (str s),.string (str t)]) (z56 (by kernel_rfl)) (fun w E r=> .pv (.v _)) (fun w hG=>by
  obtain⟨k,hk⟩:=hG.t.mx;have:=Tryz.strings_Index (str s) (str t) k w (by rw[str_size];exact hs) hk;simp only[str_toList]at this;exact this.mono fun e w' ⟨he,hw⟩=>⟨he,by rw[hw];exact Below.refl _ _⟩)
theorem index_bnd(t u:zB): -1≤Lib.index t u∧Lib.index t u≤t.length:=by
 rcases Lib.index_spec t u with⟨h1,_⟩|⟨p,h1,h2,_⟩
 ·rw[h1];omega
 ·rw[h1];omega
theorem evFind_ok(m:Nat)(t u:zB)(ht:t.length<4294967281):zC (glT m) 146 [S (str t),S (str u)] [] (I (findV t u)) []:=by
 have HI:=index_ok m t u ht;have hb:=index_bnd t u;unfold findV;refine z43 tf_79 ?_;refine z7 HI ?_;by_cases h:Lib.index t u<0
 ·rw[if_pos h];simp only[vW,seval,h]
 ·rw[if_neg h];obtain⟨n,hn⟩:∃n:Nat,Lib.index t u=n:=⟨(Lib.index t u).toNat,by omega⟩
  rw[hn]at hb h ⊢;have HS:=signs_ok (glT m) (t.take n) (by rw[List.length_take];omega);simp only[vW,seval,h,List.drop_zero];refine⟨by omega,?_⟩;exact z14 HS
theorem number_ok(g:Sh.Glob)(n:Int):zC g 138 [I n] [] (nv (numE n)) []:=by
 unfold numE cutN nv;refine z43 tf_82 ?_;rfl
theorem rl_bnd(k:Int): -1≤Lib.runeLen k∧Lib.runeLen k≤4:=by
 unfold Lib.runeLen
 repeat' split
 all_goals omega
theorem text_ok6(g:Sh.Glob)(l:zB)(hl:l.length≤4611686018427387904):zC g 141 [S (str l)] [] (nv (textE l)) []:=by
 obtain⟨R,hR⟩:∃R,cutP l 0=R:=⟨_,rfl⟩
 unfold textE nv;rw[cutT_P,hR];refine z43 tf_91 ?_;refine v_loop (σ:={q:Nat // q≤l.length∧cutP (l.drop q) q=R}) (fun q=>⟨[(0,S (str l)),(2,.ptr 2 0),(6,.it 6)],[(2,[I 0,I 0,S ⟨#[]⟩,.pv (.v (.slice none 0 0))])],[],[(6,(str l,q.1))]⟩) (fun q=>l.length-q.1) ⟨0,Nat.zero_le _,by simpa using hR⟩ ?_ ?_
 ·exact lwA
 rintro⟨p,hp,hd⟩;rw[cutP_step]at hd;by_cases hlt:p<l.length
 ·have hne:l.drop p≠[]:=by rw[Ne,List.drop_eq_nil_iff];omega
  rw[if_neg hne,List.drop_drop]at hd;have hw:=z109 hne;rw[List.length_drop]at hw;have HR:=runeLen_ok g (((Lib.decodeL (l.drop p)).1:Nat):Int);have hrl:=rl_bnd (((Lib.decodeL (l.drop p)).1:Nat):Int);generalize Lib.runeLen (((Lib.decodeL (l.drop p)).1:Nat):Int)=k at*;have w1:IntKind.i64.wrap ((p:Int)+k)=(p:Int)+k:=wrap64 (by omega) (by omega);by_cases h:60<(p:Int)+k
  ·rw[if_pos h]at hd;subst hd;simp only[vW,seval,hlt,z132];refine z7 HR ?_;simp only[vW,seval,w1,h,List.drop_zero];exact⟨by omega,by omega⟩
  ·rw[if_neg h]at hd;simp only[vW,seval,hlt,z132];refine z7 HR ?_;simp only[vW,seval,w1,h];refine z13 ⟨p+(Lib.decodeL (l.drop p)).2,by omega,hd⟩ (by show l.length-(p+_)<l.length-p;omega) ?_;exact lwA
 ·have hn:l.drop p=[]:=List.drop_eq_nil_of_le (by omega);rw[if_pos hn]at hd;simp only[vW,seval,hlt];have:p=l.length:=by omega
  rw[←hd,this,List.take_length]
theorem holds_ok(g:Sh.Glob)(s:zB)(c:Int)(hs:s=[61]∨s=[60,62]∨s=[60]∨s=[60,61]∨s=[62]∨s=[62,61]):zC g 218 [S (str s),I c] [] (B (holdsV s c)) []:=by
 have q1:=bS [60,61];have q2:=bS [61];have q3:=bS [62,61];have q4:=bS [62];have q5:=bS [60,62];unfold B;have e1:(([60,62]:zB)==[60,61])=false:=rfl;have e2:(([60,62]:zB)==[61])=false:=rfl;have e3:(([60,62]:zB)==[62,61])=false:=rfl;have e4:(([60,62]:zB)==[62])=false:=rfl;have f1:(([61]:zB)==[60,61])=false:=rfl;have g1:(([60]:zB)==[60,61])=false:=rfl;have g2:(([60]:zB)==[61])=false:=rfl;have g3:(([60]:zB)==[62,61])=false:=rfl;have g4:(([60]:zB)==[62])=false:=rfl;have g5:(([60]:zB)==[60,62])=false:=rfl;have h1:(([62]:zB)==[60,61])=false:=rfl;have h2:(([62]:zB)==[61])=false:=rfl;have h3:(([62]:zB)==[62,61])=false:=rfl;have i1:(([62,61]:zB)==[60,61])=false:=rfl;have i2:(([62,61]:zB)==[61])=false:=rfl;refine z10 tf_81 ?_;rcases hs with rfl|rfl|rfl|rfl|rfl|rfl
 ·rw[show holdsV [61] c=decide (c=0) from rfl];simp only[vW,seval,q1,q2,q3,q4,q5,f1]
 ·rw[show holdsV [60,62] c=decide (c≠0) from rfl];simp only[vW,seval,q1,q2,q3,q4,q5,e1,e2,e3,e4];simp
 ·rw[show holdsV [60] c=decide (c<0) from rfl];simp only[vW,seval,q1,q2,q3,q4,q5,g1,g2,g3,g4,g5]
 ·rw[show holdsV [60,61] c=decide (c≤0) from rfl];by_cases h:c<0
  ·simp only[vW,seval,q1,q2,q3,q4,q5,h];simp;omega
  ·simp only[vW,seval,q1,q2,q3,q4,q5,h];simp;omega
 ·rw[show holdsV [62] c=decide (0<c) from rfl];simp only[vW,seval,q1,q2,q3,q4,q5,h1,h2,h3]
 ·rw[show holdsV [62,61] c=decide (0≤c) from rfl];by_cases h:c=0
  ·simp only[vW,seval,q1,q2,q3,q4,q5,i1,i2,h]
  ·simp only[vW,seval,q1,q2,q3,q4,q5,i1,i2,h];simp;omega
end
section
open Go.Lib Go.Deep
theorem itoa_at(m:Nat)(w:World)(hG:(glE m).G w)(n:Int)(h0: -9223372036854775808≤n)(h1:n≤9223372036854775807):Calls Tryz.prog 97 #[.int .i64 n] w fun e w'=>e=.returned (.string (str (Lib.itoa n)))∧Below w.heap.size w w':=
 (Tryz.strconv_Itoa n h0 h1 w hG.t.tab).mono fun e w' ⟨he,k,os,hw⟩=>⟨he,by rw[hw];exact below_grow⟩
theorem below_bytes{w w':World}{t5:TypeId}{s:ByteArray}(h:w'=w∨∃t,w'=Lib.bytesWorld w t5 t):Below w.heap.size w w':=by
 rcases h with rfl|⟨t,rfl⟩
 ·exact Below.refl _ _
 ·exact Lib.bytesWorld_below _ _ _
theorem below_two{w w1 w2:World}(h1:Below w.heap.size w w1)(h2:Below w1.heap.size w1 w2):Below w.heap.size w w2:=
 ⟨h2.os.trans h1.os,h2.tape.trans h1.tape,h2.output.trans h1.output,Nat.le_trans h1.size h2.size,fun k hk=>(h2.block k (Nat.lt_of_lt_of_le hk h1.size)).trans (h1.block k hk)⟩
theorem glE_below{m:Nat}{w w1:World}(hG:(glE m).G w)(hb:Below w.heap.size w w1):(glE m).G w1:=
 (glE m).st w w1 hG (fun k hk=>hb.block k (by have:=(glE m).le w hG;exact Nat.lt_of_lt_of_le hk this))
theorem told_bad(m:Nat)(s:zB)(w:World)(x:Int)(t:TypeId)(HA:Calls Tryz.prog 214 #[.string (str s)] w fun e w'=>∃N,e=.returned (.tuple #[.int .i64 x,.iface t (.pointer (some ⟨N,0,none⟩))])∧Below w.heap.size w w'):
  Calls Tryz.prog 149 #[.string (str s)] w fun e w'=>e=.returned (.int .i64 0)∧Below w.heap.size w w':=by
 go_enter Tryz.func149,Tryz.ntmps149
 go_wp2_with (go_at_call 214;refine HA.mono ?_;rintro e w1 ⟨N,rfl,hb1⟩)
 go_ret
 exact⟨rfl,hb1⟩
theorem told_good(m:Nat)(s:zB)(w:World)(hG:(glE m).G w)(v:Int)(HA:Calls Tryz.prog 214 #[.string (str s)] w fun e w'=>e=.returned (.tuple #[.int .i64 v,.nilIface])∧Below w.heap.size w w')(hv: -9223372036854775808≤v∧v≤9223372036854775807):
  Calls Tryz.prog 149 #[.string (str s)] w fun e w'=>e=.returned (.int .i64 (if v< -1000000000000000∨1000000000000000<v∨Lib.itoa v≠s then 0 else v))∧Below w.heap.size w w':=by
 have HI:=fun w1 (hb1:Below w.heap.size w w1)=>itoa_at m w1 (glE_below hG hb1) v hv.1 hv.2;by_cases h1:v< -1000000000000000
 ·rw[if_pos (.inl h1)]
  go_enter Tryz.func149,Tryz.ntmps149
  go_wp2_with (go_at_call 214;refine HA.mono ?_;rintro e w1 ⟨rfl,hb1⟩)
  go_ret
  exact⟨rfl,hb1⟩
 by_cases h2:1000000000000000<v
 ·rw[if_pos (.inr (.inl h2))]
  go_enter Tryz.func149,Tryz.ntmps149
  go_wp2_with (go_at_call 214;refine HA.mono ?_;rintro e w1 ⟨rfl,hb1⟩)
  go_ret
  exact⟨rfl,hb1⟩
 by_cases h3:Lib.itoa v=s
 ·rw[if_neg (by rintro(h|h|h)<;>first|exact h1 h|exact h2 h|exact h h3)];have hne:(Lib.itoa v==s)=true:=by simpa using h3
  go_enter Tryz.func149,Tryz.ntmps149
  go_wp2_with (first|(go_at_call 214;refine HA.mono ?_;rintro e w1 ⟨rfl,hb1⟩)|(go_at_call 97;refine(HI _ hb1).mono ?_;rintro e w2 ⟨rfl,hb2⟩))
  go_ret
  exact⟨rfl,below_two hb1 hb2⟩
 ·rw[if_pos (.inr (.inr h3))];have hne:(Lib.itoa v==s)=false:=by simpa using h3
  go_enter Tryz.func149,Tryz.ntmps149
  go_wp2_with (first|(go_at_call 214;refine HA.mono ?_;rintro e w1 ⟨rfl,hb1⟩)|(go_at_call 97;refine(HI _ hb1).mono ?_;rintro e w2 ⟨rfl,hb2⟩))
  go_ret
  exact⟨rfl,below_two hb1 hb2⟩
theorem told_ok(m:Nat)(s:zB)(hs:s.length≤281474976710656):zC (glE m) 149 [S (str s)] [] (I (toldV s)) []:=
 z86 (vs:=[.string (str s)]) (v:=.int .i64 (toldV s)) (z56 (by kernel_rfl)) (fun w E r=> .pv (.v _)) (fun w hG=>by
  have hG:GlobNE m w:=hG;obtain⟨⟨t1,p1,hs1⟩,⟨t2,p2,hr1⟩⟩:=hG.e;have hsz:(str s).size≤281474976710656:=by rw[str_size];exact hs
  have htl:(str s).data.toList=s:=str_toList s;rcases he:Lib.atoiAll s with v|_|_
  ·have hv:=Lib.atoiAll_bounds he;have hu:toldV s=if v< -1000000000000000∨1000000000000000<v∨Lib.itoa v≠s then 0 else v:=by unfold toldV;rw[he]
   rw[hu];exact told_good m s w hG v ((Any.strconv_Atoi_ok Tryz.laysC172 (str s) (by omega) v (by rw[htl];exact he) w).mono fun e w' ⟨h1,h2⟩=>⟨h1,below_bytes (s:=str s) h2⟩) hv
  ·have hu:toldV s=0:=by unfold toldV;rw[he]
   rw[hu];exact told_bad m s w 0 _ ((Any.strconv_Atoi_syntax Tryz.laysC172 (str s) hsz (by rw[htl];exact he) _ w hs1 (.inr ⟨_,_,rfl⟩)).mono fun e w' ⟨N,h1,_,_,h2⟩=>⟨N,h1,h2⟩)
  ·have hu:toldV s=0:=by unfold toldV;rw[he]
   rw[hu];exact told_bad m s w _ _ ((Any.strconv_Atoi_range Tryz.laysC172 (str s) hsz (by rw[htl];exact he) _ w hr1 (.inr ⟨_,_,rfl⟩)).mono fun e w' ⟨N,h1,_,_,h2⟩=>⟨N,h1,h2⟩))
end
end Go.Proofs.YtcpaleaajdilgaaGreatDoor
end

section
namespace Go.Sh
open Go Go.RowKit
section
def TV.isPv:TV→Bool
 | .pv _=>true
 |_=>false
def TV.flB:TV→Bool
 | .pv _=>true
 | .own _ _ _=>true
 | .fn _ a b=>a.all TV.isPv&&b.all TV.isPv
 |_=>false
def TV.fl2B:TV→Bool
 | .agg cs=>cs.all TV.flB
 | .ptr _ _=>true
 |x=>x.flB
theorem RelT.stillB{w w':World}{E:Env}{r:Rows}{x:TV}{v:Value}(hx:x.flB=true)(h:RelT w E r x v)(hk:∀b o u,E.K b o→w.cell? ⟨b,o,none⟩=some u→E.K b o∧w'.cell? ⟨b,o,none⟩=some u):RelT w' E r x v:=by
 have hpv:∀{l:List TV} {us:List Value},l.all TV.isPv=true→(∀(j:Nat) c v,l[j]?=some c→us[j]?=some v→RelT w E r c v)→∀(j:Nat) c v,l[j]?=some c→us[j]?=some v→RelT w' E r c v:=by
  intro l us hl hr j c v hc hv;have h1:=List.all_eq_true.1 hl c (gM hc);have h2:=hr j c v hc hv;cases c with
  |pv p=>cases h2 with|pv h=>exact .pv (h.mono hk)
  |_=>simp[TV.isPv]at h1
 cases x with
 |pv p=>exact h.still (.inl ⟨_,rfl⟩) hk
 |own d W es=>exact h.still (.inr ⟨_,_,_,rfl⟩) hk
 |fn f a b=>
  simp only[TV.flB,Bool.and_eq_true]at hx;cases h with
  |fn g xs ys us vs h1 h2 r1 r2=>exact .fn f a b us vs h1 h2 (hpv hx.1 r1) (hpv hx.2 r2)
 |_=>simp[TV.flB]at hx
theorem RelT.still2{w w':World}{E:Env}{r:Rows}{x:TV}{v:Value}(hx:x.fl2B=true)(h:RelT w E r x v)(hk:∀b o u,E.K b o→w.cell? ⟨b,o,none⟩=some u→E.K b o∧w'.cell? ⟨b,o,none⟩=some u):RelT w' E r x v:=by
 cases x with
 |agg cs=>
  cases h with
  |agg cs vs hl h ho=>
   refine .agg cs vs hl (fun j c v hc hv=>(h j c v hc hv).stillB ?_ hk) ho;exact(List.all_eq_true.1 hx) c (gM hc)
 |ptr d o=>cases h;exact .ptr d o
 |_=>exact h.stillB hx hk
inductive MixO where
 |op (so:SOper)
 |ins (k:Value) (x:Nat)
def mixAt(P:Program)(N:Nat)(H:Option Nat→Nat)(ops:Array Oper)(t m i:Nat):Option MixO:=match insAt ops t m i with
 |some (.const k,.tmp x)=>some (.ins k x)
 |some _=>none
 |none=>match ops[i]? with
  |some o=>match z87 P N H none ops o with
   |some so=>match so.guard,so.dst with
    |none,some d=>if Nat.beq d m then none else some (.op so)
    |_,_=>none
   |none=>none
  |none=>none
def mixL(P:Program)(N:Nat)(H:Option Nat→Nat)(ops:Array Oper)(t m:Nat):List Nat→Option (List MixO)
 |[]=>some []
 |i::l=>match mixAt P N H ops t m i,mixL P N H ops t m l with
  |some x,some r=>some (x::r)
  |_,_=>none
def flS(m:Nat)(s:ES):Bool:=s.t.all (fun p=>Nat.beq p.1 m||p.2.fl2B)&&s.b.all (fun p=>p.2.all TV.flB)&&s.i.isEmpty
def insK(m x:Nat)(k:Value)(text:Bool)(K:ES→Prop)(s:ES):Option TV→Option TV→Prop
 |some (.mp ks xs),some y=>findKs (kdOf text) k ks 0=some none∧(xs.all TV.fl2B&&y.fl2B)=true∧K ⟨sv s.t m (.mp (ks++[k]) (xs++[y])),s.b,s.r,s.i⟩
 |_,_=>False
def mixW(P:Program)(g:Glob)(text:Bool)(m:Nat)(K:ES→Prop):List MixO→ES→Prop
 |[],s=>K s
 | .op so::l,s=>opsW P g [so] (mixW P g text m K l) (s.fgt so.news)
 | .ins k x::l,s=>flS m s=true∧Nat.beq x m=false∧insK m x k text (mixW P g text m K l) s (lk s.t m) (lk s.t x)
theorem lk_mem{α:Type}:∀{l:List (Nat×α)} {k:Nat} {x:α},lk l k=some x→(k,x)∈l
 |[],k,x,h=>by simp[lk]at h
 |(j,y)::l,k,x,h=>by
  simp only[lk]at h;cases hj:Nat.beq j k with
  |true=>simp_all
  |false=>rw[hj]at h;exact List.mem_cons_of_mem _ (lk_mem h)
section
variable{P:Program}{g:Glob}{ops:Array Oper}{B:Base}{H:Option Nat→Nat}{t kt et:TypeId}{text:Bool}{m b:Nat}
theorem turn_sim{s:ES}{a:Act}{w w':World}{E:Env}(h:Sim B s.fs a w E)(hfl:flS m s=true){ks ks':List Value}{xs xs':List TV}(hm:lk s.t m=some (.mp ks xs))(hs:MapTurn b w w')(hb:B.w0.heap.size≤b)(ho:∃o:Obj,w.heap[b]?=some o∧o.isCells=false)
  (hr:(∀b o u,E.K b o→w.cell? ⟨b,o,none⟩=some u→E.K b o∧w'.cell? ⟨b,o,none⟩=some u)→RelT w' E s.fs.r (.mp ks' xs') (a.tmps.getD m undef)):
  Sim B (⟨sv s.t m (.mp ks' xs'),s.b,s.r,s.i⟩:ES).fs a w' E:=by
 unfold flS at hfl;simp only[Bool.and_eq_true,List.all_eq_true,List.isEmpty_iff]at hfl;obtain⟨⟨ht,hbx⟩,hi⟩:=hfl;have hcs:∀(k:Nat) (o:Obj),w.heap[k]?=some o→o.isCells=true→w'.heap[k]?=w.heap[k]?:=fun k o hk hc=>by
  refine hs.block k (fun e=> ?_)
  grind
 have hce:∀(k o:Nat) (u:Value),w.cell? ⟨k,o,none⟩=some u→w'.cell? ⟨k,o,none⟩=some u:=fun k o u hu=>by
  grind [z96,World.cell?_of_block]
 have hk:∀b o u,E.K b o→w.cell? ⟨b,o,none⟩=some u→E.K b o∧w'.cell? ⟨b,o,none⟩=some u:=fun b o u h1 h2=>⟨h1,hce b o u h2⟩
 have hlow:Low B.X B.w0 w':=by
  obtain⟨l1,l2,l3,l4,l5⟩:=h.mem.low;refine⟨hs.os.trans l1,hs.tape.trans l2,hs.output.trans l3,by rw[hs.size];exact l4,fun k hk hx=>(hs.block k (fun e=>by subst e;exact absurd hk (Nat.not_lt.2 hb))).trans (l5 k hk hx)⟩
 refine⟨h.defers,h.size,fun k x hx=> ?_,⟨fun d cs hd=> ?_,fun d e W n hd=> ?_,h.mem.bb,h.mem.br,h.mem.rr,fun k o hko=>by rw[hs.size];exact h.mem.lt k o hko,hlow,fun k o u h1 h2=>⟨(h.mem.keep k o u h1 h2).1,hce _ _ _ (h.mem.keep k o u h1 h2).2⟩,h.mem.knew,h.mem.pas⟩,fun d z p hd=> ?_,h.ii⟩
 ·have hx:lk (sv s.t m (.mp ks' xs')) k=some x:=hx;rw[lk_sv]at hx;rcases z34 hx with⟨rfl,rfl⟩|⟨hne,hx⟩
  ·exact⟨(h.tmp k _ hm).1,hr hk⟩
  ·obtain⟨h1,h2⟩:=h.tmp k x hx;refine⟨h1,h2.still2 ?_ hk⟩;have:=ht _ (lk_mem hx);simp_all
 ·obtain⟨⟨lt,⟨c,e,z,hob⟩,fz,cell,out⟩,hq⟩:=h.mem.box d cs hd;have hss:=hcs _ _ hob rfl;refine⟨⟨by rw[hs.size];exact lt,⟨c,e,z,hss.trans hob⟩,fun o=>(z193 hss).trans (fz o),fun j c hj=> ?_,out⟩,hq⟩;obtain⟨v,h1,h2,h3⟩:=cell j c hj;exact⟨v,hce _ _ _ h1,h2,h3.stillB ((hbx _ (lk_mem hd)) c (gM hj)) hk⟩
 ·rcases h.mem.row d e W n hd with h1|⟨k,cap,h1,h2,⟨⟨cur,h3,h4⟩,h5,h6,h7⟩⟩
  ·grind
  ·exact .inr ⟨k,cap,h1,h2,⟨⟨cur,(hcs _ _ h3 rfl).trans h3,h4⟩,h5,h6,h7⟩⟩
 ·have hd:lk s.i d=some (z,p):=hd
  grind [lk]
theorem mp_inv{w:World}{E:Env}{r:Rows}{ks:List Value}{xs:List TV}{v:Value}(h:RelT w E r (.mp ks xs) v):∃(b:Nat) (es:Array MapEntry) (clock:Nat) (g:Nat→Value),v=.map (some b)∧w.heap[b]?=some (Obj.map es clock)∧es.toList.map MapEntry.key=ks∧xs.length=ks.length∧(∀(j:Nat) e,es.toList[j]?=some e→e.val=g j)∧∀(j:Nat) x,xs[j]?=some x→RelT w E r x (g j):=by
 cases h with
 |mp ks xs b es clock g h1 h2 h3 h4 h=>exact⟨b,es,clock,g,rfl,h1,h2,h3,h4,h⟩
theorem mix_sound(hm0:B.m≤1000)(hN:B.N≤1000)(hG:g.G B.w0)(hX:∀d b,B.X d b→g.n≤b)(hu:P.underlying t=some (.map kt et))(hkt:P.underlying kt=some (kdOf text))(hmN:m<B.N)(hbb:B.w0.heap.size≤b){Q:Exit→Act→World→Prop}{K:ES→Prop}{rest:List Nat}
  (hK:∀(s:ES) (a:Act) (w:World) (E:Env),Sim B s.fs a w E→K s→wpOps P ops Q rest a w):∀(is:List Nat) (l:List MixO),mixL P B.N H ops t m is=some l→∀(s:ES) (a:Act) (w:World) (E:Env),mixW P g text m K l s→Sim B s.fs a w E→a.tmps.getD m undef=.map (some b)→wpOps P ops Q (is++rest) a w
 |[],l,hl,s,a,w,E,h,hS,hm=>by
  simp only[mixL,Option.some.injEq]at hl;subst hl;exact hK s a w E hS h
 |i::is,l,hl,s,a,w,E,h,hS,hm=>by
  simp only[mixL]at hl;split at hl<;>try(cases hl;done)
  rename_i x r hx hr;cases hl;have ih:=mix_sound hm0 hN hG hX hu hkt hmN hbb hK is r hr;rw[List.cons_append,wpOps_cons];unfold mixAt at hx;split at hx
  ·rename_i k y hins;cases hx;obtain⟨hfl,hne,hk⟩:=h;unfold insK at hk;split at hk<;>try(exact hk.elim)
   rename_i ks xs tv hks htv;obtain⟨hfr,hfx,hk⟩:=hk;unfold insAt at hins;split at hins<;>try(cases hins;done)
   rename_i o ho;split at hins<;>try(cases hins;done)
   rename_i t' m' k' x' hop hdst hg;split at hins<;>try(cases hins;done)
   rename_i htm;rw[Bool.and_eq_true]at htm;obtain rfl:=Nat.eq_of_beq_eq_true htm.1;obtain rfl:=Nat.eq_of_beq_eq_true htm.2;cases hins;obtain⟨_,hrel⟩:=hS.tmp m _ hks;rw[hm]at hrel;obtain⟨b',es,clock,gg,e1,hob,hkeys,hlen,hvals,hxs⟩:=mp_inv hrel;cases e1;obtain⟨w1,hrun,hturn,hb1⟩:=run_ins (P:=P) (k:=a.eval (.const k)) (v:=a.eval (.tmp y)) hu hkt hob (by rw[hkeys];exact hfr);unfold wpOp;simp only[ho];rw[if_pos (by simp[Region.wanted,hg])];refine .inl ?_;unfold Oper.wp;have em:a.eval (.tmp m)=.map (some b):=hm;have hex:(execOp a.eval o).run P w=.ok .skip w1:=by
    have ec:a.eval (.const k)=k:=rfl;rw[ec]at hrun;simp[execOp,hop,em,ec,hrun,Result.andThen]
   rw[hex];show wpOps P ops Q (is++rest) (a.put o.dst undef) w1;rw[hdst];refine ih _ a w1 E hk (turn_sim hS hfl hks hturn hbb ⟨_,hob,rfl⟩ (fun hkk=> ?_)) hm;rw[hm];rw[Bool.and_eq_true,List.all_eq_true]at hfx;refine .mp _ _ b _ _ (fun j=>if j=ks.length then a.tmps.getD y undef else gg j) hb1 (by simp[hkeys];rfl) (by grind) (fun j e he=> ?_) (fun j z hz=> ?_)
   ·rw[Array.toList_push]at he;have hkl:es.toList.length=ks.length:=by grind
    rcases Nat.lt_or_ge j ks.length with hj|hj
    ·grind
    ·rw[List.getElem?_append_right (by omega)]at he;have hj0:j-es.toList.length=0:=by
      grind
     rw[hj0]at he;simp at he;subst he;rw[if_pos (by omega)];rfl
   ·rcases Nat.lt_or_ge j ks.length with hj|hj
    ·rw[List.getElem?_append_left (by omega)]at hz;rw[if_neg (by omega)];exact(hxs j z hz).still2 (hfx.1 z (gM hz)) hkk
    ·rw[List.getElem?_append_right (by omega)]at hz;have hj0:j-xs.length=0:=by
      grind
     rw[hj0]at hz;simp at hz;subst hz;rw[if_pos (by omega)];exact(hS.tmp y _ htv).2.still2 hfx.2 hkk
  ·cases hx
  ·rename_i hins;split at hx<;>try(cases hx;done)
   rename_i o ho;split at hx<;>try(cases hx;done)
   rename_i so ht;split at hx<;>try(cases hx;done)
   rename_i d hgd hdd;split at hx<;>try(cases hx;done)
   cases hx;have hd:Nat.beq d m=false:=by
    grind
   unfold z87 at ht;split at ht<;>try(cases ht;done)
   rename_i gd op hg hop;split at ht<;>try(cases ht;done)
   rename_i hdn;cases ht;simp only at hgd hdd;subst hgd;have hgo:o.guard=none:=by
    cases hgo:o.guard<;>grind [only,z165]
   have hS':=z84 hS (SOper.news ⟨o.dst,none,none,op⟩);obtain⟨C,hC,e,he,hk⟩:=h;have he':eff P C o.dst op (s.fgt (SOper.news ⟨o.dst,none,none,op⟩)).fs=some e:=(effF_eff (o:=⟨o.dst,none,none,op⟩) he).1;unfold wpOp;simp only[ho];rw[if_pos (by simp[Region.wanted,hgo])];refine .inl (sim_op (C:=C) hS' hm0 hN hG hX hop (fun k hk=>by rw[hk]at hdn;simp only[dstOk,Nat.blt_eq]at hdn;exact hdn) (fun d hd=>z64 s hd) hC (x:=e.1) (u:=e.2) he' (fun v w' E' hS2=> ?_));refine ih _ _ w' E' hk ?_ ?_
   ·rw[ES.after_fs];exact hS2
   ·rw[hdd];have hne:d≠m:=fun e=>by subst e;rw[Nat.beq_refl]at hd;cases hd
    simp only[Act.put,Array.getD_eq_getD_getElem?]at hm ⊢
    grind
end
end
end Go.Sh
end
