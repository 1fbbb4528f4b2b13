/- Merged texts: Pz1 Pe1 PVals Pe2 Pe3 Vf Cd6. No statement of the program is proved here. -/
import Derived.Test.YtbkgnekfigknhaaGreatDoorR17
import Derived.Lib.AtoiAll
import Derived.Lib.Small
import Derived.Lib.Index
set_option linter.unusedSimpArgs false
set_option linter.unusedVariables false
set_option maxRecDepth 100000
set_option maxHeartbeats 8000000
section
namespace Go.Proofs.YtbkgnekfigknhaaGreatDoor
open Go Go.Mor
structure Tri(p q r:Int):Prop where
 a: -1≤p∧p≤1
 b: -1≤q∧q≤1
 c: -1≤r∧r≤1
 d:p=0→r=q
 e:q=0→r=p
 f:p= -1→q= -1→r= -1
 g:p=1→q=1→r=1
theorem Tri.lex{p q r p' q' r':Int}(h:Tri p q r)(h':Tri p' q' r'):Tri (zZ p p') (zZ q q') (zZ r r'):=by
 obtain⟨a,b,c,d,e,f,g⟩:=h;obtain⟨a',b',c',d',e',f',g'⟩:=h';unfold zZ;constructor<;>(repeat' split)<;>omega
theorem znK(a b c:Int):Tri (z1i a b) (z1i b c) (z1i a c):=by
 unfold z1i;constructor<;>(repeat' split)<;>omega
theorem z8S(a b:Int):z1i b a= -z1i a b:=by
 grind [z1i]
def z2F:zB→zB→Int
 |[],[]=>0
 |[],_::_=> -1
 |_::_,[]=>1
 |a::x,b::y=>zZ (z1i a.toNat b.toNat) (z2F x y)
theorem z7R:∀(x y:zB),z2t x y=z2F x y
 |[],[]=>by simp[z2t,z2F,Op.bytesLess]
 |[],b::y=>by simp[z2t,z2F,Op.bytesLess]
 |a::x,[]=>by simp[z2t,z2F,Op.bytesLess]
 |a::x,b::y=>by
  have ih:=z7R x y;simp only[z2F,←ih];unfold z2t z1i zZ;simp only[Op.bytesLess]
  grind [UInt8.lt_iff_toNat_lt,UInt8.toNat_inj]
def Rng(p:Int):Prop:= -1≤p∧p≤1
theorem Rng.lex{p q:Int}(h:Rng p)(h':Rng q):Rng (zZ p q):=by grind [zZ]
theorem zaS(a b:Int):Rng (z1i a b):=(znK a a b).c
theorem zfn:∀(x y:zB),Rng (z2F x y)
 |[],[]=>by simp[z2F,Rng]
 |[],b::y=>by simp[z2F,Rng]
 |a::x,[]=>by simp[z2F,Rng]
 |a::x,b::y=>by simp only[z2F];exact(zaS _ _).lex (zfn x y)
theorem z4J{a b c d:Int}(h:b= -a)(h':d= -c):zZ b d= -zZ a c:=by
 grind [zZ]
theorem zdo:∀(x y:zB),z2F y x= -z2F x y
 |[],[]=>by simp[z2F]
 |[],b::y=>by simp[z2F]
 |a::x,[]=>by simp[z2F]
 |a::x,b::y=>by simp only[z2F];exact z4J (z8S _ _) (zdo x y)
theorem zlj(a b:zB):z2t b a= -z2t a b:=by grind [z7R,zdo]
theorem znL(a b:zB):Rng (z2t a b):=by grind [z7R,zfn]
theorem zeT:∀(x y:List V),(∀a∈x,∀b,Rng (cmpV a b))→Rng (z0P x y)
 |[],[],_=>by simp[z0P,Rng]
 |[],b::y,_=>by simp[z0P,Rng]
 |a::x,[],_=>by simp[z0P,Rng]
 |a::x,b::y,h=>by simp only[z0P];exact(h a (by simp) b).lex (zeT x y fun c hc=>h c (by simp[hc]))
theorem zkk(n:Nat):∀x y:V,SizeOf.sizeOf x≤n→Rng (cmpV x y):=by
 induction n with
 |zero=>intro x y h;cases x;simp at h
 |succ n ih=>
  intro x y h;rw[z4O];refine(zaS _ _).lex ((zaS _ _).lex ((znL _ _).lex (zeT _ _ fun a ha b=>ih a b ?_)));have:=List.sizeOf_lt_of_mem ha;cases x;simp[V.l]at h this ⊢;omega
theorem zmJ(x y:V):Rng (cmpV x y):=zkk _ x y (Nat.le_refl _)
theorem zd2:∀(x y:List V),(∀a∈x,∀b,cmpV b a= -cmpV a b)→z0P y x= -z0P x y
 |[],[],_=>by simp[z0P]
 |[],b::y,_=>by simp[z0P]
 |a::x,[],_=>by simp[z0P]
 |a::x,b::y,h=>by simp only[z0P];exact z4J (h a (by simp) b) (zd2 x y fun c hc=>h c (by simp[hc]))
theorem zix(n:Nat):∀x y:V,SizeOf.sizeOf x≤n→cmpV y x= -cmpV x y:=by
 induction n with
 |zero=>intro x y h;cases x;simp at h
 |succ n ih=>
  intro x y h;rw[z4O x y,z4O y x];refine z4J (z8S _ _) (z4J (z8S _ _) (z4J (zlj _ _) (zd2 _ _ fun a ha b=>ih a b ?_)));have:=List.sizeOf_lt_of_mem ha;cases x;simp[V.l]at h this ⊢;omega
theorem zd5(x y:V):cmpV y x= -cmpV x y:=zix _ x y (Nat.le_refl _)
theorem z8n(x:V):cmpV x x=0:=by grind [zd5]
theorem z4K{a b:Int}(h:zZ a b=0):a=0∧b=0:=by
 grind [zZ]
theorem zdz{a b:Int}(h:z1i a b=0):a=b:=by
 grind [z1i]
theorem zdp:∀{x y:zB},z2F x y=0→x=y
 |[],[],_=>rfl
 |[],b::y,h=>by simp[z2F]at h
 |a::x,[],h=>by simp[z2F]at h
 |a::x,b::y,h=>by
  obtain⟨h1,h2⟩:=z4K h;have:=zdz h1;rw[zdp h2,UInt8.toNat_inj.1 (by omega:a.toNat=b.toNat)]
theorem zd4:∀{x y:List V},(∀a∈x,∀b,cmpV a b=0→a=b)→z0P x y=0→x=y
 |[],[],_,_=>rfl
 |[],b::y,_,h=>by simp[z0P]at h
 |a::x,[],_,h=>by simp[z0P]at h
 |a::x,b::y,H,h=>by
  obtain⟨h1,h2⟩:=z4K h;rw[H a (by simp) b h1,zd4 (fun c hc=>H c (by simp[hc])) h2]
theorem ziy(n:Nat):∀x y:V,SizeOf.sizeOf x≤n→cmpV x y=0→x=y:=by
 induction n with
 |zero=>intro x y h;cases x;simp at h
 |succ n ih=>
  intro x y h h0;rw[z4O]at h0;obtain⟨h1,h0⟩:=z4K h0;obtain⟨h2,h0⟩:=z4K h0;obtain⟨h3,h4⟩:=z4K h0;rw[z7R]at h3;have hl:=zd4 (fun a ha b=>ih a b (by
   have:=List.sizeOf_lt_of_mem ha;cases x;simp[V.l]at h this ⊢;omega)) h4
  grind [V.eta,zdz,zdp]
theorem zkl{x y:V}:cmpV x y=0 ↔ x=y:=⟨ziy _ x y (Nat.le_refl _),fun h=>h▸z8n x⟩
end Go.Proofs.YtbkgnekfigknhaaGreatDoor
end

section
namespace Go.Mor
open Go
def ty0:Ty:=⟨0,0⟩
def z0i(a b:Ty):Bool:=a.k==b.k&&a.o==b.o
def z1Q(a b:Ty):Bool:=z0i a b&&(a.k==1||a.k==2)
def z29:List Ty→List Int→Bool
 |[],_=>true
 |t::l,k::r=>t.k==k&&z29 l r
 |_::_,[]=>false
def zK(k:Int)(ks:List Int)(ps:List Ty):Ty×Bool:=if z29 ps ks then(⟨k,0⟩,true)else(ty0,false)
def zbL(s:zB)(ps:List Ty):Ty×Bool:=
 if s=[43]∨s=[45]∨s=[42]∨s=[47]∨s=[37] then zK 1 [1,1] ps
 else if s=[38] then zK 2 [2,2] ps
 else(⟨1,0⟩,z1Q (ps.getD 0 ty0) (ps.getD 1 ty0))
def z4C:zB:=[108,101,110]
def z1E:zB:=[108,101,102,116]
def z13:zB:=[114,105,103,104,116]
def z1D:zB:=[102,114,111,109]
def z2l:zB:=[102,105,110,100]
def z1l:zB:=[116,101,120,116]
def z4D:zB:=[110,117,109]
def nIf:zB:=[105,102]
def z4X:zB:=[109,105,110]
def z5D:zB:=[109,97,120]
def z2c(ps:List Ty):Ty×Bool:=if(ps.getD 0 ty0).k=1∧z1Q (ps.getD 1 ty0) (ps.getD 2 ty0)=true then(ps.getD 1 ty0,true)else(ty0,false)
def z6s(s:zB)(ps:List Ty):Ty×Bool:=
 if s=z4C then zK 1 [2] ps else if s=z1E then zK 2 [2,1] ps else if s=z13 then zK 2 [2,1] ps else if s=z1D then zK 2 [2,1] ps
 else if s=z2l then zK 1 [2,2] ps else if s=z1l then zK 2 [1] ps else if s=z4D then zK 1 [2] ps else if s=nIf then z2c ps
 else zK 1 [1,1] ps
def z0z(t:V→Ty×Bool):List V→Option (List Ty)
 |[]=>some []
 |x::l=>if(t x).2 then(z0z t l).map ((t x).1::·)else none
def z2m(fs:List Fld)(e:V)(ps:List Ty):Ty×Bool:=
 if e.k=2 then(⟨2,0⟩,true)
 else if e.k=3 then(if fieldAt fs e.s<0 then(ty0,false)else((fs.getD (fieldAt fs e.s).toNat ⟨[],ty0,false⟩).t,true))
 else if e.k=4 then zbL e.s ps
 else if e.k=5 then zK 1 [1] ps
 else if e.k=6 then z6s e.s ps
 else(⟨1,0⟩,true)
def zl(fs:List Fld):Nat→V→Ty×Bool
 |0,_=>(ty0,false)
 |d+1,e=>match z0z (zl fs d) e.l with
  |none=>(ty0,false)
  |some ps=>z2m fs e ps
def zeU(n:Int):Int:=max (-1000000000000000) (min n 1000000000000000)
def z0r(n:Int):V:=.mk 1 (zeU n) [] []
def z4q:Nat→zB→Nat→Nat
 |0,_,a=>a
 |f+1,l,a=>if l=[] then a else if 60<(a:Int)+Lib.runeLen ((Lib.decodeL l).1:Int)then a else z4q f (l.drop (Lib.decodeL l).2) (a+(Lib.decodeL l).2)
def z5z(s:zB):zB:=s.take (z4q s.length s 0)
def z1X(s:zB):V:=.mk 2 0 (z5z s) []
def z56:Nat→zB→Nat
 |0,_=>0
 |f+1,l=>if l=[] then 0 else z56 f (l.drop (Lib.decodeL l).2)+1
def z16(s:zB):Nat:=z56 s.length s
def z4o:Nat→zB→Nat→Nat→Int→Nat
 |0,_,a,_,_=>a
 |f+1,l,a,k,n=>if l=[] then a else if n≤(k:Int)then a else z4o f (l.drop (Lib.decodeL l).2) (a+(Lib.decodeL l).2) (k+1) n
def z1S(s:zB)(n:Int):Nat:=z4o s.length s 0 0 n
def z9v(t u:zB):Int:=if Lib.index t u<0 then -1 else(z16 (t.take (Lib.index t u).toNat):Int)
def z44(t:zB):Int:=match Lib.atoiAll t with
 | .ok v=>if v< -1000000000000000∨1000000000000000<v∨Lib.itoa v≠t then 0 else v
 |_=>0
def z9M(a b:Int):Int:=if a=0∨max b (-b)≤(1000000000000000:Int).tdiv (max a (-a))then a*b else if(decide (a<0)==decide (b<0))=true then 1000000000000000 else -1000000000000000
def z5Q(s:zB)(a b:Int):Int:=if b=0 then 0 else if s=[47] then a.tdiv b else a.tmod b
def z3Y(s:zB)(c:Int):Bool:=
 if s=[60,61] then decide (c≤0)else if s=[61] then decide (c=0)else if s=[62,61] then decide (0≤c)else if s=[62] then decide (0<c)else if s=[60,62] then decide (c≠0)else decide (c<0)
def opV(s:zB)(a b:V):V:=
 if s=[45] then z0r (a.n+ -b.n)else if s=[43] then z0r (a.n+b.n)else if s=[42] then z0r (z9M a.n b.n)
 else if s=[47]∨s=[37] then z0r (z5Q s a.n b.n)else if s=[38] then z1X (a.s++b.s)
 else if z3Y s (Go.Proofs.YtbkgnekfigknhaaGreatDoor.cmpV a b)then z0r 1 else z0r 0
def z0d(s:zB)(l:List V):V:=
 let x:=l.getD 0 V.nil
 let y:=l.getD 1 V.nil
 if s=z4C then z0r (z16 x.s)else if s=z1E then z1X (x.s.take (z1S x.s y.n))else if s=z13 then z1X (x.s.drop (z1S x.s (z16 x.s-y.n)))
 else if s=z1D then z1X (x.s.drop (z1S x.s y.n))else if s=z2l then z0r (z9v x.s y.s)else if s=z1l then z1X (Lib.itoa x.n)else if s=z4D then z0r (z44 x.s)
 else if s=nIf then(if x.n≠0 then y else l.getD 2 V.nil)else if s=z4X then z0r (min x.n y.n)else z0r (max x.n y.n)
def z9J(fs:List Fld)(vals:List V)(e:V)(ps:List V):V:=
 if e.k=2 then z1X e.s
 else if e.k=3 then vals.getD (fieldAt fs e.s).toNat V.nil
 else if e.k=4 then opV e.s (ps.getD 0 V.nil) (ps.getD 1 V.nil)
 else if e.k=5 then z0r (-(ps.getD 0 V.nil).n)
 else if e.k=6 then z0d e.s ps
 else z0r e.n
def z1g(fs:List Fld)(vals:List V):Nat→V→V
 |0,_=>V.nil
 |d+1,e=>z9J fs vals e (e.l.map (z1g fs vals d))
def z1Y(c:Cls)(e:V):Ty×Int:=if z0b e then(if ze c then(if(zl c.fs 8 e).2 then((zl c.fs 8 e).1,0)else(ty0,60))else(ty0,40))else(ty0,50)
def z2Q(c:Cls)(vals:List V)(e:V):V×Int:=if(z1Y c e).2≠0 then(V.nil,(z1Y c e).2)else if(check c vals).2≠0 then(V.nil,(check c vals).2)else(z1g c.fs vals 8 e,0)
section
open Go.RowKit
def zjW(i:Int):zB:=([[],[97],[98,99],[195,169,116,195,169],[97,32,98],[122,122,32,116,111,112],[48],[45,55]]:List (zB)).getD i.toNat []
def z1u(k n many:Int):V:=
 if k=1 then .mk 1 (pick n 41-20) [] []
 else if k=2 then .mk 2 0 (zjW (pick n 8)) []
 else if many<1∨pick n 5=4 then V.nil
 else .mk k (1+pick n many) [] []
def z2i(t:Ty)(n many:Int):V:=
 if t.k=5 then .mk 5 0 [] ((List.range (pick n 4).toNat).map fun i:Nat=>z1u t.o (n.tdiv 4+(i:Int)) many)else z1u t.k n many
def z6X(l:List Int)(i:Nat):Int:=if l=[] then i else IntKind.i64.wrap (l.getD (i%l.length) 0+i)
def z2j(fs:List Fld)(l:List Int)(many:Int):List V:=fs.mapIdx fun i f=>z2i f.t (z6X l i) many
theorem zjX(j:Int)(h0:0≤j)(h1:j<8):zi (zjW j)=true:=by
 have:j=0∨j=1∨j=2∨j=3∨j=4∨j=5∨j=6∨j=7:=by omega
 rcases this with rfl|rfl|rfl|rfl|rfl|rfl|rfl|rfl<;>rfl
theorem zdH(k n many:Int)(hk:1≤k∧k≤4)(hm:many≤100000):z15 (z1u k n many)=true∧(z1u k n many).l=[]∧z0U (z1u k n many) k=true∧(z1u k n many).k≠5∧(z1u k n many).s.length≤60:=by
 unfold z1u;by_cases h1:k=1
 ·subst h1;have:=zH n 41 (by omega);simp[z15,bare,z0U,V.k,V.n,V.s,V.l];omega
 ·rw[if_neg h1];by_cases h2:k=2
  ·subst h2;have h8:=zH n 8 (by omega);have:=zjX _ h8.1 h8.2;have hl:(zjW (pick n 8)).length≤60:=by simp only[zi,Bool.and_eq_true,decide_eq_true_iff]at this;exact this.1
   grind [z15,z0U,V.k,V.n,V.s,V.l]
  ·rw[if_neg h2];by_cases h3:many<1∨pick n 5=4
   ·rw[if_pos h3];have hk34:k=3∨k=4:=by omega
    refine⟨by decide,rfl,?_,by decide,by decide⟩;rcases hk34 with rfl|rfl<;>decide
   ·rw[if_neg h3];have:=zH n many (by omega);have hid:z2J (1+pick n many)=true:=by grind [z2J]
    grind [z0U,V.k,V.s,z15,bare,V.n,V.l]
end
structure Sgn(g:zB):Prop where
 pos:1≤g.length
 le:g.length≤4
 dec:∀t,Lib.decodeL (g++t)=((Lib.decodeL g).1,g.length)
 rl:Lib.runeLen ((Lib.decodeL g).1:Int)=(g.length:Int)
 ok:¬((Lib.decodeL g).1=65533∧g.length=1)
 hd:(g.getD 0 0).toNat<128∨192≤(g.getD 0 0).toNat
 tl:∀c∈g.drop 1,128≤c.toNat∧c.toNat<192
 pl:z40 (Lib.decodeL g).1=true
theorem zt6{b c:UInt8}(h0:¬b.toNat<128)(h1:b.toNat / 32=6)(h2:c.toNat / 64=2)(hr:b.toNat%32*64+c.toNat%64≥128)(t:zB):Lib.decodeL (b::c::t)=(b.toNat%32*64+c.toNat%64,2):=by
 rw[Lib.decodeL_N]
 grind [Lib.decodeN]
theorem zt7{b c d:UInt8}(h0:¬b.toNat<128)(h1:b.toNat / 16=14)(h2:c.toNat / 64=2)(h3:d.toNat / 64=2)
  (hr:b.toNat%16*4096+c.toNat%64*64+d.toNat%64≥2048∧(b.toNat%16*4096+c.toNat%64*64+d.toNat%64<55296∨(57344≤b.toNat%16*4096+c.toNat%64*64+d.toNat%64∧b.toNat%16*4096+c.toNat%64*64+d.toNat%64≤1114111))) (t:zB):
  Lib.decodeL (b::c::d::t)=(b.toNat%16*4096+c.toNat%64*64+d.toNat%64,3):=by
 rw[Lib.decodeL_N]
 grind [Lib.decodeN]
theorem zt8{b c d e:UInt8}(h0:¬b.toNat<128)(h1:b.toNat / 8=30)(h2:c.toNat / 64=2)(h3:d.toNat / 64=2)(h4:e.toNat / 64=2)
  (hr:b.toNat%8*262144+c.toNat%64*4096+d.toNat%64*64+e.toNat%64≥65536∧(b.toNat%8*262144+c.toNat%64*4096+d.toNat%64*64+e.toNat%64<55296∨(57344≤b.toNat%8*262144+c.toNat%64*4096+d.toNat%64*64+e.toNat%64∧b.toNat%8*262144+c.toNat%64*4096+d.toNat%64*64+e.toNat%64≤1114111))) (t:zB):
  Lib.decodeL (b::c::d::e::t)=(b.toNat%8*262144+c.toNat%64*4096+d.toNat%64*64+e.toNat%64,4):=by
 rw[Lib.decodeL_N]
 grind [Lib.decodeN]
theorem zet{n:Nat}{k:Int}(h:(n<128∧k=1)∨(128≤n∧n<2048∧k=2)∨(2048≤n∧(n<55296∨57344≤n)∧n<65536∧k=3)∨(65536≤n∧n≤1114111∧k=4)):Lib.runeLen (n:Int)=k:=by
 grind [Lib.runeLen]
theorem zrD{r:zB}(h:1≤r.length):∃c t,r=c::t:=by
 match r,h with
 |c::t,_=>simp
theorem zs5{r:zB}(h:2≤r.length):∃c d t,r=c::d::t:=by
 match r,h with
 |c::d::t,_=>simp
theorem zof{r:zB}(h:3≤r.length):∃c d e t,r=c::d::e::t:=by
 match r,h with
 |c::d::e::t,_=>simp
theorem zlH{l:zB}(hne:l≠[])(hv:¬((Lib.decodeL l).1=65533∧(Lib.decodeL l).2=1))(hp:z40 (Lib.decodeL l).1=true):Sgn (l.take (Lib.decodeL l).2):=by
 obtain⟨b,r,rfl⟩:=List.exists_cons_of_ne_nil hne;have hN:=Lib.decodeL_N (b::r);unfold Lib.decodeN at hN;by_cases h0:b.toNat<128
 ·have hd:=fun t=>Lib.decodeL_ascii b t h0;rw[hd]at hp hv ⊢;rw[List.take_succ_cons,List.take_zero];exact⟨by simp,by simp,fun t=>by rw[List.singleton_append,hd,hd];rfl,by rw[hd];exact zet (.inl ⟨h0,rfl⟩),by rw[hd];simp;omega,.inl h0,by simp,by rw[hd];exact hp⟩
 ·simp only[List.getD_cons_zero,if_neg h0,List.getD_cons_succ,List.length_cons]at hN;split at hN
  ·rename_i h1;split at hN
   ·rename_i h2;obtain⟨c,t,rfl⟩:=zrD (r:=r) (by omega)
    ·simp only[List.getD_cons_zero]at h1 h2;have hd:=fun t=>zt6 h0 h1.1 h1.2.2 h2 t;rw[hd]at hp hv ⊢;simp;refine⟨by simp,by simp,fun t=> ?_,by rw[hd];exact zet (.inr (.inl ⟨h2,by omega,rfl⟩)),by simp,.inr (by grind),?_,by rw[hd];exact hp⟩
     ·grind
     ·grind
   ·grind
  split at hN
  ·rename_i h1;split at hN
   ·rename_i h2;obtain⟨c,d,t,rfl⟩:=zs5 (r:=r) (by omega)
    ·simp only[List.getD_cons_zero,List.getD_cons_succ]at h1 h2;have hd:=fun t=>zt7 h0 h1.1 h1.2.1.2 h1.2.2.2 h2 t;rw[hd]at hp hv ⊢;simp;refine⟨by simp,by simp,fun t=> ?_,by rw[hd];exact zet (.inr (.inr (.inl ⟨h2.1,by omega,by omega,rfl⟩))),by simp,.inr (by grind),?_,by rw[hd];exact hp⟩
     ·grind
     ·grind
   ·grind
  split at hN
  ·rename_i h1;split at hN
   ·rename_i h2;obtain⟨c,d,e,t,rfl⟩:=zof (r:=r) (by omega)
    ·simp only[List.getD_cons_zero,List.getD_cons_succ]at h1 h2;have hd:=fun t=>zt8 h0 h1.1 h1.2.1.2 h1.2.2.1.2 h1.2.2.2.2 h2 t;rw[hd]at hp hv ⊢;simp;refine⟨by simp,by simp,fun t=> ?_,by rw[hd];exact zet (.inr (.inr (.inr ⟨h2.1,by omega,rfl⟩))),by simp,.inr (by grind),?_,by rw[hd];exact hp⟩
     ·grind
     ·grind
   ·grind
  ·grind
theorem Sgn.ne{g:zB}(h:Sgn g):g≠[]:=by intro e;have:=h.pos;rw[e]at this;simp at this
def Txt(gs:List (zB)):Prop:=∀g∈gs,Sgn g
theorem Txt.tail{g:zB}{gs:List (zB)}(h:Txt (g::gs)):Txt gs:=fun x hx=>h x (List.mem_cons_of_mem _ hx)
theorem Txt.head{g:zB}{gs:List (zB)}(h:Txt (g::gs)):Sgn g:=h g (List.mem_cons_self ..)
theorem Txt.take{gs:List (zB)}(h:Txt gs)(n:Nat):Txt (gs.take n):=fun x hx=>h x (List.mem_of_mem_take hx)
theorem Txt.drop{gs:List (zB)}(h:Txt gs)(n:Nat):Txt (gs.drop n):=fun x hx=>h x (List.mem_of_mem_drop hx)
theorem Txt.app{gs hs:List (zB)}(h:Txt gs)(h':Txt hs):Txt (gs++hs):=fun x hx=>(List.mem_append.1 hx).elim (h x) (h' x)
theorem zm0:∀(n:Nat) (s:zB),s.length≤n→Lib.validD s=true→z39 s=true→∃gs,Txt gs∧gs.flatten=s
 |0,s,h,_,_=>by
  obtain rfl:=List.eq_nil_of_length_eq_zero (Nat.le_zero.1 h);exact⟨[],by intro g hg;simp at hg,rfl⟩
 |n+1,s,h,hv,hp=>by
  by_cases hne:s=[]
  ·subst hne;exact⟨[],by intro g hg;simp at hg,rfl⟩
  rw[Lib.validD_step s hne]at hv;rw[z5i s hne,Bool.and_eq_true]at hp;split at hv
  ·cases hv
  ·rename_i hok;have hw:=Lib.decodeL_width s;obtain⟨gs,h1,h2⟩:=zm0 n (s.drop (Lib.decodeL s).2) (by grind) hv hp.2;refine⟨s.take (Lib.decodeL s).2::gs,fun g hg=> ?_,by rw[List.flatten_cons,h2,List.take_append_drop]⟩;rcases List.mem_cons.1 hg with rfl|hg
   ·grind [zlH]
   ·exact h1 g hg
theorem zcR{g:zB}{gs:List (zB)}(h:Txt (g::gs)):Lib.decodeL (g::gs).flatten=((Lib.decodeL g).1,g.length):=by rw[List.flatten_cons];exact h.head.dec _
theorem z9y{g:zB}{gs:List (zB)}(h:Txt (g::gs)):(g::gs).flatten≠[]:=by
 rw[List.flatten_cons];intro e;exact h.head.ne (List.append_eq_nil_iff.1 e).1
theorem zdh{g:zB}{gs:List (zB)}:((g::gs).flatten).drop g.length=gs.flatten:=by simp
theorem zdQ:∀(gs:List (zB)),Txt gs→Lib.validD gs.flatten=true∧z39 gs.flatten=true
 |[],_=>⟨rfl,rfl⟩
 |g::gs,h=>by
  obtain⟨h1,h2⟩:=zdQ gs h.tail;rw[Lib.validD_step _ (z9y h),z5i _ (z9y h),zcR h];simp only[zdh];rw[if_neg h.head.ok,h1,h2,h.head.pl];simp
theorem zm1{gs:List (zB)}(h:Txt gs)(hl:gs.flatten.length≤60):zi gs.flatten=true:=by
 grind [zdQ,zi]
theorem z5t{s:zB}(h:zi s=true):∃gs,Txt gs∧gs.flatten=s∧s.length≤60:=by
 unfold zi at h;rw[Bool.and_eq_true,Bool.and_eq_true,decide_eq_true_eq]at h;obtain⟨gs,h1,h2⟩:=zm0 s.length s (Nat.le_refl _) h.2.1 h.2.2
 grind
theorem z2S:∀(gs:List (zB)),Txt gs→gs.length≤gs.flatten.length
 |[],_=>by simp
 |g::gs,h=>by
  have:=z2S gs h.tail;have:=h.head.pos
  grind
theorem zcZ:∀(gs:List (zB)) (f a k:Nat) (n:Int),Txt gs→gs.flatten.length≤f→z4o f gs.flatten a k n=a+(gs.take (n-k).toNat).flatten.length
 |[],f,a,k,n,_,_=>by cases f<;>simp[z4o]
 |g::gs,f,a,k,n,h,hf=>by
  have hp:=h.head.pos;rw[List.flatten_cons,List.length_append]at hf;obtain⟨j,rfl⟩:∃j,f=j+1:=⟨f-1,by omega⟩
  rw[z4o,if_neg (z9y h),zcR h];simp only[zdh];by_cases hk:n≤(k:Int)
  ·simp_all
  ·rw[if_neg hk,zcZ gs j _ (k+1) n h.tail (by omega),show(n-(k:Int)).toNat=(n-((k+1:Nat):Int)).toNat+1 by omega,List.take_succ_cons,List.flatten_cons,List.length_append];omega
theorem zh9{gs:List (zB)}(h:Txt gs)(n:Int):z1S gs.flatten n=(gs.take n.toNat).flatten.length:=by
 unfold z1S;rw[zcZ gs _ 0 0 n h (Nat.le_refl _)];simp
theorem z5L(gs:List (zB))(n:Nat):gs.flatten=(gs.take n).flatten++(gs.drop n).flatten:=by
 rw[←List.flatten_append,List.take_append_drop]
theorem zoe{gs:List (zB)}(h:Txt gs)(n:Int):gs.flatten.take (z1S gs.flatten n)=(gs.take n.toNat).flatten:=by
 grind [zh9,z5L,List.take_left]
theorem zmT{gs:List (zB)}(h:Txt gs)(n:Int):gs.flatten.drop (z1S gs.flatten n)=(gs.drop n.toNat).flatten:=by
 grind [zh9,z5L,List.drop_left]
theorem zd7:∀(gs:List (zB)) (f a:Nat),Txt gs→gs.flatten.length≤f→a≤60→∃k,k≤gs.length∧z4q f gs.flatten a=a+(gs.take k).flatten.length∧a+(gs.take k).flatten.length≤60∧(k=gs.length∨60<a+(gs.take (k+1)).flatten.length)
 |[],f,a,_,_,ha=>⟨0,by simp,by cases f<;>simp[z4q],by simpa using ha,.inl rfl⟩
 |g::gs,f,a,h,hf,ha=>by
  have hp:=h.head.pos;rw[List.flatten_cons,List.length_append]at hf;obtain⟨j,rfl⟩:∃j,f=j+1:=⟨f-1,by omega⟩
  rw[z4q,if_neg (z9y h),zcR h];rw[h.head.rl];by_cases hk:(60:Int)<(a:Int)+(g.length:Int)
  ·rw[if_pos hk];refine⟨0,by simp,by simp,by simpa using ha,.inr ?_⟩
   grind
  ·rw[if_neg hk];obtain⟨k,h1,h2,h3,h4⟩:=zd7 gs j (a+g.length) h.tail (by omega) (by omega);refine⟨k+1,by simpa using h1,?_,?_,?_⟩
   ·grind
   ·grind
   ·grind
theorem zhq{gs:List (zB)}(h:Txt gs):∃k,k≤gs.length∧z5z gs.flatten=(gs.take k).flatten∧(gs.take k).flatten.length≤60∧(k=gs.length∨60<(gs.take (k+1)).flatten.length):=by
 obtain⟨k,h1,h2,h3,h4⟩:=zd7 gs _ 0 h (Nat.le_refl _) (by omega)
 grind [z5z,z5L,List.take_left]
theorem zgg(gs:List (zB))(k:Nat):(gs.take k).flatten.length≤gs.flatten.length:=by
 grind [List.length,z5L,List.length_append]
theorem zqY{gs:List (zB)}(h:Txt gs)(hl:gs.flatten.length≤60):z5z gs.flatten=gs.flatten:=by
 grind [zhq,List.take_length,zgg]
theorem z6v{gs:List (zB)}(h:Txt gs):zi (z5z gs.flatten)=true:=by
 obtain⟨k,h1,h2,h3,_⟩:=zhq h;rw[h2];exact zm1 (h.take k) h3
theorem zeX{s:zB}(h:zi s=true):z5z s=s:=by
 grind [z5t,zqY]
theorem zlG{b:UInt8}(h0:32≤b.toNat)(h1:b.toNat<127):Sgn [b]:=by
 grind [Lib.decodeL_ascii,z40,zlH]
theorem zlZ{s:zB}(h:∀b∈s,32≤b.toNat∧b.toNat<127):Txt (s.map fun b=>[b])∧(s.map fun b=>[b]).flatten=s:=by
 refine⟨fun g hg=> ?_,?_⟩
 ·grind [zlG]
 ·induction s<;>simp_all
section
theorem zmM(n:Int): -1000000000000000≤zeU n∧zeU n≤1000000000000000:=by grind [zeU]
theorem z1z(n:Int):zI (z0r n) ⟨1,0⟩=true:=by
 have:=zmM n;unfold z0r;simp[zI,z1f,z15,bare,zg,z0U,V.k,V.n,V.s,V.l,this.1,this.2]
theorem z4i{s:zB}(h:zi s=true):zI (.mk 2 0 s []) ⟨2,0⟩=true:=by
 simp[zI,z1f,z15,zg,z0U,V.k,V.n,V.s,V.l,h]
theorem zby{v:V}{t:Ty}(h:zI v t=true):z1f v=true:=by
 unfold zI at h;simp at h;exact h.1.1.1
theorem zdg{v:V}{t:Ty}(h:zI v t=true)(hk:t.k≠3)(hk4:t.k≠4):v.k=t.k:=by
 grind [zI,z0U]
theorem z7o{v:V}{t:Ty}(h:zI v t=true)(hk:t.k=2):v.k=2∧v.n=0∧v.l=[]∧zi v.s=true:=by
 have h1:=zdg h (by omega) (by omega);have h2:=zby h
 grind [z1f,z15]
theorem zfB{v:V}{t:Ty}(h:zI v t=true)(hk:t.k=1):v.k=1∧ -1000000000000000≤v.n∧v.n≤1000000000000000∧v.s=[]∧v.l=[]:=by
 have h1:=zdg h (by omega) (by omega);have h2:=zby h
 grind [z1f,z15,bare]
theorem zec{s:zB}(h:zi s=true):zi (z5z s)=true:=by grind [zeX]
theorem zpC{s t:zB}(hs:zi s=true)(ht:zi t=true):zi (z5z (s++t))=true:=by
 obtain⟨gs,h1,rfl,_⟩:=z5t hs;obtain⟨hs',h2,rfl,_⟩:=z5t ht;rw[←List.flatten_append];exact z6v (h1.app h2)
theorem zmN{s:zB}(hs:zi s=true)(n:Int):zi (z5z (s.take (z1S s n)))=true:=by
 obtain⟨gs,h1,rfl,_⟩:=z5t hs;rw[zoe h1];exact z6v (h1.take _)
theorem zeV{s:zB}(hs:zi s=true)(n:Int):zi (z5z (s.drop (z1S s n)))=true:=by
 obtain⟨gs,h1,rfl,_⟩:=z5t hs;rw[zmT h1];exact z6v (h1.drop _)
theorem ziT(n:Int):∀b∈Lib.itoa n,32≤b.toNat∧b.toNat<127:=by
 have hd:∀m:Nat,∀b∈Lib.decDigits m,32≤b.toNat∧b.toNat<127:=by
  intro m
  induction m using Nat.strongRecOn with
  |_ m ih=>
   intro b hb;by_cases hm:m<10
   ·rw[Lib.decDigits_one hm]at hb
    grind [ziC]
   ·rw[Lib.decDigits,dif_neg hm,List.mem_append]at hb;rcases hb with hb|hb
    ·grind
    ·simp only[List.mem_cons,List.not_mem_nil,or_false]at hb
     grind [ziC]
 intro b hb;unfold Lib.itoa at hb;split at hb
 ·rcases List.mem_cons.1 hb with rfl|hb<;>grind
 ·grind
theorem zeW(n:Int):zi (z5z (Lib.itoa n))=true:=by
 obtain⟨h1,h2⟩:=zlZ (ziT n)
 grind [z6v]
theorem z1P{k:Int}{ks:List Int}{ps:List Ty}{t:Ty}(h:zK k ks ps=(t,true)):t=⟨k,0⟩∧z29 ps ks=true:=by
 grind [zK]
theorem zgf:∀{ps:List Ty} {ks:List Int} {i:Nat} {t:Ty},z29 ps ks=true→ps[i]?=some t→ks[i]?=some t.k
 |t::l,k::r,0,t',h,e=>by
  cases e;rw[z29,Bool.and_eq_true,beq_iff_eq]at h;simp[h.1]
 |t::l,k::r,i+1,t',h,e=>by
  rw[z29,Bool.and_eq_true]at h;have:=zgf (ps:=l) (ks:=r) (i:=i) (t:=t') h.2 (by grind)
  grind
 |t::l,[],_,_,h,_=>by simp[z29]at h
 |[],_,_,_,_,e=>by simp at e
theorem z7I{t:V→Ty×Bool}:∀{l:List V} {ps:List Ty},z0z t l=some ps→ps.length=l.length∧∀(i:Nat) x,l[i]?=some x→(t x).2=true∧ps[i]?=some (t x).1
 |[],ps,h=>by cases h;exact⟨rfl,fun i x e=>by simp at e⟩
 |x::l,ps,h=>by
  unfold z0z at h;split at h
  ·rename_i h1;obtain⟨qs,h2,rfl⟩:=gO h;obtain⟨h3,h4⟩:=z7I h2
   grind
  ·cases h
def z63(fs:List Fld)(vals:List V):Prop:=(∀f∈fs,zg f.t=true)∧vals.length=fs.length∧∀(i:Nat) f v,fs[i]?=some f→vals[i]?=some v→zI v f.t=true
theorem z4T{α:Type}{l:List α}{i:Nat}{x d:α}(h:l[i]?=some x):l.getD i d=x:=by grind
theorem zf2{fs:List Fld}{vals:List V}(hf:z63 fs vals){s:zB}(h:¬fieldAt fs s<0):∃f v,fs[(fieldAt fs s).toNat]?=some f∧vals[(fieldAt fs s).toNat]?=some v∧zI v f.t=true∧f.n=s:=by
 obtain⟨k,hk⟩:∃k:Nat,fieldAt fs s=k:=⟨(fieldAt fs s).toNat,by omega⟩
 obtain⟨f,h1,h2⟩:=z2R _ _ k hk;rw[hk,Int.toNat_natCast];have hlt:k<vals.length:=by rw[hf.2.1];exact(gJ h1).1
 exact⟨f,vals[k],h1,gE hlt,hf.2.2 k f _ h1 (gE hlt),by simpa using h2⟩
theorem z3b{s:zB}(h:0<zm s):s=z4C∨s=z1l∨s=z4D∨s=z1E∨s=z13∨s=z1D∨s=z2l∨s=z4X∨s=z5D∨s=nIf:=by
 unfold zm at h;split at h
 ·grind [z4C,z1l,z4D]
 grind [z1E,z13,z1D,z2l,z4X,z5D,nIf]
theorem zcW{a b:Ty}(h:z1Q a b=true):a=b∧(a.k=1∨a.k=2):=by
 unfold z1Q z0i at h;obtain⟨ak,ao⟩:=a;obtain⟨bk,bo⟩:=b
 grind
section
variable{fs:List Fld}{vals:List V}
def zau(ws:List V)(ps:List Ty):Prop:=ws.length=ps.length∧∀(i:Nat) w t,ws[i]?=some w→ps[i]?=some t→zI w t=true
theorem z6d{ws:List V}{ps:List Ty}(h:zau ws ps){i:Nat}(hi:i<ps.length){k:Int}(hk:(ps.getD i ty0).k=k):zI (ws.getD i V.nil) (ps.getD i ty0)=true:=by
 rw[List.getD_eq_getElem?_getD,List.getD_eq_getElem?_getD,gE hi,gE (by rw[h.1];exact hi)];exact h.2 i _ _ (gE (by rw[h.1];exact hi)) (gE hi)
theorem zcA{ps:List Ty}{ks:List Int}(h:z29 ps ks=true){i:Nat}(hi:i<ps.length):ks[i]?=some (ps.getD i ty0).k:=by
 grind [List.getElem?_eq_getElem,zgf]
theorem zlf(hf:z63 fs vals){e:V}(hn:z0p e=true){ps:List Ty}{ws:List V}(hl:ps.length=e.l.length)(hp:zau ws ps){t:Ty}(ht:z2m fs e ps=(t,true)):zI (z9J fs vals e ws) t=true:=by
  unfold z2m at ht
  unfold z9J
  rcases z23 hn with k|k|k|k|k|k
  · rw[if_neg (by omega),if_neg (by omega),if_neg (by omega),if_neg (by omega),if_neg (by omega)]at ht ⊢
    cases ht;exact z1z _
  · rw[if_pos k]at ht ⊢
    cases ht;exact z4i (zec (z5g hn k).2.1)
  · rw[if_neg (by omega),if_pos k]at ht ⊢
    split at ht
    · cases ht
    · rename_i hne
      obtain⟨f,v,h1,h2,h3,_⟩:=zf2 hf hne
      rw[z4T h1]at ht
      cases ht
      rw[z4T h2];exact h3
  · rw[if_neg (by omega),if_neg (by omega),if_pos k]at ht ⊢
    obtain⟨_,hb,a,b,hab⟩:=z3M hn k
    rw[hab]at hl
    have hl:ps.length=2:=hl
    unfold zbL at ht
    unfold opV
    split at ht
    · rename_i h1
      obtain⟨rfl,_⟩:=z1P ht
      rcases h1 with h1|h1|h1|h1|h1<;>simp only[h1]
      · exact z1z _
      · exact z1z _
      · exact z1z _
      · exact z1z _
      · exact z1z _
    · rename_i h1
      rw[not_or,not_or,not_or,not_or]at h1
      rw[if_neg h1.2.1,if_neg h1.1,if_neg h1.2.2.1,if_neg (by rw[not_or];exact h1.2.2.2)]
      split at ht
      · rename_i h2
        rw[if_pos h2]
        obtain⟨rfl,hg⟩:=z1P ht
        have k0:=zcA hg (i:=0) (by omega)
        have k1:=zcA hg (i:=1) (by omega)
        simp at k0 k1
        have f0:=z7o (z6d hp (i:=0) (by omega) rfl) k0.symm
        have f1:=z7o (z6d hp (i:=1) (by omega) rfl) k1.symm
        exact z4i (zpC f0.2.2.2 f1.2.2.2)
      · rename_i h2
        rw[if_neg h2]
        have:t=⟨1,0⟩:=by injection ht with h1 h2;exact h1.symm
        subst this
        split<;>exact z1z _
  · rw[if_neg (by omega),if_neg (by omega),if_neg (by omega),if_pos k]at ht ⊢
    obtain⟨rfl,_⟩:=z1P ht
    exact z1z _
  · rw[if_neg (by omega),if_neg (by omega),if_neg (by omega),if_neg (by omega),if_pos k]at ht ⊢
    obtain⟨_,hb,hlen⟩:=z4E hn k
    have hc:=z3b hb
    generalize e.s=s at hc ht hlen
    have tx:∀(i:Nat),i<ps.length→(ps.getD i ty0).k=2→zi (ws.getD i V.nil).s=true:=fun i hi hk=>(z7o (z6d hp hi rfl) hk).2.2.2
    have kd:∀{ks:List Int} (i:Nat),z29 ps ks=true→i<ps.length→∀q,ks[i]?=some q→(ps.getD i ty0).k=q:=fun i hg hi q hq=>by
      have:=zcA hg hi;rw[hq]at this;exact(Option.some.inj this).symm
    rcases hc with rfl|rfl|rfl|rfl|rfl|rfl|rfl|rfl|rfl|rfl
    · obtain⟨rfl,hg⟩:=z1P (show zK 1 [2] ps=(t,true) from ht);exact z1z _
    · obtain⟨rfl,hg⟩:=z1P (show zK 2 [1] ps=(t,true) from ht);exact z4i (zeW _)
    · obtain⟨rfl,hg⟩:=z1P (show zK 1 [2] ps=(t,true) from ht);exact z1z _
    · obtain⟨rfl,hg⟩:=z1P (show zK 2 [2,1] ps=(t,true) from ht)
      have h2 : ps.length = 2 := by have : zm z1E = 2 := by decide
                                    omega
      exact z4i (zmN (tx 0 (by omega) (kd 0 hg (by omega) 2 rfl)) _)
    · obtain⟨rfl,hg⟩:=z1P (show zK 2 [2,1] ps=(t,true) from ht)
      have h2 : ps.length = 2 := by have : zm z13 = 2 := by decide
                                    omega
      exact z4i (zeV (tx 0 (by omega) (kd 0 hg (by omega) 2 rfl)) _)
    · obtain⟨rfl,hg⟩:=z1P (show zK 2 [2,1] ps=(t,true) from ht)
      have h2 : ps.length = 2 := by have : zm z1D = 2 := by decide
                                    omega
      exact z4i (zeV (tx 0 (by omega) (kd 0 hg (by omega) 2 rfl)) _)
    · obtain⟨rfl,hg⟩:=z1P (show zK 1 [2,2] ps=(t,true) from ht);exact z1z _
    · obtain⟨rfl,hg⟩:=z1P (show zK 1 [1,1] ps=(t,true) from ht);exact z1z _
    · obtain⟨rfl,hg⟩:=z1P (show zK 1 [1,1] ps=(t,true) from ht);exact z1z _
    · have h3 : ps.length = 3 := by have : zm nIf = 3 := by decide
                                    omega
      have ht':z2c ps=(t,true):=ht
      unfold z2c at ht'
      split at ht'
      · rename_i h1
        obtain⟨h4,h5⟩:=zcW h1.2
        cases ht'
        show zI (if(ws.getD 0 V.nil).n≠0 then ws.getD 1 V.nil else ws.getD 2 V.nil) _=true
        split
        · exact z6d hp (by omega) rfl
        · rw[h4];exact z6d hp (by omega) rfl
      · cases ht'
theorem z5K(hf:z63 fs vals):∀(d:Nat) (e:V) (t:Ty),okE d e=true→zl fs d e=(t,true)→zI (z1g fs vals d e) t=true
 |0,e,t,h,_=>by simp[okE]at h
 |d+1,e,t,h,ht=>by
  obtain⟨hn,hk⟩:=z2G h;unfold zl at ht;cases hp:z0z (zl fs d) e.l with
  |none=>grind
  |some ps=>
   rw[hp]at ht;obtain⟨h1,h2⟩:=z7I hp;refine zlf hf hn h1 ⟨by rw[List.length_map,h1],fun i w u hw hu=> ?_⟩ ht;rw[List.getElem?_map]at hw;obtain⟨x,hx,rfl⟩:=gO hw;obtain⟨h3,h4⟩:=h2 i x hx;exact z5K hf d x _ (hk x (gM hx)) (by grind)
end
end
end Go.Mor
end

section
namespace Go.Proofs.YtbkgnekfigknhaaGreatDoor
open Go Go.RowKit Go.Mor Go.Sh
inductive VFew:V→Prop where
 |mk {k n:Int} {s:zB} {l:List V} (h:l.length≤1000) (hs:∀y∈l,VFew y):VFew (.mk k n s l)
theorem VFew.len{x:V}(h:VFew x):x.l.length≤1000:=by cases h;assumption
theorem VFew.sub{x y:V}(h:VFew x)(hy:y∈x.l):VFew y:=by cases h with|mk _ hs=>exact hs y hy
theorem zaD{x:V}(h:x.l=[]):VFew x:=by cases x with|mk k n s l=>simp only[Vl]at h;subst h;exact .mk (by simp) (by simp)
theorem VFew.small{x:V}(h:VFew x):VSmall x:=by
 induction h with
 |mk h _ ih=>exact .mk (by unfold maxLen;omega) ih
end Go.Proofs.YtbkgnekfigknhaaGreatDoor
end

section
namespace Go.Sh.Cd6
open Go Go.Sh
abbrev gQ(a:GA):Prop:=gT Go.Proofs.Tryz.prog a
theorem gK{a:GA}(h:gQ a:=by unfold gQ gT;kernel_rfl):gQ a:=h
theorem tf_120:gQ ⟨11,43,[(39,0),(40,0)],[],[[0,6],[],[],[10013],[15016],[14,17],[18019],[20029],[9,20,30041],[1003,7008,42]],[.tmp 6],false⟩:=gK
theorem tf_53:gQ ⟨13,41,[],[],[[0,4005],[8009],[1002,10],[4005,10015],[1002,16022],[2,4005,16,23],[],[27030],[7,31037],[1,6,24026,38039],[4006,38,40],[1,24026]],[.tmp 4,.tmp 5],false⟩:=gK
theorem tf_54:gQ ⟨18,14,[(10,1)],[],[[1000001,4005],[2003,7010],[11],[6,12],[6,12013]],[.tmp 4,.tmp 5],false⟩:=gK
theorem tf_118:gQ ⟨20,81,[(10,0),(11,0),(14,0),(37,0),(42,0),(52,0),(69,0),(77,0)],[],[[0],[10],[11017],[],[18025],[7,27028,73],[26,29033],[34045],[46048],[49055],[6,49,56064],[8,65071],[9,72],[7,73079],[1,3005,80]],[.cell true 2 2],false⟩:=gK
theorem tf_122:gQ ⟨21,25,[(16,1),(23,1)],[],[[1],[0,4,10013],[14016],[17018],[9,19],[2,7008,20023],[2,7008,20,24]],[.cell true 4 6],false⟩:=gK
theorem tf_66:gQ ⟨25,39,[(38,1)],[],[[1000001,7],[8,13018],[19],[2004,9,20022],[7,9010,20,23028],[29],[2004,11,30032],[2,4,7,11,30,33036],[3,12,37038]],[.cell true 4 6,.tmp 7],false⟩:=gK
theorem tf_119:gQ ⟨36,67,[(10,0),(16,0),(23,0),(34,0),(42,0),(48,0),(62,0),(63,0)],[],[[0],[10],[11],[14],[1003,7,12013,15018],[13,20],[1003,7,12,19,21026],[7,19,28],[12,29],[12,27,30035],[1003,36037],[1003,36,38044],[12,27,45],[],[46048],[50051],[49,52065],[1003,8009,66]],[.cell true 4 6],false⟩:=gK
theorem tf_56:gQ ⟨38,39,[],[],[[0,2],[7015],[1,16],[2,16017],[],[21024],[25026],[1,3004,18020,27],[2,4,6,27034],[3,5,35036],[1,18020,37],[2,37038],[1,18020]],[.tmp 2],false⟩:=gK
theorem tf_186:gQ ⟨43,19,[(16,1)],[],[[4],[6],[],[9010],[11015],[1000001,5,7008,16017],[4005,16,18],[1000001,7008]],[.tmp 4],false⟩:=gK
theorem tf_55:gQ ⟨44,8,[],[],[[0,3],[1002,4007]],[.tmp 3],false⟩:=gK
theorem tf_121:gQ ⟨46,13,[],[],[[4],[5],[6009],[1000001,6,10012]],[.tmp 4],false⟩:=gK
theorem tf_136:gQ ⟨47,23,[],[],[[0,4005],[],[7010],[4005,12013,21],[11,14020],[1002,6,21022],[1002,6]],[.tmp 4,.tmp 5],false⟩:=gK
theorem tf_31:gQ ⟨48,141,[(10,1),(23,1),(28,1),(37,1),(43,1),(48,1),(53,1),(56,1),(63,1),(67,1),(70,1),(81,1),(90,1),(95,1),(100,1),(106,1),(111,1),(116,1),(122,1),(127,1),(131,1),(135,1),(140,1)],[(34,[[(13,6),(3,1000),(8,1000),(12,1000),(6,999)]])],[[],[9010],[11],[12014],[12,15],[7,16017],[20],[1000002,18019,21023],[1,19,25],[0,2,18,24,26032],[24,34],[0,2,18,33,35037],[33,39],[0,2,18,38,40048],[18,38,50],[0,2,49,51053],[0,2,49,54056],[7,16,57],[60],[1000002,58059,61063],[1,59,65],[0,2,58,64,66075],[64,77],[0,2,58,76,78081],[8,82084],[76,86],[0,2,58,85,87095],[85,97],[0,2,58,96,98100],[96,102],[0,2,58,101,103111],[101,113],[0,2,58,112,114116],[58,112,118],[0,2,117,119131],[0,2,117,132140]],[.cell true 4 6],false⟩:=gK
theorem tf_29:gQ ⟨50,55,[(9,1)],[],[[],[8009],[],[10016],[7,18019,41],[17,20036],[37040],[1000001,5007,41044],[1000001,6,45],[5,46048],[5,46,49054]],[.cell true 4 4],false⟩:=gK
theorem tf_67:gQ ⟨58,29,[(22,1)],[],[[1000001,5],[9010],[2003,11012],[5,11,13014],[2003,15016],[3,5,15,17019],[2,6,20024],[8,25],[7,26027],[7,26,28]],[.cell true 2 4,.tmp 5],false⟩:=gK
theorem tf_19:gQ ⟨60,90,[(26,1),(86,1)],[],[[1],[10013],[14],[],[18021],[6007,22027],[28],[15017,29],[32],[0,3,5,30031,33035],[31,37],[3,5,9,30,36,38047],[0,8,48055],[36,57],[0,3,5,30,56,58066],[56,68],[0,3,5,30,67,69074],[30,67,76],[0,3,5,75,77086],[0,3,5,75,87089]],[.cell true 4 4],false⟩:=gK
theorem tf_59:gQ ⟨73,22,[],[],[[0,2],[3011],[1,12],[1,12021]],[.tmp 2],false⟩:=gK
theorem tf_30:gQ ⟨86,32,[],[],[[2],[3011],[0,12],[2,12019],[0,20031]],[.tmp 2],false⟩:=gK
theorem tf_28:gQ ⟨87,37,[(29,1),(33,0)],[],[[],[1,13014],[],[15017],[19020],[18],[21023],[24],[11,24029],[12,30035],[0,2003,9010,36]],[.cell true 4 8],false⟩:=gK
theorem tf_32:gQ ⟨88,26,[(15,1),(20,1)],[],[[],[11015],[0,2003,16020],[1,9010,21025]],[.cell true 4 8],false⟩:=gK
theorem tf_138:gQ ⟨96,62,[],[],[[0,2],[6014],[1,15],[2,15],[16019],[4005,21022],[20,23027],[28046],[1,3004,47],[2,47],[48049],[2,51052,61],[50,53060],[1,3005,61],[1,3]],[.tmp 2],false⟩:=gK
theorem tf_18:gQ ⟨100,100,[(28,1),(74,1),(82,1),(96,1)],[],[[1,5],[13016],[17],[],[21024],[8,25030],[10,31],[0,3,6007,9,18020,32033],[5,7,9,32,34037],[38],[18020,39],[42],[0,3,6,40041,43],[41,45],[3,6,40,44,46055],[12,56],[0,11,57058],[0,11,57,59067],[44,69],[0,3,6,40,68,70076],[68,78],[0,3,6,40,77,79084],[40,77,86],[0,3,6,85,87098],[0,3,6,85,99]],[.cell true 2 4,.tmp 5],false⟩:=gK
theorem tf_91:gQ ⟨101,6,[],[],[[1000001,4],[2003,5]],[.tmp 4],false⟩:=gK
theorem tf_70:gQ ⟨102,9,[],[],[[],[0,3008]],[.cell true 4 2],false⟩:=gK
theorem tf_84:gQ ⟨103,7,[],[],[[],[0,3006]],[.cell true 4 2],false⟩:=gK
theorem tf_90:gQ ⟨104,11,[],[],[[2],[],[0,4],[6],[7009],[3,5,10]],[.tmp 2],false⟩:=gK
theorem tf_72:gQ ⟨105,17,[],[],[[],[4007],[0,3,8016]],[.cell true 4 2],false⟩:=gK
theorem tf_93:gQ ⟨106,22,[],[],[[],[5],[],[7010],[4,11014],[0,3,6,15019],[0,6,20021]],[.cell true 4 2],false⟩:=gK
theorem tf_69:gQ ⟨107,20,[],[],[[4],[],[7],[],[9011],[12013],[1000001,5006,8,14015],[4,6,14,16017],[1000001,5,8,18019]],[.tmp 4],false⟩:=gK
theorem tf_73:gQ ⟨108,20,[],[],[[],[4007],[0,3,8019]],[.cell true 4 2],false⟩:=gK
theorem tf_74:gQ ⟨109,17,[],[],[[],[4007],[0,3,8016]],[.cell true 4 2],false⟩:=gK
theorem tf_75:gQ ⟨110,13,[],[],[[],[0,3012]],[.cell true 4 2],false⟩:=gK
theorem tf_81:gQ ⟨111,15,[],[],[[4],[1,6008],[9],[0,5,10],[0,5,10014]],[.tmp 4],false⟩:=gK
theorem tf_76:gQ ⟨112,9,[],[],[[],[0,3008]],[.cell true 4 2],false⟩:=gK
theorem tf_77:gQ ⟨113,9,[],[],[[],[0,3008]],[.cell true 4 2],false⟩:=gK
theorem tf_80:gQ ⟨115,19,[(12,1)],[],[[3],[4013],[0,14015],[0,14,16018]],[.cell true 2 2,.tmp 3],false⟩:=gK
theorem tf_78:gQ ⟨116,14,[],[],[[],[3006],[0,7010],[0,7,11013]],[.cell true 4 2],false⟩:=gK
theorem tf_79:gQ ⟨117,13,[],[],[[],[0,3012]],[.cell true 4 2],false⟩:=gK
theorem tf_71:gQ ⟨118,13,[],[],[[],[0,3012]],[.cell true 4 2],false⟩:=gK
theorem tf_82:gQ ⟨119,22,[(15,0),(16,0)],[],[[0],[],[6],[],[10012],[5,13017],[18],[3,7009,19020],[1,21]],[.cell true 4 2],false⟩:=gK
theorem tf_85:gQ ⟨120,55,[],[],[[1002],[],[9],[8,11],[10,13],[12,15],[16],[7,14,18],[0,17,19022],[4005,23028],[4005,29034],[0,4005,35041],[4005,42047],[0,4005,48051],[52053],[52,54]],[.cell true 4 6],false⟩:=gK
theorem tf_57:gQ ⟨128,27,[],[],[[0,2],[3004],[1,5013],[1,5,14026]],[.tmp 2],false⟩:=gK
theorem tf_139:gQ ⟨169,21,[],[],[[0,2],[1,3020]],[.tmp 2],false⟩:=gK
theorem tf_86:gQ ⟨174,16,[],[],[[2],[0],[5],[6],[7],[8],[9],[3004,10011],[3004,13],[12,14015],[12]],[.tmp 2],false⟩:=gK
theorem tf_92:gQ ⟨175,26,[],[],[[5],[0],[],[11014],[6007,15020],[1002,8010,21022],[5,21,23],[1002,8010,24025]],[.cell true 2 4,.tmp 5],false⟩:=gK
theorem tf_68:gQ ⟨179,24,[],[],[[2],[0,3023]],[.tmp 2],false⟩:=gK
theorem tf_88:gQ ⟨180,27,[],[],[[4],[5017],[1000001,18021],[1000001,4,18,22025],[26],[26]],[.tmp 4],false⟩:=gK
theorem tf_89:gQ ⟨181,17,[],[],[[6],[7],[1000002,8],[0,6,8009],[1002,10013],[1002,10,14016]],[.tmp 6],false⟩:=gK
theorem tf_83:gQ ⟨182,28,[],[],[[4],[0],[7],[6,9],[8,11],[10,13],[5,12,15],[14,16],[1,17],[1,17019],[4,20],[1,21],[1,21023],[1,24025],[1,26027]],[.tmp 4],false⟩:=gK
theorem tf_140:gQ ⟨205,9,[],[],[[2],[0,3008]],[.tmp 2],false⟩:=gK
theorem tf_87:gQ ⟨210,7,[(6,1)],[],[[3],[0,4006]],[.cell true 2 2,.tmp 3],false⟩:=gK
noncomputable def funcs:Nat→Option SFunc
 |_=>none
end Go.Sh.Cd6
end
