/- Merged texts: Pz1 Pe1 Pe2 Pe3 Vf Cd6 Zg1 Pe9. No statement of the program is proved here. -/
import Derived.Test.YthinnldeogflgaaGreatDoorQ17
import Derived.Lib.AtoiAll
import Derived.Lib.Small
import Derived.Lib.Index
set_option linter.unusedSimpArgs false
set_option linter.unusedVariables false
set_option maxRecDepth 100000
set_option maxHeartbeats 8000000
section
namespace Go.Proofs.YthinnldeogflgaaGreatDoor
open Go Go.Mor
structure Tri(p q r:Int):Prop where
 a: -1≤p∧p≤1
 b: -1≤q∧q≤1
 c: -1≤r∧r≤1
 d:p=0→r=q
 e:q=0→r=p
 f:p= -1→q= -1→r= -1
 g:p=1→q=1→r=1
theorem z6Z(a b:Int):z1y b a= -z1y a b:=by
 grind [z1y]
def z4j:zB→zB→Int
 |[],[]=>0
 |[],_::_=> -1
 |_::_,[]=>1
 |a::x,b::y=>z01 (z1y a.toNat b.toNat) (z4j x y)
theorem zct:∀(x y:zB),z28 x y=z4j x y
 |[],[]=>by simp[z28,z4j,Op.bytesLess]
 |[],b::y=>by simp[z28,z4j,Op.bytesLess]
 |a::x,[]=>by simp[z28,z4j,Op.bytesLess]
 |a::x,b::y=>by
  have ih:=zct x y;simp only[z4j,←ih];unfold z28 z1y z01;simp only[Op.bytesLess]
  grind [UInt8.lt_iff_toNat_lt,UInt8.toNat_inj]
theorem z3z{a b c d:Int}(h:b= -a)(h':d= -c):z01 b d= -z01 a c:=by
 grind [z01]
theorem zaK:∀(x y:zB),z4j y x= -z4j x y
 |[],[]=>by simp[z4j]
 |[],b::y=>by simp[z4j]
 |a::x,[]=>by simp[z4j]
 |a::x,b::y=>by simp only[z4j];exact z3z (z6Z _ _) (zaK x y)
theorem zgU(a b:zB):z28 b a= -z28 a b:=by grind [zct,zaK]
theorem zas:∀(x y:List V),(∀a∈x,∀b,cmpV b a= -cmpV a b)→z13 y x= -z13 x y
 |[],[],_=>by simp[z13]
 |[],b::y,_=>by simp[z13]
 |a::x,[],_=>by simp[z13]
 |a::x,b::y,h=>by simp only[z13];exact z3z (h a (by simp) b) (zas x y fun c hc=>h c (by simp[hc]))
theorem zeJ(n:Nat):∀x y:V,SizeOf.sizeOf x≤n→cmpV y x= -cmpV x y:=by
 induction n with
 |zero=>intro x y h;cases x;simp at h
 |succ n ih=>
  intro x y h;rw[z7q x y,z7q y x];refine z3z (z6Z _ _) (z3z (z6Z _ _) (z3z (zgU _ _) (zas _ _ fun a ha b=>ih a b ?_)));have:=List.sizeOf_lt_of_mem ha;cases x;simp[V.l]at h this ⊢;omega
theorem zg9(x y:V):cmpV y x= -cmpV x y:=zeJ _ x y (Nat.le_refl _)
theorem zga(x:V):cmpV x x=0:=by grind [zg9]
end Go.Proofs.YthinnldeogflgaaGreatDoor
end

section
namespace Go.Mor
open Go
def ty0:Ty:=⟨0,0⟩
def z0B(a b:Ty):Bool:=a.k==b.k&&a.o==b.o
def z1T(a b:Ty):Bool:=z0B a b&&(a.k==1||a.k==2)
def z2l:List Ty→List Int→Bool
 |[],_=>true
 |t::l,k::r=>t.k==k&&z2l l r
 |_::_,[]=>false
def zK(k:Int)(ks:List Int)(ps:List Ty):Ty×Bool:=if z2l ps ks then(⟨k,0⟩,true)else(ty0,false)
def zby(s:zB)(ps:List Ty):Ty×Bool:=
 if s=[43]∨s=[45]∨s=[42]∨s=[47]∨s=[37] then zK 1 [1,1] ps
 else if s=[38] then zK 2 [2,2] ps
 else(⟨1,0⟩,z1T (ps.getD 0 ty0) (ps.getD 1 ty0))
def z4L:zB:=[108,101,110]
def z2V:zB:=[108,101,102,116]
def z2e:zB:=[114,105,103,104,116]
def z2U:zB:=[102,114,111,109]
def z3t:zB:=[102,105,110,100]
def z3u:zB:=[116,101,120,116]
def z4M:zB:=[110,117,109]
def nIf:zB:=[105,102]
def z5x:zB:=[109,105,110]
def z6a:zB:=[109,97,120]
def z4y(ps:List Ty):Ty×Bool:=if(ps.getD 0 ty0).k=1∧z1T (ps.getD 1 ty0) (ps.getD 2 ty0)=true then(ps.getD 1 ty0,true)else(ty0,false)
def zmt(s:zB)(ps:List Ty):Ty×Bool:=
 if s=z4L then zK 1 [2] ps else if s=z2V then zK 2 [2,1] ps else if s=z2e then zK 2 [2,1] ps else if s=z2U then zK 2 [2,1] ps
 else if s=z3t then zK 1 [2,2] ps else if s=z3u then zK 2 [1] ps else if s=z4M then zK 1 [2] ps else if s=nIf then z4y ps
 else zK 1 [1,1] ps
def z1t(t:V→Ty×Bool):List V→Option (List Ty)
 |[]=>some []
 |x::l=>if(t x).2 then(z1t t l).map ((t x).1::·)else none
def z9l(fs:List Fld)(e:V)(ps:List Ty):Ty×Bool:=
 if e.k=2 then(⟨2,0⟩,true)
 else if e.k=3 then(if fieldAt fs e.s<0 then(ty0,false)else((fs.getD (fieldAt fs e.s).toNat ⟨[],ty0,false⟩).t,true))
 else if e.k=4 then zby e.s ps
 else if e.k=5 then zK 1 [1] ps
 else if e.k=6 then zmt e.s ps
 else(⟨1,0⟩,true)
def z0A(fs:List Fld):Nat→V→Ty×Bool
 |0,_=>(ty0,false)
 |d+1,e=>match z1t (z0A fs d) e.l with
  |none=>(ty0,false)
  |some ps=>z9l fs e ps
def zbX(n:Int):Int:=max (-1000000000000000) (min n 1000000000000000)
def z05(n:Int):V:=.mk 1 (zbX n) [] []
def z3h:Nat→zB→Nat→Nat
 |0,_,a=>a
 |f+1,l,a=>if l=[] then a else if 60<(a:Int)+Lib.runeLen ((Lib.decodeL l).1:Int)then a else z3h f (l.drop (Lib.decodeL l).2) (a+(Lib.decodeL l).2)
def z4h(s:zB):zB:=s.take (z3h s.length s 0)
def z1l(s:zB):V:=.mk 2 0 (z4h s) []
def z3R:Nat→zB→Nat
 |0,_=>0
 |f+1,l=>if l=[] then 0 else z3R f (l.drop (Lib.decodeL l).2)+1
def z0s(s:zB):Nat:=z3R s.length s
def z3e:Nat→zB→Nat→Nat→Int→Nat
 |0,_,a,_,_=>a
 |f+1,l,a,k,n=>if l=[] then a else if n≤(k:Int)then a else z3e f (l.drop (Lib.decodeL l).2) (a+(Lib.decodeL l).2) (k+1) n
def z1i(s:zB)(n:Int):Nat:=z3e s.length s 0 0 n
def z7v(t u:zB):Int:=if Lib.index t u<0 then -1 else(z0s (t.take (Lib.index t u).toNat):Int)
def z2W(t:zB):Int:=match Lib.atoiAll t with
 | .ok v=>if v< -1000000000000000∨1000000000000000<v∨Lib.itoa v≠t then 0 else v
 |_=>0
def z7K(a b:Int):Int:=if a=0∨max b (-b)≤(1000000000000000:Int).tdiv (max a (-a))then a*b else if(decide (a<0)==decide (b<0))=true then 1000000000000000 else -1000000000000000
def z4v(s:zB)(a b:Int):Int:=if b=0 then 0 else if s=[47] then a.tdiv b else a.tmod b
def z2L(s:zB)(c:Int):Bool:=
 if s=[60,61] then decide (c≤0)else if s=[61] then decide (c=0)else if s=[62,61] then decide (0≤c)else if s=[62] then decide (0<c)else if s=[60,62] then decide (c≠0)else decide (c<0)
def opV(s:zB)(a b:V):V:=
 if s=[45] then z05 (a.n+ -b.n)else if s=[43] then z05 (a.n+b.n)else if s=[42] then z05 (z7K a.n b.n)
 else if s=[47]∨s=[37] then z05 (z4v s a.n b.n)else if s=[38] then z1l (a.s++b.s)
 else if z2L s (Go.Proofs.YthinnldeogflgaaGreatDoor.cmpV a b)then z05 1 else z05 0
def zX(s:zB)(l:List V):V:=
 let x:=l.getD 0 V.nil
 let y:=l.getD 1 V.nil
 if s=z4L then z05 (z0s x.s)else if s=z2V then z1l (x.s.take (z1i x.s y.n))else if s=z2e then z1l (x.s.drop (z1i x.s (z0s x.s-y.n)))
 else if s=z2U then z1l (x.s.drop (z1i x.s y.n))else if s=z3t then z05 (z7v x.s y.s)else if s=z3u then z1l (Lib.itoa x.n)else if s=z4M then z05 (z2W x.s)
 else if s=nIf then(if x.n≠0 then y else l.getD 2 V.nil)else if s=z5x then z05 (min x.n y.n)else z05 (max x.n y.n)
def z7I(fs:List Fld)(vals:List V)(e:V)(ps:List V):V:=
 if e.k=2 then z1l e.s
 else if e.k=3 then vals.getD (fieldAt fs e.s).toNat V.nil
 else if e.k=4 then opV e.s (ps.getD 0 V.nil) (ps.getD 1 V.nil)
 else if e.k=5 then z05 (-(ps.getD 0 V.nil).n)
 else if e.k=6 then zX e.s ps
 else z05 e.n
def z1h(fs:List Fld)(vals:List V):Nat→V→V
 |0,_=>V.nil
 |d+1,e=>z7I fs vals e (e.l.map (z1h fs vals d))
def z40(c:Cls)(e:V):Ty×Int:=if z1Y e then(if zd c then(if(z0A c.fs 8 e).2 then((z0A c.fs 8 e).1,0)else(ty0,60))else(ty0,40))else(ty0,50)
def z3i(c:Cls)(vals:List V)(e:V):V×Int:=if(z40 c e).2≠0 then(V.nil,(z40 c e).2)else if(check c vals).2≠0 then(V.nil,(check c vals).2)else(z1h c.fs vals 8 e,0)
structure Sgn(g:zB):Prop where
 pos:1≤g.length
 le:g.length≤4
 dec:∀t,Lib.decodeL (g++t)=((Lib.decodeL g).1,g.length)
 rl:Lib.runeLen ((Lib.decodeL g).1:Int)=(g.length:Int)
 ok:¬((Lib.decodeL g).1=65533∧g.length=1)
 hd:(g.getD 0 0).toNat<128∨192≤(g.getD 0 0).toNat
 tl:∀c∈g.drop 1,128≤c.toNat∧c.toNat<192
 pl:z47 (Lib.decodeL g).1=true
theorem zmQ{b c:UInt8}(h0:¬b.toNat<128)(h1:b.toNat / 32=6)(h2:c.toNat / 64=2)(hr:b.toNat%32*64+c.toNat%64≥128)(t:zB):Lib.decodeL (b::c::t)=(b.toNat%32*64+c.toNat%64,2):=by
 rw[Lib.decodeL_N]
 grind [Lib.decodeN]
theorem zmR{b c d:UInt8}(h0:¬b.toNat<128)(h1:b.toNat / 16=14)(h2:c.toNat / 64=2)(h3:d.toNat / 64=2)
  (hr:b.toNat%16*4096+c.toNat%64*64+d.toNat%64≥2048∧(b.toNat%16*4096+c.toNat%64*64+d.toNat%64<55296∨(57344≤b.toNat%16*4096+c.toNat%64*64+d.toNat%64∧b.toNat%16*4096+c.toNat%64*64+d.toNat%64≤1114111))) (t:zB):
  Lib.decodeL (b::c::d::t)=(b.toNat%16*4096+c.toNat%64*64+d.toNat%64,3):=by
 rw[Lib.decodeL_N]
 grind [Lib.decodeN]
theorem zmS{b c d e:UInt8}(h0:¬b.toNat<128)(h1:b.toNat / 8=30)(h2:c.toNat / 64=2)(h3:d.toNat / 64=2)(h4:e.toNat / 64=2)
  (hr:b.toNat%8*262144+c.toNat%64*4096+d.toNat%64*64+e.toNat%64≥65536∧(b.toNat%8*262144+c.toNat%64*4096+d.toNat%64*64+e.toNat%64<55296∨(57344≤b.toNat%8*262144+c.toNat%64*4096+d.toNat%64*64+e.toNat%64∧b.toNat%8*262144+c.toNat%64*4096+d.toNat%64*64+e.toNat%64≤1114111))) (t:zB):
  Lib.decodeL (b::c::d::e::t)=(b.toNat%8*262144+c.toNat%64*4096+d.toNat%64*64+e.toNat%64,4):=by
 rw[Lib.decodeL_N]
 grind [Lib.decodeN]
theorem zbC{n:Nat}{k:Int}(h:(n<128∧k=1)∨(128≤n∧n<2048∧k=2)∨(2048≤n∧(n<55296∨57344≤n)∧n<65536∧k=3)∨(65536≤n∧n≤1114111∧k=4)):Lib.runeLen (n:Int)=k:=by
 grind [Lib.runeLen]
theorem zlM{r:zB}(h:1≤r.length):∃c t,r=c::t:=by
 match r,h with
 |c::t,_=>simp
theorem zm4{r:zB}(h:2≤r.length):∃c d t,r=c::d::t:=by
 match r,h with
 |c::d::t,_=>simp
theorem zja{r:zB}(h:3≤r.length):∃c d e t,r=c::d::e::t:=by
 match r,h with
 |c::d::e::t,_=>simp
theorem zhe{l:zB}(hne:l≠[])(hv:¬((Lib.decodeL l).1=65533∧(Lib.decodeL l).2=1))(hp:z47 (Lib.decodeL l).1=true):Sgn (l.take (Lib.decodeL l).2):=by
 obtain⟨b,r,rfl⟩:=List.exists_cons_of_ne_nil hne;have hN:=Lib.decodeL_N (b::r);unfold Lib.decodeN at hN;by_cases h0:b.toNat<128
 ·have hd:=fun t=>Lib.decodeL_ascii b t h0;rw[hd]at hp hv ⊢;rw[List.take_succ_cons,List.take_zero];exact⟨by simp,by simp,fun t=>by rw[List.singleton_append,hd,hd];rfl,by rw[hd];exact zbC (.inl ⟨h0,rfl⟩),by rw[hd];simp;omega,.inl h0,by simp,by rw[hd];exact hp⟩
 ·simp only[List.getD_cons_zero,if_neg h0,List.getD_cons_succ,List.length_cons]at hN;split at hN
  ·rename_i h1;split at hN
   ·rename_i h2;obtain⟨c,t,rfl⟩:=zlM (r:=r) (by omega)
    ·simp only[List.getD_cons_zero]at h1 h2;have hd:=fun t=>zmQ h0 h1.1 h1.2.2 h2 t;rw[hd]at hp hv ⊢;simp;refine⟨by simp,by simp,fun t=> ?_,by rw[hd];exact zbC (.inr (.inl ⟨h2,by omega,rfl⟩)),by simp,.inr (by grind),?_,by rw[hd];exact hp⟩
     ·grind
     ·grind
   ·grind
  split at hN
  ·rename_i h1;split at hN
   ·rename_i h2;obtain⟨c,d,t,rfl⟩:=zm4 (r:=r) (by omega)
    ·simp only[List.getD_cons_zero,List.getD_cons_succ]at h1 h2;have hd:=fun t=>zmR h0 h1.1 h1.2.1.2 h1.2.2.2 h2 t;rw[hd]at hp hv ⊢;simp;refine⟨by simp,by simp,fun t=> ?_,by rw[hd];exact zbC (.inr (.inr (.inl ⟨h2.1,by omega,by omega,rfl⟩))),by simp,.inr (by grind),?_,by rw[hd];exact hp⟩
     ·grind
     ·grind
   ·grind
  split at hN
  ·rename_i h1;split at hN
   ·rename_i h2;obtain⟨c,d,e,t,rfl⟩:=zja (r:=r) (by omega)
    ·simp only[List.getD_cons_zero,List.getD_cons_succ]at h1 h2;have hd:=fun t=>zmS h0 h1.1 h1.2.1.2 h1.2.2.1.2 h1.2.2.2.2 h2 t;rw[hd]at hp hv ⊢;simp;refine⟨by simp,by simp,fun t=> ?_,by rw[hd];exact zbC (.inr (.inr (.inr ⟨h2.1,by omega,rfl⟩))),by simp,.inr (by grind),?_,by rw[hd];exact hp⟩
     ·grind
     ·grind
   ·grind
  ·grind
theorem Sgn.ne{g:zB}(h:Sgn g):g≠[]:=by intro e;have:=h.pos;rw[e]at this;simp at this
def Txt(gs:List (zB)):Prop:=∀g∈gs,Sgn g
theorem Txt.tail{g:zB}{gs:List (zB)}(h:Txt (g::gs)):Txt gs:=fun x hx=>h x (List.mem_cons_of_mem _ hx)
theorem Txt.head{g:zB}{gs:List (zB)}(h:Txt (g::gs)):Sgn g:=h g (List.mem_cons_self ..)
theorem Txt.take{gs:List (zB)}(h:Txt gs)(n:Nat):Txt (gs.take n):=fun x hx=>h x (List.mem_of_mem_take hx)
theorem Txt.drop{gs:List (zB)}(h:Txt gs)(n:Nat):Txt (gs.drop n):=fun x hx=>h x (List.mem_of_mem_drop hx)
theorem Txt.app{gs hs:List (zB)}(h:Txt gs)(h':Txt hs):Txt (gs++hs):=fun x hx=>(List.mem_append.1 hx).elim (h x) (h' x)
theorem zhs:∀(n:Nat) (s:zB),s.length≤n→Lib.validD s=true→z2P s=true→∃gs,Txt gs∧gs.flatten=s
 |0,s,h,_,_=>by
  obtain rfl:=List.eq_nil_of_length_eq_zero (Nat.le_zero.1 h);exact⟨[],by intro g hg;simp at hg,rfl⟩
 |n+1,s,h,hv,hp=>by
  by_cases hne:s=[]
  ·subst hne;exact⟨[],by intro g hg;simp at hg,rfl⟩
  rw[Lib.validD_step s hne]at hv;rw[z5y s hne,Bool.and_eq_true]at hp;split at hv
  ·cases hv
  ·rename_i hok;have hw:=Lib.decodeL_width s;obtain⟨gs,h1,h2⟩:=zhs n (s.drop (Lib.decodeL s).2) (by grind) hv hp.2;refine⟨s.take (Lib.decodeL s).2::gs,fun g hg=> ?_,by rw[List.flatten_cons,h2,List.take_append_drop]⟩;rcases List.mem_cons.1 hg with rfl|hg
   ·grind [zhe]
   ·exact h1 g hg
theorem zaj{g:zB}{gs:List (zB)}(h:Txt (g::gs)):Lib.decodeL (g::gs).flatten=((Lib.decodeL g).1,g.length):=by rw[List.flatten_cons];exact h.head.dec _
theorem z7w{g:zB}{gs:List (zB)}(h:Txt (g::gs)):(g::gs).flatten≠[]:=by
 rw[List.flatten_cons];intro e;exact h.head.ne (List.append_eq_nil_iff.1 e).1
theorem zaF{g:zB}{gs:List (zB)}:((g::gs).flatten).drop g.length=gs.flatten:=by simp
theorem zb1:∀(gs:List (zB)),Txt gs→Lib.validD gs.flatten=true∧z2P gs.flatten=true
 |[],_=>⟨rfl,rfl⟩
 |g::gs,h=>by
  obtain⟨h1,h2⟩:=zb1 gs h.tail;rw[Lib.validD_step _ (z7w h),z5y _ (z7w h),zaj h];simp only[zaF];rw[if_neg h.head.ok,h1,h2,h.head.pl];simp
theorem zht{gs:List (zB)}(h:Txt gs)(hl:gs.flatten.length≤60):zi gs.flatten=true:=by
 grind [zb1,zi]
theorem z4a{s:zB}(h:zi s=true):∃gs,Txt gs∧gs.flatten=s∧s.length≤60:=by
 unfold zi at h;rw[Bool.and_eq_true,Bool.and_eq_true,decide_eq_true_eq]at h;obtain⟨gs,h1,h2⟩:=zhs s.length s (Nat.le_refl _) h.2.1 h.2.2
 grind
theorem z1J:∀(gs:List (zB)),Txt gs→gs.length≤gs.flatten.length
 |[],_=>by simp
 |g::gs,h=>by
  have:=z1J gs h.tail;have:=h.head.pos
  grind
theorem zao:∀(gs:List (zB)) (f a k:Nat) (n:Int),Txt gs→gs.flatten.length≤f→z3e f gs.flatten a k n=a+(gs.take (n-k).toNat).flatten.length
 |[],f,a,k,n,_,_=>by cases f<;>simp[z3e]
 |g::gs,f,a,k,n,h,hf=>by
  have hp:=h.head.pos;rw[List.flatten_cons,List.length_append]at hf;obtain⟨j,rfl⟩:∃j,f=j+1:=⟨f-1,by omega⟩
  rw[z3e,if_neg (z7w h),zaj h];simp only[zaF];by_cases hk:n≤(k:Int)
  ·simp_all
  ·rw[if_neg hk,zao gs j _ (k+1) n h.tail (by omega),show(n-(k:Int)).toNat=(n-((k+1:Nat):Int)).toNat+1 by omega,List.take_succ_cons,List.flatten_cons,List.length_append];omega
theorem zdx{gs:List (zB)}(h:Txt gs)(n:Int):z1i gs.flatten n=(gs.take n.toNat).flatten.length:=by
 unfold z1i;rw[zao gs _ 0 0 n h (Nat.le_refl _)];simp
theorem z4q(gs:List (zB))(n:Nat):gs.flatten=(gs.take n).flatten++(gs.drop n).flatten:=by
 rw[←List.flatten_append,List.take_append_drop]
theorem zj9{gs:List (zB)}(h:Txt gs)(n:Int):gs.flatten.take (z1i gs.flatten n)=(gs.take n.toNat).flatten:=by
 grind [zdx,z4q,List.take_left]
theorem zif{gs:List (zB)}(h:Txt gs)(n:Int):gs.flatten.drop (z1i gs.flatten n)=(gs.drop n.toNat).flatten:=by
 grind [zdx,z4q,List.drop_left]
theorem zav:∀(gs:List (zB)) (f a:Nat),Txt gs→gs.flatten.length≤f→a≤60→∃k,k≤gs.length∧z3h f gs.flatten a=a+(gs.take k).flatten.length∧a+(gs.take k).flatten.length≤60∧(k=gs.length∨60<a+(gs.take (k+1)).flatten.length)
 |[],f,a,_,_,ha=>⟨0,by simp,by cases f<;>simp[z3h],by simpa using ha,.inl rfl⟩
 |g::gs,f,a,h,hf,ha=>by
  have hp:=h.head.pos;rw[List.flatten_cons,List.length_append]at hf;obtain⟨j,rfl⟩:∃j,f=j+1:=⟨f-1,by omega⟩
  rw[z3h,if_neg (z7w h),zaj h];rw[h.head.rl];by_cases hk:(60:Int)<(a:Int)+(g.length:Int)
  ·rw[if_pos hk];refine⟨0,by simp,by simp,by simpa using ha,.inr ?_⟩
   grind
  ·rw[if_neg hk];obtain⟨k,h1,h2,h3,h4⟩:=zav gs j (a+g.length) h.tail (by omega) (by omega);refine⟨k+1,by simpa using h1,?_,?_,?_⟩
   ·grind
   ·grind
   ·grind
theorem zdO{gs:List (zB)}(h:Txt gs):∃k,k≤gs.length∧z4h gs.flatten=(gs.take k).flatten∧(gs.take k).flatten.length≤60∧(k=gs.length∨60<(gs.take (k+1)).flatten.length):=by
 obtain⟨k,h1,h2,h3,h4⟩:=zav gs _ 0 h (Nat.le_refl _) (by omega)
 grind [z4h,z4q,List.take_left]
theorem zcU(gs:List (zB))(k:Nat):(gs.take k).flatten.length≤gs.flatten.length:=by
 grind [List.length,z4q,List.length_append]
theorem zlh{gs:List (zB)}(h:Txt gs)(hl:gs.flatten.length≤60):z4h gs.flatten=gs.flatten:=by
 grind [zdO,List.take_length,zcU]
theorem z57{gs:List (zB)}(h:Txt gs):zi (z4h gs.flatten)=true:=by
 obtain⟨k,h1,h2,h3,_⟩:=zdO h;rw[h2];exact zht (h.take k) h3
theorem zc0{s:zB}(h:zi s=true):z4h s=s:=by
 grind [z4a,zlh]
theorem zhd{b:UInt8}(h0:32≤b.toNat)(h1:b.toNat<127):Sgn [b]:=by
 grind [Lib.decodeL_ascii,z47,zhe]
theorem zhr{s:zB}(h:∀b∈s,32≤b.toNat∧b.toNat<127):Txt (s.map fun b=>[b])∧(s.map fun b=>[b]).flatten=s:=by
 refine⟨fun g hg=> ?_,?_⟩
 ·grind [zhd]
 ·induction s<;>simp_all
section
theorem zi8(n:Int): -1000000000000000≤zbX n∧zbX n≤1000000000000000:=by grind [zbX]
theorem z0P(n:Int):zA (z05 n) ⟨1,0⟩=true:=by
 have:=zi8 n;unfold z05;simp[zA,z0O,z1G,bare,zM,z1f,V.k,V.n,V.s,V.l,this.1,this.2]
theorem z35{s:zB}(h:zi s=true):zA (.mk 2 0 s []) ⟨2,0⟩=true:=by
 simp[zA,z0O,z1G,zM,z1f,V.k,V.n,V.s,V.l,h]
theorem z98{v:V}{t:Ty}(h:zA v t=true):z0O v=true:=by
 unfold zA at h;simp at h;exact h.1.1.1
theorem zaE{v:V}{t:Ty}(h:zA v t=true)(hk:t.k≠3)(hk4:t.k≠4):v.k=t.k:=by
 grind [zA,z1f]
theorem z5P{v:V}{t:Ty}(h:zA v t=true)(hk:t.k=2):v.k=2∧v.n=0∧v.l=[]∧zi v.s=true:=by
 have h1:=zaE h (by omega) (by omega);have h2:=z98 h
 grind [z0O,z1G]
theorem zcq{v:V}{t:Ty}(h:zA v t=true)(hk:t.k=1):v.k=1∧ -1000000000000000≤v.n∧v.n≤1000000000000000∧v.s=[]∧v.l=[]:=by
 have h1:=zaE h (by omega) (by omega);have h2:=z98 h
 grind [z0O,z1G,bare]
theorem zbl{s:zB}(h:zi s=true):zi (z4h s)=true:=by grind [zc0]
theorem zk9{s t:zB}(hs:zi s=true)(ht:zi t=true):zi (z4h (s++t))=true:=by
 obtain⟨gs,h1,rfl,_⟩:=z4a hs;obtain⟨hs',h2,rfl,_⟩:=z4a ht;rw[←List.flatten_append];exact z57 (h1.app h2)
theorem zi9{s:zB}(hs:zi s=true)(n:Int):zi (z4h (s.take (z1i s n)))=true:=by
 obtain⟨gs,h1,rfl,_⟩:=z4a hs;rw[zj9 h1];exact z57 (h1.take _)
theorem zbY{s:zB}(hs:zi s=true)(n:Int):zi (z4h (s.drop (z1i s n)))=true:=by
 obtain⟨gs,h1,rfl,_⟩:=z4a hs;rw[zif h1];exact z57 (h1.drop _)
theorem zf5(n:Int):∀b∈Lib.itoa n,32≤b.toNat∧b.toNat<127:=by
 have hd:∀m:Nat,∀b∈Lib.decDigits m,32≤b.toNat∧b.toNat<127:=by
  intro m
  induction m using Nat.strongRecOn with
  |_ m ih=>
   intro b hb;by_cases hm:m<10
   ·rw[Lib.decDigits_one hm]at hb
    grind [zli]
   ·rw[Lib.decDigits,dif_neg hm,List.mem_append]at hb;rcases hb with hb|hb
    ·grind
    ·simp only[List.mem_cons,List.not_mem_nil,or_false]at hb
     grind [zli]
 intro b hb;unfold Lib.itoa at hb;split at hb
 ·rcases List.mem_cons.1 hb with rfl|hb<;>grind
 ·grind
theorem zbZ(n:Int):zi (z4h (Lib.itoa n))=true:=by
 obtain⟨h1,h2⟩:=zhr (zf5 n)
 grind [z57]
theorem z1d{k:Int}{ks:List Int}{ps:List Ty}{t:Ty}(h:zK k ks ps=(t,true)):t=⟨k,0⟩∧z2l ps ks=true:=by
 grind [zK]
theorem zcT:∀{ps:List Ty} {ks:List Int} {i:Nat} {t:Ty},z2l ps ks=true→ps[i]?=some t→ks[i]?=some t.k
 |t::l,k::r,0,t',h,e=>by
  cases e;rw[z2l,Bool.and_eq_true,beq_iff_eq]at h;simp[h.1]
 |t::l,k::r,i+1,t',h,e=>by
  rw[z2l,Bool.and_eq_true]at h;have:=zcT (ps:=l) (ks:=r) (i:=i) (t:=t') h.2 (by grind)
  grind
 |t::l,[],_,_,h,_=>by simp[z2l]at h
 |[],_,_,_,_,e=>by simp at e
theorem z65{t:V→Ty×Bool}:∀{l:List V} {ps:List Ty},z1t t l=some ps→ps.length=l.length∧∀(i:Nat) x,l[i]?=some x→(t x).2=true∧ps[i]?=some (t x).1
 |[],ps,h=>by cases h;exact⟨rfl,fun i x e=>by simp at e⟩
 |x::l,ps,h=>by
  unfold z1t at h;split at h
  ·rename_i h1;obtain⟨qs,h2,rfl⟩:=gO h;obtain⟨h3,h4⟩:=z65 h2
   grind
  ·cases h
def z5E(fs:List Fld)(vals:List V):Prop:=(∀f∈fs,zM f.t=true)∧vals.length=fs.length∧∀(i:Nat) f v,fs[i]?=some f→vals[i]?=some v→zA v f.t=true
theorem z7z{α:Type}{l:List α}{i:Nat}{x d:α}(h:l[i]?=some x):l.getD i d=x:=by grind
theorem zc4{fs:List Fld}{vals:List V}(hf:z5E fs vals){s:zB}(h:¬fieldAt fs s<0):∃f v,fs[(fieldAt fs s).toNat]?=some f∧vals[(fieldAt fs s).toNat]?=some v∧zA v f.t=true∧f.n=s:=by
 obtain⟨k,hk⟩:∃k:Nat,fieldAt fs s=k:=⟨(fieldAt fs s).toNat,by omega⟩
 obtain⟨f,h1,h2⟩:=z3j _ _ k hk;rw[hk,Int.toNat_natCast];have hlt:k<vals.length:=by rw[hf.2.1];exact(gJ h1).1
 exact⟨f,vals[k],h1,gE hlt,hf.2.2 k f _ h1 (gE hlt),by simpa using h2⟩
theorem z3Z{s:zB}(h:0<zx s):s=z4L∨s=z3u∨s=z4M∨s=z2V∨s=z2e∨s=z2U∨s=z3t∨s=z5x∨s=z6a∨s=nIf:=by
 unfold zx at h;split at h
 ·grind [z4L,z3u,z4M]
 grind [z2V,z2e,z2U,z3t,z5x,z6a,nIf]
theorem zal{a b:Ty}(h:z1T a b=true):a=b∧(a.k=1∨a.k=2):=by
 unfold z1T z0B at h;obtain⟨ak,ao⟩:=a;obtain⟨bk,bo⟩:=b
 grind
section
variable{fs:List Fld}{vals:List V}
def z8k(ws:List V)(ps:List Ty):Prop:=ws.length=ps.length∧∀(i:Nat) w t,ws[i]?=some w→ps[i]?=some t→zA w t=true
theorem z4Q{ws:List V}{ps:List Ty}(h:z8k ws ps){i:Nat}(hi:i<ps.length){k:Int}(hk:(ps.getD i ty0).k=k):zA (ws.getD i V.nil) (ps.getD i ty0)=true:=by
 rw[List.getD_eq_getElem?_getD,List.getD_eq_getElem?_getD,gE hi,gE (by rw[h.1];exact hi)];exact h.2 i _ _ (gE (by rw[h.1];exact hi)) (gE hi)
theorem za7{ps:List Ty}{ks:List Int}(h:z2l ps ks=true){i:Nat}(hi:i<ps.length):ks[i]?=some (ps.getD i ty0).k:=by
 grind [List.getElem?_eq_getElem,zcT]
theorem zgR(hf:z5E fs vals){e:V}(hn:z0z e=true){ps:List Ty}{ws:List V}(hl:ps.length=e.l.length)(hp:z8k ws ps){t:Ty}(ht:z9l fs e ps=(t,true)):zA (z7I fs vals e ws) t=true:=by
  unfold z9l at ht
  unfold z7I
  rcases z44 hn with k|k|k|k|k|k
  · rw[if_neg (by omega),if_neg (by omega),if_neg (by omega),if_neg (by omega),if_neg (by omega)]at ht ⊢
    cases ht;exact z0P _
  · rw[if_pos k]at ht ⊢
    cases ht;exact z35 (zbl (zbw hn k).2.1)
  · rw[if_neg (by omega),if_pos k]at ht ⊢
    split at ht
    · cases ht
    · rename_i hne
      obtain⟨f,v,h1,h2,h3,_⟩:=zc4 hf hne
      rw[z7z h1]at ht
      cases ht
      rw[z7z h2];exact h3
  · rw[if_neg (by omega),if_neg (by omega),if_pos k]at ht ⊢
    obtain⟨_,hb,a,b,hab⟩:=z9j hn k
    rw[hab]at hl
    have hl:ps.length=2:=hl
    unfold zby at ht
    unfold opV
    split at ht
    · rename_i h1
      obtain⟨rfl,_⟩:=z1d ht
      rcases h1 with h1|h1|h1|h1|h1<;>simp only[h1]
      · exact z0P _
      · exact z0P _
      · exact z0P _
      · exact z0P _
      · exact z0P _
    · rename_i h1
      rw[not_or,not_or,not_or,not_or]at h1
      rw[if_neg h1.2.1,if_neg h1.1,if_neg h1.2.2.1,if_neg (by rw[not_or];exact h1.2.2.2)]
      split at ht
      · rename_i h2
        rw[if_pos h2]
        obtain⟨rfl,hg⟩:=z1d ht
        have k0:=za7 hg (i:=0) (by omega)
        have k1:=za7 hg (i:=1) (by omega)
        simp at k0 k1
        have f0:=z5P (z4Q hp (i:=0) (by omega) rfl) k0.symm
        have f1:=z5P (z4Q hp (i:=1) (by omega) rfl) k1.symm
        exact z35 (zk9 f0.2.2.2 f1.2.2.2)
      · rename_i h2
        rw[if_neg h2]
        have:t=⟨1,0⟩:=by injection ht with h1 h2;exact h1.symm
        subst this
        split<;>exact z0P _
  · rw[if_neg (by omega),if_neg (by omega),if_neg (by omega),if_pos k]at ht ⊢
    obtain⟨rfl,_⟩:=z1d ht
    exact z0P _
  · rw[if_neg (by omega),if_neg (by omega),if_neg (by omega),if_neg (by omega),if_pos k]at ht ⊢
    obtain⟨_,hb,hlen⟩:=z9k hn k
    have hc:=z3Z hb
    generalize e.s=s at hc ht hlen
    have tx:∀(i:Nat),i<ps.length→(ps.getD i ty0).k=2→zi (ws.getD i V.nil).s=true:=fun i hi hk=>(z5P (z4Q hp hi rfl) hk).2.2.2
    have kd:∀{ks:List Int} (i:Nat),z2l ps ks=true→i<ps.length→∀q,ks[i]?=some q→(ps.getD i ty0).k=q:=fun i hg hi q hq=>by
      have:=za7 hg hi;rw[hq]at this;exact(Option.some.inj this).symm
    rcases hc with rfl|rfl|rfl|rfl|rfl|rfl|rfl|rfl|rfl|rfl
    · obtain⟨rfl,hg⟩:=z1d (show zK 1 [2] ps=(t,true) from ht);exact z0P _
    · obtain⟨rfl,hg⟩:=z1d (show zK 2 [1] ps=(t,true) from ht);exact z35 (zbZ _)
    · obtain⟨rfl,hg⟩:=z1d (show zK 1 [2] ps=(t,true) from ht);exact z0P _
    · obtain⟨rfl,hg⟩:=z1d (show zK 2 [2,1] ps=(t,true) from ht)
      have h2 : ps.length = 2 := by have : zx z2V = 2 := by decide
                                    omega
      exact z35 (zi9 (tx 0 (by omega) (kd 0 hg (by omega) 2 rfl)) _)
    · obtain⟨rfl,hg⟩:=z1d (show zK 2 [2,1] ps=(t,true) from ht)
      have h2 : ps.length = 2 := by have : zx z2e = 2 := by decide
                                    omega
      exact z35 (zbY (tx 0 (by omega) (kd 0 hg (by omega) 2 rfl)) _)
    · obtain⟨rfl,hg⟩:=z1d (show zK 2 [2,1] ps=(t,true) from ht)
      have h2 : ps.length = 2 := by have : zx z2U = 2 := by decide
                                    omega
      exact z35 (zbY (tx 0 (by omega) (kd 0 hg (by omega) 2 rfl)) _)
    · obtain⟨rfl,hg⟩:=z1d (show zK 1 [2,2] ps=(t,true) from ht);exact z0P _
    · obtain⟨rfl,hg⟩:=z1d (show zK 1 [1,1] ps=(t,true) from ht);exact z0P _
    · obtain⟨rfl,hg⟩:=z1d (show zK 1 [1,1] ps=(t,true) from ht);exact z0P _
    · have h3 : ps.length = 3 := by have : zx nIf = 3 := by decide
                                    omega
      have ht':z4y ps=(t,true):=ht
      unfold z4y at ht'
      split at ht'
      · rename_i h1
        obtain⟨h4,h5⟩:=zal h1.2
        cases ht'
        show zA (if(ws.getD 0 V.nil).n≠0 then ws.getD 1 V.nil else ws.getD 2 V.nil) _=true
        split
        · exact z4Q hp (by omega) rfl
        · rw[h4];exact z4Q hp (by omega) rfl
      · cases ht'
theorem z60(hf:z5E fs vals):∀(d:Nat) (e:V) (t:Ty),okE d e=true→z0A fs d e=(t,true)→zA (z1h fs vals d e) t=true
 |0,e,t,h,_=>by simp[okE]at h
 |d+1,e,t,h,ht=>by
  obtain⟨hn,hk⟩:=zab h;unfold z0A at ht;cases hp:z1t (z0A fs d) e.l with
  |none=>grind
  |some ps=>
   rw[hp]at ht;obtain⟨h1,h2⟩:=z65 hp;refine zgR hf hn h1 ⟨by rw[List.length_map,h1],fun i w u hw hu=> ?_⟩ ht;rw[List.getElem?_map]at hw;obtain⟨x,hx,rfl⟩:=gO hw;obtain⟨h3,h4⟩:=h2 i x hx;exact z60 hf d x _ (hk x (gM hx)) (by grind)
end
end
end Go.Mor
end

section
namespace Go.Proofs.YthinnldeogflgaaGreatDoor
open Go Go.RowKit Go.Mor Go.Sh
inductive VFew:V→Prop where
 |mk {k n:Int} {s:zB} {l:List V} (h:l.length≤1000) (hs:∀y∈l,VFew y):VFew (.mk k n s l)
theorem VFew.len{x:V}(h:VFew x):x.l.length≤1000:=by cases h;assumption
theorem VFew.sub{x y:V}(h:VFew x)(hy:y∈x.l):VFew y:=by cases h with|mk _ hs=>exact hs y hy
theorem zc3{x:V}(h:x.l=[]):VFew x:=by cases x with|mk k n s l=>simp only[Vl]at h;subst h;exact .mk (by simp) (by simp)
theorem VFew.small{x:V}(h:VFew x):VSmall x:=by
 induction h with
 |mk h _ ih=>exact .mk (by unfold maxLen;omega) ih
end Go.Proofs.YthinnldeogflgaaGreatDoor
end

section
namespace Go.Sh.Cd6
open Go Go.Sh
abbrev gQ(a:GA):Prop:=gT Go.Proofs.Tryz.prog a
theorem gK{a:GA}(h:gQ a:=by unfold gQ gT;kernel_rfl):gQ a:=h
theorem tf_43:gQ ⟨38,39,[],[],[[0,2],[7015],[1,16],[2,16017],[],[21024],[25026],[1,3004,18020,27],[2,4,6,27034],[3,5,35036],[1,18020,37],[2,37038],[1,18020]],[.tmp 2],false⟩:=gK
theorem tf_46:gQ ⟨67,22,[],[],[[0,2],[3011],[1,12],[1,12021]],[.tmp 2],false⟩:=gK
theorem tf_41:gQ ⟨68,14,[(10,1)],[],[[1000001,4005],[2003,7010],[11],[6,12],[6,12013]],[.tmp 4,.tmp 5],false⟩:=gK
theorem tf_44:gQ ⟨77,27,[],[],[[0,2],[3004],[1,5013],[1,5,14026]],[.tmp 2],false⟩:=gK
theorem tf_40:gQ ⟨81,41,[],[],[[0,4005],[8009],[1002,10],[4005,10015],[1002,16022],[2,4005,16,23],[],[27030],[7,31037],[1,6,24026,38039],[4006,38,40],[1,24026]],[.tmp 4,.tmp 5],false⟩:=gK
theorem tf_134:gQ ⟨96,19,[(16,1)],[],[[4],[6],[],[9010],[11015],[1000001,5,7008,16017],[4005,16,18],[1000001,7008]],[.tmp 4],false⟩:=gK
theorem tf_42:gQ ⟨97,8,[],[],[[0,3],[1002,4007]],[.tmp 3],false⟩:=gK
theorem tf_54:gQ ⟨115,29,[(22,1)],[],[[1000001,5],[9010],[2003,11012],[5,11,13014],[2003,15016],[3,5,15,17019],[2,6,20024],[8,25],[7,26027],[7,26,28]],[.cell true 2 4,.tmp 5],false⟩:=gK
theorem tf_53:gQ ⟨117,39,[(38,1)],[],[[1000001,7],[8,13018],[19],[2004,9,20022],[7,9010,20,23028],[29],[2004,11,30032],[2,4,7,11,30,33036],[3,12,37038]],[.cell true 4 6,.tmp 7],false⟩:=gK
theorem tf_18:gQ ⟨156,100,[(28,1),(74,1),(82,1),(96,1)],[],[[1,5],[13016],[17],[],[21024],[8,25030],[10,31],[0,3,6007,9,18020,32033],[5,7,9,32,34037],[38],[18020,39],[42],[0,3,6,40041,43],[41,45],[3,6,40,44,46055],[12,56],[0,11,57058],[0,11,57,59067],[44,69],[0,3,6,40,68,70076],[68,78],[0,3,6,40,77,79084],[40,77,86],[0,3,6,85,87098],[0,3,6,85,99]],[.cell true 2 4,.tmp 5],false⟩:=gK
theorem tf_19:gQ ⟨157,90,[(26,1),(86,1)],[],[[1],[10013],[14],[],[18021],[6007,22027],[28],[15017,29],[32],[0,3,5,30031,33035],[31,37],[3,5,9,30,36,38047],[0,8,48055],[36,57],[0,3,5,30,56,58066],[56,68],[0,3,5,30,67,69074],[30,67,76],[0,3,5,75,77086],[0,3,5,75,87089]],[.cell true 4 4],false⟩:=gK
theorem tf_78:gQ ⟨184,6,[],[],[[1000001,4],[2003,5]],[.tmp 4],false⟩:=gK
theorem tf_57:gQ ⟨185,9,[],[],[[],[0,3008]],[.cell true 4 2],false⟩:=gK
theorem tf_71:gQ ⟨186,7,[],[],[[],[0,3006]],[.cell true 4 2],false⟩:=gK
theorem tf_77:gQ ⟨187,11,[],[],[[2],[],[0,4],[6],[7009],[3,5,10]],[.tmp 2],false⟩:=gK
theorem tf_59:gQ ⟨188,17,[],[],[[],[4007],[0,3,8016]],[.cell true 4 2],false⟩:=gK
theorem tf_80:gQ ⟨189,22,[],[],[[],[5],[],[7010],[4,11014],[0,3,6,15019],[0,6,20021]],[.cell true 4 2],false⟩:=gK
theorem tf_56:gQ ⟨190,20,[],[],[[4],[],[7],[],[9011],[12013],[1000001,5006,8,14015],[4,6,14,16017],[1000001,5,8,18019]],[.tmp 4],false⟩:=gK
theorem tf_60:gQ ⟨191,20,[],[],[[],[4007],[0,3,8019]],[.cell true 4 2],false⟩:=gK
theorem tf_61:gQ ⟨192,17,[],[],[[],[4007],[0,3,8016]],[.cell true 4 2],false⟩:=gK
theorem tf_62:gQ ⟨193,13,[],[],[[],[0,3012]],[.cell true 4 2],false⟩:=gK
theorem tf_68:gQ ⟨194,15,[],[],[[4],[1,6008],[9],[0,5,10],[0,5,10014]],[.tmp 4],false⟩:=gK
theorem tf_63:gQ ⟨195,9,[],[],[[],[0,3008]],[.cell true 4 2],false⟩:=gK
theorem tf_64:gQ ⟨197,9,[],[],[[],[0,3008]],[.cell true 4 2],false⟩:=gK
theorem tf_67:gQ ⟨199,19,[(12,1)],[],[[3],[4013],[0,14015],[0,14,16018]],[.cell true 2 2,.tmp 3],false⟩:=gK
theorem tf_65:gQ ⟨200,14,[],[],[[],[3006],[0,7010],[0,7,11013]],[.cell true 4 2],false⟩:=gK
theorem tf_66:gQ ⟨201,13,[],[],[[],[0,3012]],[.cell true 4 2],false⟩:=gK
theorem tf_58:gQ ⟨202,13,[],[],[[],[0,3012]],[.cell true 4 2],false⟩:=gK
theorem tf_73:gQ ⟨203,16,[],[],[[2],[0],[5],[6],[7],[8],[9],[3004,10011],[3004,13],[12,14015],[12]],[.tmp 2],false⟩:=gK
theorem tf_69:gQ ⟨204,22,[(15,0),(16,0)],[],[[0],[],[6],[],[10012],[5,13017],[18],[3,7009,19020],[1,21]],[.cell true 4 2],false⟩:=gK
theorem tf_72:gQ ⟨205,55,[],[],[[1002],[],[9],[8,11],[10,13],[12,15],[16],[7,14,18],[0,17,19022],[4005,23028],[4005,29034],[0,4005,35041],[4005,42047],[0,4005,48051],[52053],[52,54]],[.cell true 4 6],false⟩:=gK
theorem tf_79:gQ ⟨217,26,[],[],[[5],[0],[],[11014],[6007,15020],[1002,8010,21022],[5,21,23],[1002,8010,24025]],[.cell true 2 4,.tmp 5],false⟩:=gK
theorem tf_55:gQ ⟨222,24,[],[],[[2],[0,3023]],[.tmp 2],false⟩:=gK
theorem tf_74:gQ ⟨223,7,[(6,1)],[],[[3],[0,4006]],[.cell true 2 2,.tmp 3],false⟩:=gK
theorem tf_75:gQ ⟨224,27,[],[],[[4],[5017],[1000001,18021],[1000001,4,18,22025],[26],[26]],[.tmp 4],false⟩:=gK
theorem tf_76:gQ ⟨225,17,[],[],[[6],[7],[1000002,8],[0,6,8009],[1002,10013],[1002,10,14016]],[.tmp 6],false⟩:=gK
theorem tf_70:gQ ⟨226,28,[],[],[[4],[0],[7],[6,9],[8,11],[10,13],[5,12,15],[14,16],[1,17],[1,17019],[4,20],[1,21],[1,21023],[1,24025],[1,26027]],[.tmp 4],false⟩:=gK
noncomputable def funcs:Nat→Option SFunc
 |_=>none
end Go.Sh.Cd6
end

section
namespace Go.Proofs.YthinnldeogflgaaGreatDoor
open Go Go.RowKit Go.Mor Go.Sh Go.Sh.Cd1 Go.Sh.Cd6
def flR1(f:Fld):List PV:=[.v (.string (str f.n)),.v (.int .i64 f.t.k),.v (.int .i64 f.t.o),.v (.bool f.ix)]
def flR(l:List Fld):List (List PV):=l.map flR1
def flT(f:Fld):TV:=.agg [S (str f.n),I f.t.k,I f.t.o,.pv (.v (.bool f.ix))]
def clT(c:Cls):TV:=.agg [S (str c.n),.pv (.sl 4 (flR c.fs))]
theorem zeX(l:List Fld)(k:Nat):(flR l)[k]?=(l[k]?).map flR1:=by unfold flR;rw[List.getElem?_map]
theorem z2z(l:List Fld):(flR l).length=l.length:=by unfold flR;rw[List.length_map]
theorem clV:(type_of% @zeX)∧(type_of% @z2z)∧(type_of% @flR1.eq_1)∧(type_of% @flT.eq_1)∧(type_of% @clT.eq_1):=⟨@zeX,@z2z,@flR1.eq_1,@flT.eq_1,@clT.eq_1⟩
def z25(s:zB):Prop:=s.length<4611686018427387904
structure ClsOk(c:Cls):Prop where
 n:z25 c.n
 fs:∀f∈c.fs,z25 f.n
 len:c.fs.length≤4611686018427387904
theorem z6s(g:Sh.Glob)(t:Ty):zC g 77 [tyT t] [] (B (zM t)) []:=by
 refine z8 tf_44 ?_;obtain⟨k,o⟩:=t;unfold B;simp only[vW,seval];unfold zM
 repeat' (first|(apply And.intro)|(intro _))
 all_goals(first|(simp_all;done)|(simp_all;omega))
theorem zgs(g:Sh.Glob)(f:Fld)(s:zB):zC g 97 [flT f,.ptr 1000 0] [.box [S (str s)]] (B (f.n==s)) [.box [S (str s)]]:=by
 refine zp tf_42 ?_;unfold B;simp only[vW,seval,clV]
theorem zdh(g:Sh.Glob)(l:List Fld)(s:zB)(hl:l.length≤maxLen):zC g 96 [.pv (.sl 4 (flR l)),.fn (.func 97) [] [.ptr 1000 0]] [.box [S (str s)]] (I (fieldAt l s)) [.box [S (str s)]]:=by
 refine zp tf_134 ?_;have hm:maxLen=9223372036854775807:=rfl;simp only[vW,seval,clV];refine zz (σ:={i:Nat // i≤l.length∧∀j x,j<i→l[j]?=some x→(x.n==s)=false}) (fun i=>⟨[(0,.pv (.sl 4 (flR l))),(1,.fn (.func 97) [] [.ptr 1000 0]),(7,I (l.length:Int)),(8,I (i.1:Int))],[(1000,[S (str s)])],[],[]⟩) (fun i=>l.length-i.1) ⟨0,Nat.zero_le _,fun j x hj=>by omega⟩ (z1u (by simp[I,S])) ?_;rintro⟨i,hi,hno⟩;by_cases hlt:i<l.length
 ·have d1:(i:Int)<(l.length:Int):=by omega
  obtain⟨x,ex⟩:∃x,l[i]?=some x:=⟨_,gE hlt⟩
  have HN:=zgs g x s;have w1:=wS i;unfold flT B at HN;simp only[vW,seval,d1,ex,clV];(with_reducible apply zl);exact kv;exact HN;rfl;exact kv;cases hp:(x.n==s)
  ·simp only[vW,seval,w1];refine zb ⟨i+1,by omega,fun j y hj hy=> ?_⟩ (by show l.length-(i+1)<l.length-i;omega) ?_
   ·by_cases hji:j=i
    ·subst hji;rw[ex]at hy;cases hy;exact hp
    ·exact hno j y (by omega) hy
   ·exact lwA
  ·simp only[vW,seval];unfold fieldAt;rw[z3k (fun f=>f.n==s) l i hno x ex hp]
 ·have d1:¬(i:Int)<(l.length:Int):=by omega
  simp only[vW,seval,d1];unfold fieldAt;rw[z3l (fun f=>f.n==s) l (fun x hx=>by
   obtain⟨j,hj⟩:=List.getElem?_of_mem hx;exact hno j x (by have:=(gJ hj).1;omega) hj)]
def z4G(l:List Fld)(s:zB):TV:=if fieldAt l s<0 then .tuple [I 0,B false] else .tuple [I (fieldAt l s),B true]
theorem z4H(g:Sh.Glob)(c:Cls)(s:zB)(hl:c.fs.length≤4611686018427387904):zC g 68 [clT c,S (str s)] [] (z4G c.fs s) []:=by
 have HI:=zdh g c.fs s (by unfold maxLen;omega);unfold z4G;refine z8 tf_41 ?_;by_cases h:fieldAt c.fs s<0
 ·rw[if_pos h];simp only[vW,seval,clV];refine z7 HI ?_;simp only[vW,seval,h,B]
 ·rw[if_neg h];simp only[vW,seval,clV];refine z7 HI ?_;simp only[vW,seval,h,B]
theorem zbi(g:Sh.Glob)(f:Fld)(hf:z25 f.n):zC g 67 [flT f] [] (B (zQ f)) []:=by
 have HN:=z4T g f.n hf;have HT:=z6s g f.t;unfold zQ;refine z8 tf_46 ?_;unfold B at*;simp only[vW,seval,clV];refine z7 HN ?_;cases h1:zk f.n
 ·simp only[vW,seval]
 ·simp only[vW,seval];refine z7 HT ?_;cases h2:zM f.t
  ·simp only[vW,seval]
  ·cases h3:f.ix
   ·simp only[vW,seval,h3];rfl
   ·simp only[vW,seval,h3]
theorem zaO{all:List Fld}{k:Nat}{f:Fld}{r:List Fld}:z2N all k (f::r)=(zQ f&&fieldAt all f.n==k&&z2N all (k+1) r):=rfl
theorem zde{l:List Fld}{f:Fld}(h:f∈l):¬fieldAt l f.n<0:=by
 unfold fieldAt;rw[z3Y];intro hn;have:=hn f h;simp at this
theorem z06(g:Sh.Glob)(c:Cls)(hc:ClsOk c):zC g 38 [clT c] [] (B (zd c)) []:=by
 have HN:=z4T g c.n hc.n;have hlen:=hc.len;obtain⟨R,hR⟩:∃R,zd c=R:=⟨_,rfl⟩
 rw[hR];unfold zd at hR;refine z8 tf_43 ?_;unfold B at*;simp only[vW,seval,clV];refine z7 HN ?_;cases h1:zk c.n
 ·rw[h1]at hR;subst hR;simp only[vW,seval]
 rw[h1,Bool.true_and]at hR;by_cases h8:c.fs.length≤8
 ·rw[decide_eq_true h8,Bool.true_and]at hR;have d8:¬(8:Int)<(c.fs.length:Int):=by omega
  simp only[vW,seval,d8,clV];refine zz (σ:={k:Nat // k≤c.fs.length∧z2N c.fs k (c.fs.drop k)=R}) (fun k=>⟨[(18,.pv (.sl 4 (flR c.fs))),(19,I (c.fs.length:Int)),(20,I (k.1:Int)),(1,.ptr 1 0)],[(1,[S (str c.n),.pv (.sl 4 (flR c.fs))])],[],[]⟩) (fun k=>c.fs.length-k.1) ⟨0,Nat.zero_le _,by simpa using hR⟩ ?_ ?_
  ·exact lwA
  rintro⟨k,hk,hT⟩;by_cases hlt:k<c.fs.length
  ·have d1:(k:Int)<(c.fs.length:Int):=by omega
   obtain⟨f,ef⟩:∃f,c.fs[k]?=some f:=⟨_,gE hlt⟩
   have hmem:=gM ef;have HF:=zbi g f (hc.fs f hmem);have HA:=z4H g c f.n hlen;have hne:=zde hmem;have w1:=wS k;have hdr:c.fs.drop k=f::c.fs.drop (k+1):=by
    rw[List.drop_eq_getElem_cons hlt];congr 1;rw[gE hlt]at ef;exact Option.some.inj ef
   rw[hdr,zaO]at hT;unfold z4G at HA;rw[if_neg hne]at HA;unfold flT clT B at*;simp only[vW,seval,d1,ef,clV];refine z7 HF ?_;cases h2:zQ f
   ·rw[h2]at hT;subst hT;simp only[vW,seval]
   rw[h2,Bool.true_and]at hT;simp only[vW,seval];refine z7 HA ?_;by_cases hat:fieldAt c.fs f.n=(k:Int)
   ·have hb:(fieldAt c.fs f.n==(k:Int))=true:=by simpa using hat
    rw[hb,Bool.true_and]at hT;simp only[vW,seval,hat,w1];refine zb ⟨k+1,hlt,hT⟩ (by show c.fs.length-(k+1)<c.fs.length-k;omega) ?_;exact lwA
   ·have hb:(fieldAt c.fs f.n==(k:Int))=false:=by simpa using hat
    rw[hb]at hT;subst hT;simp only[vW,seval,hat]
  ·have d1:¬(k:Int)<(c.fs.length:Int):=by omega
   have hdr:c.fs.drop k=[]:=List.drop_eq_nil_of_le (by omega);rw[hdr]at hT;simp only[vW,seval,d1];rw[←hT];rfl
 ·rw[decide_eq_false h8]at hR;subst hR;have d8:(8:Int)<(c.fs.length:Int):=by omega
  simp only[vW,seval,d8,clV]
def z4E(r:Int×Int):TV:=.tuple [I r.1,I r.2]
theorem z4g(m:Nat)(c:Cls)(vs:List V)(hc:ClsOk c)(hv:∀x∈vs,VOk x∧x.l.length≤maxLen)(hl:vs.length≤4611686018427387904):zC (gl0 m) 81 [clT c,.pv (.sl 4 (V.rows vs))] [] (z4E (check c vs)) []:=by
 have HR:=z06 (gl0 m) c hc;have hlen:=hc.len;obtain⟨R,hR⟩:∃R,check c vs=R:=⟨_,rfl⟩
 rw[hR];unfold check at hR;refine z8 tf_40 ?_;unfold z4E clT B at*;simp only[vW,seval,clV];refine z7 HR ?_;cases h1:zd c
 ·rw[h1]at hR;simp at hR;subst hR;simp only[vW,seval]
 rw[h1]at hR;simp only[Bool.not_true,Bool.false_eq_true,if_false]at hR;by_cases h2:vs.length=c.fs.length
 ·have d2:(vs.length:Int)=(c.fs.length:Int):=by omega
  rw[if_neg (by simpa using h2)]at hR;simp only[vW,seval,d2,clV];refine zz (σ:={k:Nat // k≤c.fs.length∧z1V k (c.fs.drop k) (vs.drop k)=R}) (fun k=>⟨[(1,.pv (.sl 4 (V.rows vs))),(24,.pv (.sl 4 (flR c.fs))),(25,I (c.fs.length:Int)),(26,I (k.1:Int))],[(2,[S (str c.n),.pv (.sl 4 (flR c.fs))])],[],[]⟩) (fun k=>c.fs.length-k.1) ⟨0,Nat.zero_le _,by simpa using hR⟩ ?_ ?_
  ·exact lwA
  rintro⟨k,hk,hT⟩;by_cases hlt:k<c.fs.length
  ·have d1:(k:Int)<(c.fs.length:Int):=by omega
   obtain⟨f,ef⟩:∃f,c.fs[k]?=some f:=⟨_,gE hlt⟩
   have hlt2:k<vs.length:=by omega
   obtain⟨v,ev⟩:∃v,vs[k]?=some v:=⟨_,gE hlt2⟩
   obtain⟨hv1,hv2⟩:=hv v (gM ev);have HF:=zil m v f.t hv1 hv2;have w1:=wS k;have hdr:c.fs.drop k=f::c.fs.drop (k+1):=by
    rw[List.drop_eq_getElem_cons hlt];congr 1;rw[gE hlt]at ef;exact Option.some.inj ef
   have hdv:vs.drop k=v::vs.drop (k+1):=by
    rw[List.drop_eq_getElem_cons hlt2];congr 1;rw[gE hlt2]at ev;exact Option.some.inj ev
   rw[hdr,hdv,z1V]at hT;unfold B at HF;simp only[vW,seval,d1,ef,ev,clV];refine z7 HF ?_;cases h3:zA v f.t
   ·rw[h3]at hT;simp only[Bool.false_eq_true,if_false]at hT;subst hT;simp only[vW,seval]
   ·rw[h3]at hT;simp only[if_true]at hT;simp only[vW,seval,w1];refine zb ⟨k+1,hlt,hT⟩ (by show c.fs.length-(k+1)<c.fs.length-k;omega) ?_;exact lwA
  ·have d1:¬(k:Int)<(c.fs.length:Int):=by omega
   have hdr:c.fs.drop k=[]:=List.drop_eq_nil_of_le (by omega);rw[hdr,z1V]at hT;subst hT;simp only[vW,seval,d1]
 ·have d2:¬(vs.length:Int)=(c.fs.length:Int):=by omega
  rw[if_pos h2]at hR;subst hR;have hmin:min (vs.length:Int) (c.fs.length:Int)=((min vs.length c.fs.length:Nat):Int):=by omega
  simp only[vW,seval,d2,hmin,clV]
end Go.Proofs.YthinnldeogflgaaGreatDoor
end

section
namespace Go.Mor
open Go
theorem z1W{l:zB}(h:l≠[]):1≤(Lib.decodeL l).2∧(Lib.decodeL l).2≤l.length:=by
 grind [Lib.decodeL_width,Lib.decodeL_le]
theorem zeM:∀(f:Nat) (l:zB) (a:Nat),l.length≤f→z3h f l a=z3h l.length l a:=by
 intro f
 induction f using Nat.strongRecOn with
 |_ f ih=>
  intro l a hl;cases f with
  |zero=>grind
  |succ f=>
   by_cases h:l=[]
   ·grind [z3h]
   ·obtain⟨n,hn⟩:∃n,l.length=n+1:=⟨l.length-1,by have:=List.length_pos_iff.2 h;omega⟩
    grind [z1W,Lib.decodeL,List.length_drop,z3h]
def z9Y(l:zB)(a:Nat):Nat:=z3h l.length l a
theorem zgb(l:zB)(a:Nat):z9Y l a=if l=[] then a else if 60<(a:Int)+Lib.runeLen ((Lib.decodeL l).1:Int)then a else z9Y (l.drop (Lib.decodeL l).2) (a+(Lib.decodeL l).2):=by
 unfold z9Y;by_cases h:l=[]
 ·subst h;rfl
 ·obtain⟨n,hn⟩:∃n,l.length=n+1:=⟨l.length-1,by have:=List.length_pos_iff.2 h;omega⟩
  grind [z1W,Lib.decodeL,List.length_drop,z3h,zeM]
theorem zlg(s:zB):z4h s=s.take (z9Y s 0):=rfl
theorem zcP:∀(f:Nat) (l:zB),l.length≤f→z3R f l=z3R l.length l:=by
 intro f
 induction f using Nat.strongRecOn with
 |_ f ih=>
  intro l hl;cases f with
  |zero=>grind
  |succ f=>
   by_cases h:l=[]
   ·grind [z3R]
   ·obtain⟨n,hn⟩:∃n,l.length=n+1:=⟨l.length-1,by have:=List.length_pos_iff.2 h;omega⟩
    grind [z1W,Lib.decodeL,List.length_drop,z3R]
theorem z9J(l:zB):z0s l=if l=[] then 0 else z0s (l.drop (Lib.decodeL l).2)+1:=by
 unfold z0s;by_cases h:l=[]
 ·subst h;rfl
 ·obtain⟨n,hn⟩:∃n,l.length=n+1:=⟨l.length-1,by have:=List.length_pos_iff.2 h;omega⟩
  grind [z1W,Lib.decodeL,List.length_drop,z3R,zcP]
theorem zcQ:∀(n:Nat) (l:zB),l.length≤n→z0s l≤l.length:=by
 intro n
 induction n using Nat.strongRecOn with
 |_ n ih=>
  intro l hl;rw[z9J];split
  ·omega
  ·rename_i h;have hd:=z1W h;have h1:(l.drop (Lib.decodeL l).2).length<n:=by grind
   grind
theorem zeC:∀(f:Nat) (l:zB) (a k:Nat) (n:Int),l.length≤f→z3e f l a k n=z3e l.length l a k n:=by
 intro f
 induction f using Nat.strongRecOn with
 |_ f ih=>
  intro l a k m hl;cases f with
  |zero=>grind
  |succ f=>
   by_cases h:l=[]
   ·grind [z3e]
   ·obtain⟨n,hn⟩:∃n,l.length=n+1:=⟨l.length-1,by have:=List.length_pos_iff.2 h;omega⟩
    grind [z1W,Lib.decodeL,List.length_drop,z3e]
def z8m(l:zB)(a k:Nat)(n:Int):Nat:=z3e l.length l a k n
theorem zap(l:zB)(a k:Nat)(m:Int):z8m l a k m=if l=[] then a else if m≤(k:Int)then a else z8m (l.drop (Lib.decodeL l).2) (a+(Lib.decodeL l).2) (k+1) m:=by
 unfold z8m;by_cases h:l=[]
 ·subst h;rfl
 ·obtain⟨n,hn⟩:∃n,l.length=n+1:=⟨l.length-1,by have:=List.length_pos_iff.2 h;omega⟩
  grind [z1W,Lib.decodeL,List.length_drop,z3e,zeC]
theorem zg0(s:zB)(n:Int):z1i s n=z8m s 0 0 n:=rfl
theorem zk4:∀(n:Nat) (l:zB) (a k:Nat) (m:Int),l.length≤n→a≤z8m l a k m∧z8m l a k m≤a+l.length:=by
 intro n
 induction n using Nat.strongRecOn with
 |_ n ih=>
  intro l a k m hl;rw[zap];split
  ·omega
  ·rename_i h;have hd:=z1W h;split
   ·omega
   ·have h1:(l.drop (Lib.decodeL l).2).length<n:=by rw[List.length_drop];omega
    have h2:=ih _ h1 (l.drop (Lib.decodeL l).2) (a+(Lib.decodeL l).2) (k+1) m (Nat.le_refl _);rw[List.length_drop]at h2;omega
theorem z9U(s:zB)(n:Int):z1i s n≤s.length:=by
 have:=(zk4 _ s 0 0 n (Nat.le_refl _)).2;rw[zg0];omega
end Go.Mor
end
