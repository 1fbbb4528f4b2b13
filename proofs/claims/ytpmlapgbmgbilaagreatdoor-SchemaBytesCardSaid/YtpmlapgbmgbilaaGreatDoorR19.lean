/- Merged texts: Pz1 Pe1 Pe2 Pe3 Vf Cd6 Zg1 Pe9. No statement of the program is proved here. -/
import Derived.Test.YtpmlapgbmgbilaaGreatDoorR17
import Derived.Lib.AtoiAll
import Derived.Lib.Small
import Derived.Lib.Index
set_option linter.unusedSimpArgs false
set_option linter.unusedVariables false
set_option maxRecDepth 100000
set_option maxHeartbeats 8000000
section
namespace Go.Proofs.YtpmlapgbmgbilaaGreatDoor
open Go Go.Mor
structure Tri(p q r:Int):Prop where
 a: -1≤p∧p≤1
 b: -1≤q∧q≤1
 c: -1≤r∧r≤1
 d:p=0→r=q
 e:q=0→r=p
 f:p= -1→q= -1→r= -1
 g:p=1→q=1→r=1
theorem z8V(a b:Int):z2k b a= -z2k a b:=by
 grind [z2k]
def z5B:zB→zB→Int
 |[],[]=>0
 |[],_::_=> -1
 |_::_,[]=>1
 |a::x,b::y=>z0f (z2k a.toNat b.toNat) (z5B x y)
theorem zfM:∀(x y:zB),z30 x y=z5B x y
 |[],[]=>by simp[z30,z5B,Op.bytesLess]
 |[],b::y=>by simp[z30,z5B,Op.bytesLess]
 |a::x,[]=>by simp[z30,z5B,Op.bytesLess]
 |a::x,b::y=>by
  have ih:=zfM x y;simp only[z5B,←ih];unfold z30 z2k z0f;simp only[Op.bytesLess]
  grind [UInt8.lt_iff_toNat_lt,UInt8.toNat_inj]
theorem z4Q{a b c d:Int}(h:b= -a)(h':d= -c):z0f b d= -z0f a c:=by
 grind [z0f]
theorem zdA:∀(x y:zB),z5B y x= -z5B x y
 |[],[]=>by simp[z5B]
 |[],b::y=>by simp[z5B]
 |a::x,[]=>by simp[z5B]
 |a::x,b::y=>by simp only[z5B];exact z4Q (z8V _ _) (zdA x y)
theorem zlV(a b:zB):z30 b a= -z30 a b:=by grind [zfM,zdA]
theorem zde:∀(x y:List V),(∀a∈x,∀b,cmpV b a= -cmpV a b)→z1H y x= -z1H x y
 |[],[],_=>by simp[z1H]
 |[],b::y,_=>by simp[z1H]
 |a::x,[],_=>by simp[z1H]
 |a::x,b::y,h=>by simp only[z1H];exact z4Q (h a (by simp) b) (zde x y fun c hc=>h c (by simp[hc]))
theorem ziG(n:Nat):∀x y:V,SizeOf.sizeOf x≤n→cmpV y x= -cmpV x y:=by
 induction n with
 |zero=>intro x y h;cases x;simp at h
 |succ n ih=>
  intro x y h;rw[z9t x y,z9t y x];refine z4Q (z8V _ _) (z4Q (z8V _ _) (z4Q (zlV _ _) (zde _ _ fun a ha b=>ih a b ?_)));have:=List.sizeOf_lt_of_mem ha;cases x;simp[V.l]at h this ⊢;omega
theorem zkJ(x y:V):cmpV y x= -cmpV x y:=ziG _ x y (Nat.le_refl _)
theorem zkK(x:V):cmpV x x=0:=by grind [zkJ]
end Go.Proofs.YtpmlapgbmgbilaaGreatDoor
end

section
namespace Go.Mor
open Go
def ty0:Ty:=⟨0,0⟩
def z0g(a b:Ty):Bool:=a.k==b.k&&a.o==b.o
def z1S(a b:Ty):Bool:=z0g a b&&(a.k==1||a.k==2)
def z2h:List Ty→List Int→Bool
 |[],_=>true
 |t::l,k::r=>t.k==k&&z2h l r
 |_::_,[]=>false
def zG(k:Int)(ks:List Int)(ps:List Ty):Ty×Bool:=if z2h ps ks then(⟨k,0⟩,true)else(ty0,false)
def zet(s:zB)(ps:List Ty):Ty×Bool:=
 if s=[43]∨s=[45]∨s=[42]∨s=[47]∨s=[37] then zG 1 [1,1] ps
 else if s=[38] then zG 2 [2,2] ps
 else(⟨1,0⟩,z1S (ps.getD 0 ty0) (ps.getD 1 ty0))
def z4J:zB:=[108,101,110]
def z1B:zB:=[108,101,102,116]
def z11:zB:=[114,105,103,104,116]
def z1A:zB:=[102,114,111,109]
def z3f:zB:=[102,105,110,100]
def z1P:zB:=[116,101,120,116]
def z4K:zB:=[110,117,109]
def nIf:zB:=[105,102]
def z50:zB:=[109,105,110]
def z5D:zB:=[109,97,120]
def z2m(ps:List Ty):Ty×Bool:=if(ps.getD 0 ty0).k=1∧z1S (ps.getD 1 ty0) (ps.getD 2 ty0)=true then(ps.getD 1 ty0,true)else(ty0,false)
def z7w(s:zB)(ps:List Ty):Ty×Bool:=
 if s=z4J then zG 1 [2] ps else if s=z1B then zG 2 [2,1] ps else if s=z11 then zG 2 [2,1] ps else if s=z1A then zG 2 [2,1] ps
 else if s=z3f then zG 1 [2,2] ps else if s=z1P then zG 2 [1] ps else if s=z4K then zG 1 [2] ps else if s=nIf then z2m ps
 else zG 1 [1,1] ps
def z17(t:V→Ty×Bool):List V→Option (List Ty)
 |[]=>some []
 |x::l=>if(t x).2 then(z17 t l).map ((t x).1::·)else none
def z2Y(fs:List Fld)(e:V)(ps:List Ty):Ty×Bool:=
 if e.k=2 then(⟨2,0⟩,true)
 else if e.k=3 then(if fieldAt fs e.s<0 then(ty0,false)else((fs.getD (fieldAt fs e.s).toNat ⟨[],ty0,false⟩).t,true))
 else if e.k=4 then zet e.s ps
 else if e.k=5 then zG 1 [1] ps
 else if e.k=6 then z7w e.s ps
 else(⟨1,0⟩,true)
def zm(fs:List Fld):Nat→V→Ty×Bool
 |0,_=>(ty0,false)
 |d+1,e=>match z17 (zm fs d) e.l with
  |none=>(ty0,false)
  |some ps=>z2Y fs e ps
def zeY(n:Int):Int:=max (-1000000000000000) (min n 1000000000000000)
def z0p(n:Int):V:=.mk 1 (zeY n) [] []
def z4y:Nat→zB→Nat→Nat
 |0,_,a=>a
 |f+1,l,a=>if l=[] then a else if 60<(a:Int)+Lib.runeLen ((Lib.decodeL l).1:Int)then a else z4y f (l.drop (Lib.decodeL l).2) (a+(Lib.decodeL l).2)
def z5z(s:zB):zB:=s.take (z4y s.length s 0)
def z22(s:zB):V:=.mk 2 0 (z5z s) []
def z57:Nat→zB→Nat
 |0,_=>0
 |f+1,l=>if l=[] then 0 else z57 f (l.drop (Lib.decodeL l).2)+1
def z16(s:zB):Nat:=z57 s.length s
def z4w:Nat→zB→Nat→Nat→Int→Nat
 |0,_,a,_,_=>a
 |f+1,l,a,k,n=>if l=[] then a else if n≤(k:Int)then a else z4w f (l.drop (Lib.decodeL l).2) (a+(Lib.decodeL l).2) (k+1) n
def z1W(s:zB)(n:Int):Nat:=z4w s.length s 0 0 n
def z9y(t u:zB):Int:=if Lib.index t u<0 then -1 else(z16 (t.take (Lib.index t u).toNat):Int)
def z3Z(t:zB):Int:=match Lib.atoiAll t with
 | .ok v=>if v< -1000000000000000∨1000000000000000<v∨Lib.itoa v≠t then 0 else v
 |_=>0
def z9U(a b:Int):Int:=if a=0∨max b (-b)≤(1000000000000000:Int).tdiv (max a (-a))then a*b else if(decide (a<0)==decide (b<0))=true then 1000000000000000 else -1000000000000000
def z5O(s:zB)(a b:Int):Int:=if b=0 then 0 else if s=[47] then a.tdiv b else a.tmod b
def z3Q(s:zB)(c:Int):Bool:=
 if s=[60,61] then decide (c≤0)else if s=[61] then decide (c=0)else if s=[62,61] then decide (0≤c)else if s=[62] then decide (0<c)else if s=[60,62] then decide (c≠0)else decide (c<0)
def opV(s:zB)(a b:V):V:=
 if s=[45] then z0p (a.n+ -b.n)else if s=[43] then z0p (a.n+b.n)else if s=[42] then z0p (z9U a.n b.n)
 else if s=[47]∨s=[37] then z0p (z5O s a.n b.n)else if s=[38] then z22 (a.s++b.s)
 else if z3Q s (Go.Proofs.YtpmlapgbmgbilaaGreatDoor.cmpV a b)then z0p 1 else z0p 0
def z0a(s:zB)(l:List V):V:=
 let x:=l.getD 0 V.nil
 let y:=l.getD 1 V.nil
 if s=z4J then z0p (z16 x.s)else if s=z1B then z22 (x.s.take (z1W x.s y.n))else if s=z11 then z22 (x.s.drop (z1W x.s (z16 x.s-y.n)))
 else if s=z1A then z22 (x.s.drop (z1W x.s y.n))else if s=z3f then z0p (z9y x.s y.s)else if s=z1P then z22 (Lib.itoa x.n)else if s=z4K then z0p (z3Z x.s)
 else if s=nIf then(if x.n≠0 then y else l.getD 2 V.nil)else if s=z50 then z0p (min x.n y.n)else z0p (max x.n y.n)
def z9O(fs:List Fld)(vals:List V)(e:V)(ps:List V):V:=
 if e.k=2 then z22 e.s
 else if e.k=3 then vals.getD (fieldAt fs e.s).toNat V.nil
 else if e.k=4 then opV e.s (ps.getD 0 V.nil) (ps.getD 1 V.nil)
 else if e.k=5 then z0p (-(ps.getD 0 V.nil).n)
 else if e.k=6 then z0a e.s ps
 else z0p e.n
def z1V(fs:List Fld)(vals:List V):Nat→V→V
 |0,_=>V.nil
 |d+1,e=>z9O fs vals e (e.l.map (z1V fs vals d))
def z2H(c:Cls)(e:V):Ty×Int:=if z15 e then(if zd c then(if(zm c.fs 8 e).2 then((zm c.fs 8 e).1,0)else(ty0,60))else(ty0,40))else(ty0,50)
def z4A(c:Cls)(vals:List V)(e:V):V×Int:=if(z2H c e).2≠0 then(V.nil,(z2H c e).2)else if(check c vals).2≠0 then(V.nil,(check c vals).2)else(z1V c.fs vals 8 e,0)
structure Sgn(g:zB):Prop where
 pos:1≤g.length
 le:g.length≤4
 dec:∀t,Lib.decodeL (g++t)=((Lib.decodeL g).1,g.length)
 rl:Lib.runeLen ((Lib.decodeL g).1:Int)=(g.length:Int)
 ok:¬((Lib.decodeL g).1=65533∧g.length=1)
 hd:(g.getD 0 0).toNat<128∨192≤(g.getD 0 0).toNat
 tl:∀c∈g.drop 1,128≤c.toNat∧c.toNat<192
 pl:z3T (Lib.decodeL g).1=true
theorem ztf{b c:UInt8}(h0:¬b.toNat<128)(h1:b.toNat / 32=6)(h2:c.toNat / 64=2)(hr:b.toNat%32*64+c.toNat%64≥128)(t:zB):Lib.decodeL (b::c::t)=(b.toNat%32*64+c.toNat%64,2):=by
 rw[Lib.decodeL_N]
 grind [Lib.decodeN]
theorem ztg{b c d:UInt8}(h0:¬b.toNat<128)(h1:b.toNat / 16=14)(h2:c.toNat / 64=2)(h3:d.toNat / 64=2)
  (hr:b.toNat%16*4096+c.toNat%64*64+d.toNat%64≥2048∧(b.toNat%16*4096+c.toNat%64*64+d.toNat%64<55296∨(57344≤b.toNat%16*4096+c.toNat%64*64+d.toNat%64∧b.toNat%16*4096+c.toNat%64*64+d.toNat%64≤1114111))) (t:zB):
  Lib.decodeL (b::c::d::t)=(b.toNat%16*4096+c.toNat%64*64+d.toNat%64,3):=by
 rw[Lib.decodeL_N]
 grind [Lib.decodeN]
theorem zth{b c d e:UInt8}(h0:¬b.toNat<128)(h1:b.toNat / 8=30)(h2:c.toNat / 64=2)(h3:d.toNat / 64=2)(h4:e.toNat / 64=2)
  (hr:b.toNat%8*262144+c.toNat%64*4096+d.toNat%64*64+e.toNat%64≥65536∧(b.toNat%8*262144+c.toNat%64*4096+d.toNat%64*64+e.toNat%64<55296∨(57344≤b.toNat%8*262144+c.toNat%64*4096+d.toNat%64*64+e.toNat%64∧b.toNat%8*262144+c.toNat%64*4096+d.toNat%64*64+e.toNat%64≤1114111))) (t:zB):
  Lib.decodeL (b::c::d::e::t)=(b.toNat%8*262144+c.toNat%64*4096+d.toNat%64*64+e.toNat%64,4):=by
 rw[Lib.decodeL_N]
 grind [Lib.decodeN]
theorem zey{n:Nat}{k:Int}(h:(n<128∧k=1)∨(128≤n∧n<2048∧k=2)∨(2048≤n∧(n<55296∨57344≤n)∧n<65536∧k=3)∨(65536≤n∧n≤1114111∧k=4)):Lib.runeLen (n:Int)=k:=by
 grind [Lib.runeLen]
theorem zrS{r:zB}(h:1≤r.length):∃c t,r=c::t:=by
 match r,h with
 |c::t,_=>simp
theorem zsl{r:zB}(h:2≤r.length):∃c d t,r=c::d::t:=by
 match r,h with
 |c::d::t,_=>simp
theorem zoH{r:zB}(h:3≤r.length):∃c d e t,r=c::d::e::t:=by
 match r,h with
 |c::d::e::t,_=>simp
theorem zmk{l:zB}(hne:l≠[])(hv:¬((Lib.decodeL l).1=65533∧(Lib.decodeL l).2=1))(hp:z3T (Lib.decodeL l).1=true):Sgn (l.take (Lib.decodeL l).2):=by
 obtain⟨b,r,rfl⟩:=List.exists_cons_of_ne_nil hne;have hN:=Lib.decodeL_N (b::r);unfold Lib.decodeN at hN;by_cases h0:b.toNat<128
 ·have hd:=fun t=>Lib.decodeL_ascii b t h0;rw[hd]at hp hv ⊢;rw[List.take_succ_cons,List.take_zero];exact⟨by simp,by simp,fun t=>by rw[List.singleton_append,hd,hd];rfl,by rw[hd];exact zey (.inl ⟨h0,rfl⟩),by rw[hd];simp;omega,.inl h0,by simp,by rw[hd];exact hp⟩
 ·simp only[List.getD_cons_zero,if_neg h0,List.getD_cons_succ,List.length_cons]at hN;split at hN
  ·rename_i h1;split at hN
   ·rename_i h2;obtain⟨c,t,rfl⟩:=zrS (r:=r) (by omega)
    ·simp only[List.getD_cons_zero]at h1 h2;have hd:=fun t=>ztf h0 h1.1 h1.2.2 h2 t;rw[hd]at hp hv ⊢;simp;refine⟨by simp,by simp,fun t=> ?_,by rw[hd];exact zey (.inr (.inl ⟨h2,by omega,rfl⟩)),by simp,.inr (by grind),?_,by rw[hd];exact hp⟩
     ·grind
     ·grind
   ·grind
  split at hN
  ·rename_i h1;split at hN
   ·rename_i h2;obtain⟨c,d,t,rfl⟩:=zsl (r:=r) (by omega)
    ·simp only[List.getD_cons_zero,List.getD_cons_succ]at h1 h2;have hd:=fun t=>ztg h0 h1.1 h1.2.1.2 h1.2.2.2 h2 t;rw[hd]at hp hv ⊢;simp;refine⟨by simp,by simp,fun t=> ?_,by rw[hd];exact zey (.inr (.inr (.inl ⟨h2.1,by omega,by omega,rfl⟩))),by simp,.inr (by grind),?_,by rw[hd];exact hp⟩
     ·grind
     ·grind
   ·grind
  split at hN
  ·rename_i h1;split at hN
   ·rename_i h2;obtain⟨c,d,e,t,rfl⟩:=zoH (r:=r) (by omega)
    ·simp only[List.getD_cons_zero,List.getD_cons_succ]at h1 h2;have hd:=fun t=>zth h0 h1.1 h1.2.1.2 h1.2.2.1.2 h1.2.2.2.2 h2 t;rw[hd]at hp hv ⊢;simp;refine⟨by simp,by simp,fun t=> ?_,by rw[hd];exact zey (.inr (.inr (.inr ⟨h2.1,by omega,rfl⟩))),by simp,.inr (by grind),?_,by rw[hd];exact hp⟩
     ·grind
     ·grind
   ·grind
  ·grind
theorem Sgn.ne{g:zB}(h:Sgn g):g≠[]:=by intro e;have:=h.pos;rw[e]at this;simp at this
def Txt(gs:List (zB)):Prop:=∀g∈gs,Sgn g
theorem Txt.tail{g:zB}{gs:List (zB)}(h:Txt (g::gs)):Txt gs:=fun x hx=>h x (List.mem_cons_of_mem _ hx)
theorem Txt.head{g:zB}{gs:List (zB)}(h:Txt (g::gs)):Sgn g:=h g (List.mem_cons_self ..)
theorem Txt.take{gs:List (zB)}(h:Txt gs)(n:Nat):Txt (gs.take n):=fun x hx=>h x (List.mem_of_mem_take hx)
theorem Txt.drop{gs:List (zB)}(h:Txt gs)(n:Nat):Txt (gs.drop n):=fun x hx=>h x (List.mem_of_mem_drop hx)
theorem Txt.app{gs hs:List (zB)}(h:Txt gs)(h':Txt hs):Txt (gs++hs):=fun x hx=>(List.mem_append.1 hx).elim (h x) (h' x)
theorem zmx:∀(n:Nat) (s:zB),s.length≤n→Lib.validD s=true→z38 s=true→∃gs,Txt gs∧gs.flatten=s
 |0,s,h,_,_=>by
  obtain rfl:=List.eq_nil_of_length_eq_zero (Nat.le_zero.1 h);exact⟨[],by intro g hg;simp at hg,rfl⟩
 |n+1,s,h,hv,hp=>by
  by_cases hne:s=[]
  ·subst hne;exact⟨[],by intro g hg;simp at hg,rfl⟩
  rw[Lib.validD_step s hne]at hv;rw[z5h s hne,Bool.and_eq_true]at hp;split at hv
  ·cases hv
  ·rename_i hok;have hw:=Lib.decodeL_width s;obtain⟨gs,h1,h2⟩:=zmx n (s.drop (Lib.decodeL s).2) (by grind) hv hp.2;refine⟨s.take (Lib.decodeL s).2::gs,fun g hg=> ?_,by rw[List.flatten_cons,h2,List.take_append_drop]⟩;rcases List.mem_cons.1 hg with rfl|hg
   ·grind [zmk]
   ·exact h1 g hg
theorem zd0{g:zB}{gs:List (zB)}(h:Txt (g::gs)):Lib.decodeL (g::gs).flatten=((Lib.decodeL g).1,g.length):=by rw[List.flatten_cons];exact h.head.dec _
theorem z9A{g:zB}{gs:List (zB)}(h:Txt (g::gs)):(g::gs).flatten≠[]:=by
 rw[List.flatten_cons];intro e;exact h.head.ne (List.append_eq_nil_iff.1 e).1
theorem zdt{g:zB}{gs:List (zB)}:((g::gs).flatten).drop g.length=gs.flatten:=by simp
theorem zdS:∀(gs:List (zB)),Txt gs→Lib.validD gs.flatten=true∧z38 gs.flatten=true
 |[],_=>⟨rfl,rfl⟩
 |g::gs,h=>by
  obtain⟨h1,h2⟩:=zdS gs h.tail;rw[Lib.validD_step _ (z9A h),z5h _ (z9A h),zd0 h];simp only[zdt];rw[if_neg h.head.ok,h1,h2,h.head.pl];simp
theorem zmy{gs:List (zB)}(h:Txt gs)(hl:gs.flatten.length≤60):zl gs.flatten=true:=by
 grind [zdS,zl]
theorem z5s{s:zB}(h:zl s=true):∃gs,Txt gs∧gs.flatten=s∧s.length≤60:=by
 unfold zl at h;rw[Bool.and_eq_true,Bool.and_eq_true,decide_eq_true_eq]at h;obtain⟨gs,h1,h2⟩:=zmx s.length s (Nat.le_refl _) h.2.1 h.2.2
 grind
theorem z2X:∀(gs:List (zB)),Txt gs→gs.length≤gs.flatten.length
 |[],_=>by simp
 |g::gs,h=>by
  have:=z2X gs h.tail;have:=h.head.pos
  grind
theorem zd9:∀(gs:List (zB)) (f a k:Nat) (n:Int),Txt gs→gs.flatten.length≤f→z4w f gs.flatten a k n=a+(gs.take (n-k).toNat).flatten.length
 |[],f,a,k,n,_,_=>by cases f<;>simp[z4w]
 |g::gs,f,a,k,n,h,hf=>by
  have hp:=h.head.pos;rw[List.flatten_cons,List.length_append]at hf;obtain⟨j,rfl⟩:∃j,f=j+1:=⟨f-1,by omega⟩
  rw[z4w,if_neg (z9A h),zd0 h];simp only[zdt];by_cases hk:n≤(k:Int)
  ·simp_all
  ·rw[if_neg hk,zd9 gs j _ (k+1) n h.tail (by omega),show(n-(k:Int)).toNat=(n-((k+1:Nat):Int)).toNat+1 by omega,List.take_succ_cons,List.flatten_cons,List.length_append];omega
theorem zhm{gs:List (zB)}(h:Txt gs)(n:Int):z1W gs.flatten n=(gs.take n.toNat).flatten.length:=by
 unfold z1W;rw[zd9 gs _ 0 0 n h (Nat.le_refl _)];simp
theorem z5J(gs:List (zB))(n:Nat):gs.flatten=(gs.take n).flatten++(gs.drop n).flatten:=by
 rw[←List.flatten_append,List.take_append_drop]
theorem zoG{gs:List (zB)}(h:Txt gs)(n:Int):gs.flatten.take (z1W gs.flatten n)=(gs.take n.toNat).flatten:=by
 grind [zhm,z5J,List.take_left]
theorem zns{gs:List (zB)}(h:Txt gs)(n:Int):gs.flatten.drop (z1W gs.flatten n)=(gs.drop n.toNat).flatten:=by
 grind [zhm,z5J,List.drop_left]
theorem zdh:∀(gs:List (zB)) (f a:Nat),Txt gs→gs.flatten.length≤f→a≤60→∃k,k≤gs.length∧z4y f gs.flatten a=a+(gs.take k).flatten.length∧a+(gs.take k).flatten.length≤60∧(k=gs.length∨60<a+(gs.take (k+1)).flatten.length)
 |[],f,a,_,_,ha=>⟨0,by simp,by cases f<;>simp[z4y],by simpa using ha,.inl rfl⟩
 |g::gs,f,a,h,hf,ha=>by
  have hp:=h.head.pos;rw[List.flatten_cons,List.length_append]at hf;obtain⟨j,rfl⟩:∃j,f=j+1:=⟨f-1,by omega⟩
  rw[z4y,if_neg (z9A h),zd0 h];rw[h.head.rl];by_cases hk:(60:Int)<(a:Int)+(g.length:Int)
  ·rw[if_pos hk];refine⟨0,by simp,by simp,by simpa using ha,.inr ?_⟩
   grind
  ·rw[if_neg hk];obtain⟨k,h1,h2,h3,h4⟩:=zdh gs j (a+g.length) h.tail (by omega) (by omega);refine⟨k+1,by simpa using h1,?_,?_,?_⟩
   ·grind
   ·grind
   ·grind
theorem zhE{gs:List (zB)}(h:Txt gs):∃k,k≤gs.length∧z5z gs.flatten=(gs.take k).flatten∧(gs.take k).flatten.length≤60∧(k=gs.length∨60<(gs.take (k+1)).flatten.length):=by
 obtain⟨k,h1,h2,h3,h4⟩:=zdh gs _ 0 h (Nat.le_refl _) (by omega)
 grind [z5z,z5J,List.take_left]
theorem zgm(gs:List (zB))(k:Nat):(gs.take k).flatten.length≤gs.flatten.length:=by
 grind [List.length,z5J,List.length_append]
theorem zri{gs:List (zB)}(h:Txt gs)(hl:gs.flatten.length≤60):z5z gs.flatten=gs.flatten:=by
 grind [zhE,List.take_length,zgm]
theorem z6r{gs:List (zB)}(h:Txt gs):zl (z5z gs.flatten)=true:=by
 obtain⟨k,h1,h2,h3,_⟩:=zhE h;rw[h2];exact zmy (h.take k) h3
theorem zf1{s:zB}(h:zl s=true):z5z s=s:=by
 grind [z5s,zri]
theorem zmj{b:UInt8}(h0:32≤b.toNat)(h1:b.toNat<127):Sgn [b]:=by
 grind [Lib.decodeL_ascii,z3T,zmk]
theorem zmw{s:zB}(h:∀b∈s,32≤b.toNat∧b.toNat<127):Txt (s.map fun b=>[b])∧(s.map fun b=>[b]).flatten=s:=by
 refine⟨fun g hg=> ?_,?_⟩
 ·grind [zmj]
 ·induction s<;>simp_all
section
theorem znk(n:Int): -1000000000000000≤zeY n∧zeY n≤1000000000000000:=by grind [zeY]
theorem z1s(n:Int):zJ (z0p n) ⟨1,0⟩=true:=by
 have:=znk n;unfold z0p;simp[zJ,z1r,z1L,bare,zi,z1U,V.k,V.n,V.s,V.l,this.1,this.2]
theorem z4l{s:zB}(h:zl s=true):zJ (.mk 2 0 s []) ⟨2,0⟩=true:=by
 simp[zJ,z1r,z1L,zi,z1U,V.k,V.n,V.s,V.l,h]
theorem zbH{v:V}{t:Ty}(h:zJ v t=true):z1r v=true:=by
 unfold zJ at h;simp at h;exact h.1.1.1
theorem zds{v:V}{t:Ty}(h:zJ v t=true)(hk:t.k≠3)(hk4:t.k≠4):v.k=t.k:=by
 grind [zJ,z1U]
theorem z7n{v:V}{t:Ty}(h:zJ v t=true)(hk:t.k=2):v.k=2∧v.n=0∧v.l=[]∧zl v.s=true:=by
 have h1:=zds h (by omega) (by omega);have h2:=zbH h
 grind [z1r,z1L]
theorem zfJ{v:V}{t:Ty}(h:zJ v t=true)(hk:t.k=1):v.k=1∧ -1000000000000000≤v.n∧v.n≤1000000000000000∧v.s=[]∧v.l=[]:=by
 have h1:=zds h (by omega) (by omega);have h2:=zbH h
 grind [z1r,z1L,bare]
theorem zeg{s:zB}(h:zl s=true):zl (z5z s)=true:=by grind [zf1]
theorem zpK{s t:zB}(hs:zl s=true)(ht:zl t=true):zl (z5z (s++t))=true:=by
 obtain⟨gs,h1,rfl,_⟩:=z5s hs;obtain⟨hs',h2,rfl,_⟩:=z5s ht;rw[←List.flatten_append];exact z6r (h1.app h2)
theorem znl{s:zB}(hs:zl s=true)(n:Int):zl (z5z (s.take (z1W s n)))=true:=by
 obtain⟨gs,h1,rfl,_⟩:=z5s hs;rw[zoG h1];exact z6r (h1.take _)
theorem zeZ{s:zB}(hs:zl s=true)(n:Int):zl (z5z (s.drop (z1W s n)))=true:=by
 obtain⟨gs,h1,rfl,_⟩:=z5s hs;rw[zns h1];exact z6r (h1.drop _)
theorem zja(n:Int):∀b∈Lib.itoa n,32≤b.toNat∧b.toNat<127:=by
 have hd:∀m:Nat,∀b∈Lib.decDigits m,32≤b.toNat∧b.toNat<127:=by
  intro m
  induction m using Nat.strongRecOn with
  |_ m ih=>
   intro b hb;by_cases hm:m<10
   ·rw[Lib.decDigits_one hm]at hb
    grind [zrj]
   ·rw[Lib.decDigits,dif_neg hm,List.mem_append]at hb;rcases hb with hb|hb
    ·grind
    ·simp only[List.mem_cons,List.not_mem_nil,or_false]at hb
     grind [zrj]
 intro b hb;unfold Lib.itoa at hb;split at hb
 ·rcases List.mem_cons.1 hb with rfl|hb<;>grind
 ·grind
theorem zf0(n:Int):zl (z5z (Lib.itoa n))=true:=by
 obtain⟨h1,h2⟩:=zmw (zja n)
 grind [z6r]
theorem z1R{k:Int}{ks:List Int}{ps:List Ty}{t:Ty}(h:zG k ks ps=(t,true)):t=⟨k,0⟩∧z2h ps ks=true:=by
 grind [zG]
theorem zgl:∀{ps:List Ty} {ks:List Int} {i:Nat} {t:Ty},z2h ps ks=true→ps[i]?=some t→ks[i]?=some t.k
 |t::l,k::r,0,t',h,e=>by
  cases e;rw[z2h,Bool.and_eq_true,beq_iff_eq]at h;simp[h.1]
 |t::l,k::r,i+1,t',h,e=>by
  rw[z2h,Bool.and_eq_true]at h;have:=zgl (ps:=l) (ks:=r) (i:=i) (t:=t') h.2 (by grind)
  grind
 |t::l,[],_,_,h,_=>by simp[z2h]at h
 |[],_,_,_,_,e=>by simp at e
theorem z7L{t:V→Ty×Bool}:∀{l:List V} {ps:List Ty},z17 t l=some ps→ps.length=l.length∧∀(i:Nat) x,l[i]?=some x→(t x).2=true∧ps[i]?=some (t x).1
 |[],ps,h=>by cases h;exact⟨rfl,fun i x e=>by simp at e⟩
 |x::l,ps,h=>by
  unfold z17 at h;split at h
  ·rename_i h1;obtain⟨qs,h2,rfl⟩:=gO h;obtain⟨h3,h4⟩:=z7L h2
   grind
  ·cases h
def z5Z(fs:List Fld)(vals:List V):Prop:=(∀f∈fs,zi f.t=true)∧vals.length=fs.length∧∀(i:Nat) f v,fs[i]?=some f→vals[i]?=some v→zJ v f.t=true
theorem z7a{α:Type}{l:List α}{i:Nat}{x d:α}(h:l[i]?=some x):l.getD i d=x:=by grind
theorem zf7{fs:List Fld}{vals:List V}(hf:z5Z fs vals){s:zB}(h:¬fieldAt fs s<0):∃f v,fs[(fieldAt fs s).toNat]?=some f∧vals[(fieldAt fs s).toNat]?=some v∧zJ v f.t=true∧f.n=s:=by
 obtain⟨k,hk⟩:∃k:Nat,fieldAt fs s=k:=⟨(fieldAt fs s).toNat,by omega⟩
 obtain⟨f,h1,h2⟩:=z2W _ _ k hk;rw[hk,Int.toNat_natCast];have hlt:k<vals.length:=by rw[hf.2.1];exact(gJ h1).1
 exact⟨f,vals[k],h1,gE hlt,hf.2.2 k f _ h1 (gE hlt),by simpa using h2⟩
theorem z3V{s:zB}(h:0<zt s):s=z4J∨s=z1P∨s=z4K∨s=z1B∨s=z11∨s=z1A∨s=z3f∨s=z50∨s=z5D∨s=nIf:=by
 unfold zt at h;split at h
 ·grind [z4J,z1P,z4K]
 grind [z1B,z11,z1A,z3f,z50,z5D,nIf]
theorem zd6{a b:Ty}(h:z1S a b=true):a=b∧(a.k=1∨a.k=2):=by
 unfold z1S z0g at h;obtain⟨ak,ao⟩:=a;obtain⟨bk,bo⟩:=b
 grind
section
variable{fs:List Fld}{vals:List V}
def zaB(ws:List V)(ps:List Ty):Prop:=ws.length=ps.length∧∀(i:Nat) w t,ws[i]?=some w→ps[i]?=some t→zJ w t=true
theorem z6a{ws:List V}{ps:List Ty}(h:zaB ws ps){i:Nat}(hi:i<ps.length){k:Int}(hk:(ps.getD i ty0).k=k):zJ (ws.getD i V.nil) (ps.getD i ty0)=true:=by
 rw[List.getD_eq_getElem?_getD,List.getD_eq_getElem?_getD,gE hi,gE (by rw[h.1];exact hi)];exact h.2 i _ _ (gE (by rw[h.1];exact hi)) (gE hi)
theorem zcL{ps:List Ty}{ks:List Int}(h:z2h ps ks=true){i:Nat}(hi:i<ps.length):ks[i]?=some (ps.getD i ty0).k:=by
 grind [List.getElem?_eq_getElem,zgl]
theorem zlP(hf:z5Z fs vals){e:V}(hn:z0F e=true){ps:List Ty}{ws:List V}(hl:ps.length=e.l.length)(hp:zaB ws ps){t:Ty}(ht:z2Y fs e ps=(t,true)):zJ (z9O fs vals e ws) t=true:=by
  unfold z2Y at ht
  unfold z9O
  rcases z4p hn with k|k|k|k|k|k
  · rw[if_neg (by omega),if_neg (by omega),if_neg (by omega),if_neg (by omega),if_neg (by omega)]at ht ⊢
    cases ht;exact z1s _
  · rw[if_pos k]at ht ⊢
    cases ht;exact z4l (zeg (zbQ hn k).2.1)
  · rw[if_neg (by omega),if_pos k]at ht ⊢
    split at ht
    · cases ht
    · rename_i hne
      obtain⟨f,v,h1,h2,h3,_⟩:=zf7 hf hne
      rw[z7a h1]at ht
      cases ht
      rw[z7a h2];exact h3
  · rw[if_neg (by omega),if_neg (by omega),if_pos k]at ht ⊢
    obtain⟨_,hb,a,b,hab⟩:=z9M hn k
    rw[hab]at hl
    have hl:ps.length=2:=hl
    unfold zet at ht
    unfold opV
    split at ht
    · rename_i h1
      obtain⟨rfl,_⟩:=z1R ht
      rcases h1 with h1|h1|h1|h1|h1<;>simp only[h1]
      · exact z1s _
      · exact z1s _
      · exact z1s _
      · exact z1s _
      · exact z1s _
    · rename_i h1
      rw[not_or,not_or,not_or,not_or]at h1
      rw[if_neg h1.2.1,if_neg h1.1,if_neg h1.2.2.1,if_neg (by rw[not_or];exact h1.2.2.2)]
      split at ht
      · rename_i h2
        rw[if_pos h2]
        obtain⟨rfl,hg⟩:=z1R ht
        have k0:=zcL hg (i:=0) (by omega)
        have k1:=zcL hg (i:=1) (by omega)
        simp at k0 k1
        have f0:=z7n (z6a hp (i:=0) (by omega) rfl) k0.symm
        have f1:=z7n (z6a hp (i:=1) (by omega) rfl) k1.symm
        exact z4l (zpK f0.2.2.2 f1.2.2.2)
      · rename_i h2
        rw[if_neg h2]
        have:t=⟨1,0⟩:=by injection ht with h1 h2;exact h1.symm
        subst this
        split<;>exact z1s _
  · rw[if_neg (by omega),if_neg (by omega),if_neg (by omega),if_pos k]at ht ⊢
    obtain⟨rfl,_⟩:=z1R ht
    exact z1s _
  · rw[if_neg (by omega),if_neg (by omega),if_neg (by omega),if_neg (by omega),if_pos k]at ht ⊢
    obtain⟨_,hb,hlen⟩:=z9N hn k
    have hc:=z3V hb
    generalize e.s=s at hc ht hlen
    have tx:∀(i:Nat),i<ps.length→(ps.getD i ty0).k=2→zl (ws.getD i V.nil).s=true:=fun i hi hk=>(z7n (z6a hp hi rfl) hk).2.2.2
    have kd:∀{ks:List Int} (i:Nat),z2h ps ks=true→i<ps.length→∀q,ks[i]?=some q→(ps.getD i ty0).k=q:=fun i hg hi q hq=>by
      have:=zcL hg hi;rw[hq]at this;exact(Option.some.inj this).symm
    rcases hc with rfl|rfl|rfl|rfl|rfl|rfl|rfl|rfl|rfl|rfl
    · obtain⟨rfl,hg⟩:=z1R (show zG 1 [2] ps=(t,true) from ht);exact z1s _
    · obtain⟨rfl,hg⟩:=z1R (show zG 2 [1] ps=(t,true) from ht);exact z4l (zf0 _)
    · obtain⟨rfl,hg⟩:=z1R (show zG 1 [2] ps=(t,true) from ht);exact z1s _
    · obtain⟨rfl,hg⟩:=z1R (show zG 2 [2,1] ps=(t,true) from ht)
      have h2 : ps.length = 2 := by have : zt z1B = 2 := by decide
                                    omega
      exact z4l (znl (tx 0 (by omega) (kd 0 hg (by omega) 2 rfl)) _)
    · obtain⟨rfl,hg⟩:=z1R (show zG 2 [2,1] ps=(t,true) from ht)
      have h2 : ps.length = 2 := by have : zt z11 = 2 := by decide
                                    omega
      exact z4l (zeZ (tx 0 (by omega) (kd 0 hg (by omega) 2 rfl)) _)
    · obtain⟨rfl,hg⟩:=z1R (show zG 2 [2,1] ps=(t,true) from ht)
      have h2 : ps.length = 2 := by have : zt z1A = 2 := by decide
                                    omega
      exact z4l (zeZ (tx 0 (by omega) (kd 0 hg (by omega) 2 rfl)) _)
    · obtain⟨rfl,hg⟩:=z1R (show zG 1 [2,2] ps=(t,true) from ht);exact z1s _
    · obtain⟨rfl,hg⟩:=z1R (show zG 1 [1,1] ps=(t,true) from ht);exact z1s _
    · obtain⟨rfl,hg⟩:=z1R (show zG 1 [1,1] ps=(t,true) from ht);exact z1s _
    · have h3 : ps.length = 3 := by have : zt nIf = 3 := by decide
                                    omega
      have ht':z2m ps=(t,true):=ht
      unfold z2m at ht'
      split at ht'
      · rename_i h1
        obtain⟨h4,h5⟩:=zd6 h1.2
        cases ht'
        show zJ (if(ws.getD 0 V.nil).n≠0 then ws.getD 1 V.nil else ws.getD 2 V.nil) _=true
        split
        · exact z6a hp (by omega) rfl
        · rw[h4];exact z6a hp (by omega) rfl
      · cases ht'
theorem z5I(hf:z5Z fs vals):∀(d:Nat) (e:V) (t:Ty),okE d e=true→zm fs d e=(t,true)→zJ (z1V fs vals d e) t=true
 |0,e,t,h,_=>by simp[okE]at h
 |d+1,e,t,h,ht=>by
  obtain⟨hn,hk⟩:=z9R h;unfold zm at ht;cases hp:z17 (zm fs d) e.l with
  |none=>grind
  |some ps=>
   rw[hp]at ht;obtain⟨h1,h2⟩:=z7L hp;refine zlP hf hn h1 ⟨by rw[List.length_map,h1],fun i w u hw hu=> ?_⟩ ht;rw[List.getElem?_map]at hw;obtain⟨x,hx,rfl⟩:=gO hw;obtain⟨h3,h4⟩:=h2 i x hx;exact z5I hf d x _ (hk x (gM hx)) (by grind)
end
end
end Go.Mor
end

section
namespace Go.Proofs.YtpmlapgbmgbilaaGreatDoor
open Go Go.RowKit Go.Mor Go.Sh
inductive VFew:V→Prop where
 |mk {k n:Int} {s:zB} {l:List V} (h:l.length≤1000) (hs:∀y∈l,VFew y):VFew (.mk k n s l)
theorem VFew.len{x:V}(h:VFew x):x.l.length≤1000:=by cases h;assumption
theorem VFew.sub{x y:V}(h:VFew x)(hy:y∈x.l):VFew y:=by cases h with|mk _ hs=>exact hs y hy
theorem zf6{x:V}(h:x.l=[]):VFew x:=by cases x with|mk k n s l=>simp only[Vl]at h;subst h;exact .mk (by simp) (by simp)
theorem VFew.small{x:V}(h:VFew x):VSmall x:=by
 induction h with
 |mk h _ ih=>exact .mk (by unfold maxLen;omega) ih
end Go.Proofs.YtpmlapgbmgbilaaGreatDoor
end

section
namespace Go.Sh.Cd6
open Go Go.Sh
abbrev gQ(a:GA):Prop:=gT Go.Proofs.Tryz.prog a
theorem gK{a:GA}(h:gQ a:=by unfold gQ gT;kernel_rfl):gQ a:=h
theorem tf_122:gQ ⟨12,81,[(10,0),(11,0),(14,0),(37,0),(42,0),(52,0),(69,0),(77,0)],[],[[0],[10],[11017],[],[18025],[7,27028,73],[26,29033],[34045],[46048],[49055],[6,49,56064],[8,65071],[9,72],[7,73079],[1,3005,80]],[.cell true 2 2],false⟩:=gK
theorem tf_123:gQ ⟨35,13,[],[],[[4],[5],[6009],[1000001,6,10012]],[.tmp 4],false⟩:=gK
theorem tf_139:gQ ⟨36,23,[],[],[[0,4005],[],[7010],[4005,12013,21],[11,14020],[1002,6,21022],[1002,6]],[.tmp 4,.tmp 5],false⟩:=gK
theorem tf_58:gQ ⟨37,39,[],[],[[0,2],[7015],[1,16],[2,16017],[],[21024],[25026],[1,3004,18020,27],[2,4,6,27034],[3,5,35036],[1,18020,37],[2,37038],[1,18020]],[.tmp 2],false⟩:=gK
theorem tf_141:gQ ⟨57,62,[],[],[[0,2],[6014],[1,15],[2,15],[16019],[4005,21022],[20,23027],[28046],[1,3004,47],[2,47],[48049],[2,51052,61],[50,53060],[1,3005,61],[1,3]],[.tmp 2],false⟩:=gK
theorem tf_63:gQ ⟨66,22,[],[],[[0,2],[3011],[1,12],[1,12021]],[.tmp 2],false⟩:=gK
theorem tf_56:gQ ⟨67,14,[(10,1)],[],[[1000001,4005],[2003,7010],[11],[6,12],[6,12013]],[.tmp 4,.tmp 5],false⟩:=gK
theorem tf_59:gQ ⟨76,27,[],[],[[0,2],[3004],[1,5013],[1,5,14026]],[.tmp 2],false⟩:=gK
theorem tf_53:gQ ⟨80,41,[],[],[[0,4005],[8009],[1002,10],[4005,10015],[1002,16022],[2,4005,16,23],[],[27030],[7,31037],[1,6,24026,38039],[4006,38,40],[1,24026]],[.tmp 4,.tmp 5],false⟩:=gK
theorem tf_142:gQ ⟨84,21,[],[],[[0,2],[1,3020]],[.tmp 2],false⟩:=gK
theorem tf_190:gQ ⟨95,19,[(16,1)],[],[[4],[6],[],[9010],[11015],[1000001,5,7008,16017],[4005,16,18],[1000001,7008]],[.tmp 4],false⟩:=gK
theorem tf_57:gQ ⟨96,8,[],[],[[0,3],[1002,4007]],[.tmp 3],false⟩:=gK
theorem tf_143:gQ ⟨106,9,[],[],[[2],[0,3008]],[.tmp 2],false⟩:=gK
theorem tf_71:gQ ⟨114,29,[(22,1)],[],[[1000001,5],[9010],[2003,11012],[5,11,13014],[2003,15016],[3,5,15,17019],[2,6,20024],[8,25],[7,26027],[7,26,28]],[.cell true 2 4,.tmp 5],false⟩:=gK
theorem tf_70:gQ ⟨116,39,[(38,1)],[],[[1000001,7],[8,13018],[19],[2004,9,20022],[7,9010,20,23028],[29],[2004,11,30032],[2,4,7,11,30,33036],[3,12,37038]],[.cell true 4 6,.tmp 7],false⟩:=gK
theorem tf_22:gQ ⟨155,100,[(28,1),(74,1),(82,1),(96,1)],[],[[1,5],[13016],[17],[],[21024],[8,25030],[10,31],[0,3,6007,9,18020,32033],[5,7,9,32,34037],[38],[18020,39],[42],[0,3,6,40041,43],[41,45],[3,6,40,44,46055],[12,56],[0,11,57058],[0,11,57,59067],[44,69],[0,3,6,40,68,70076],[68,78],[0,3,6,40,77,79084],[40,77,86],[0,3,6,85,87098],[0,3,6,85,99]],[.cell true 2 4,.tmp 5],false⟩:=gK
theorem tf_23:gQ ⟨156,90,[(26,1),(86,1)],[],[[1],[10013],[14],[],[18021],[6007,22027],[28],[15017,29],[32],[0,3,5,30031,33035],[31,37],[3,5,9,30,36,38047],[0,8,48055],[36,57],[0,3,5,30,56,58066],[56,68],[0,3,5,30,67,69074],[30,67,76],[0,3,5,75,77086],[0,3,5,75,87089]],[.cell true 4 4],false⟩:=gK
theorem tf_95:gQ ⟨183,6,[],[],[[1000001,4],[2003,5]],[.tmp 4],false⟩:=gK
theorem tf_74:gQ ⟨184,9,[],[],[[],[0,3008]],[.cell true 4 2],false⟩:=gK
theorem tf_88:gQ ⟨185,7,[],[],[[],[0,3006]],[.cell true 4 2],false⟩:=gK
theorem tf_94:gQ ⟨186,11,[],[],[[2],[],[0,4],[6],[7009],[3,5,10]],[.tmp 2],false⟩:=gK
theorem tf_76:gQ ⟨187,17,[],[],[[],[4007],[0,3,8016]],[.cell true 4 2],false⟩:=gK
theorem tf_97:gQ ⟨188,22,[],[],[[],[5],[],[7010],[4,11014],[0,3,6,15019],[0,6,20021]],[.cell true 4 2],false⟩:=gK
theorem tf_73:gQ ⟨189,20,[],[],[[4],[],[7],[],[9011],[12013],[1000001,5006,8,14015],[4,6,14,16017],[1000001,5,8,18019]],[.tmp 4],false⟩:=gK
theorem tf_77:gQ ⟨190,20,[],[],[[],[4007],[0,3,8019]],[.cell true 4 2],false⟩:=gK
theorem tf_78:gQ ⟨191,17,[],[],[[],[4007],[0,3,8016]],[.cell true 4 2],false⟩:=gK
theorem tf_79:gQ ⟨192,13,[],[],[[],[0,3012]],[.cell true 4 2],false⟩:=gK
theorem tf_85:gQ ⟨193,15,[],[],[[4],[1,6008],[9],[0,5,10],[0,5,10014]],[.tmp 4],false⟩:=gK
theorem tf_80:gQ ⟨194,9,[],[],[[],[0,3008]],[.cell true 4 2],false⟩:=gK
theorem tf_81:gQ ⟨196,9,[],[],[[],[0,3008]],[.cell true 4 2],false⟩:=gK
theorem tf_84:gQ ⟨198,19,[(12,1)],[],[[3],[4013],[0,14015],[0,14,16018]],[.cell true 2 2,.tmp 3],false⟩:=gK
theorem tf_82:gQ ⟨199,14,[],[],[[],[3006],[0,7010],[0,7,11013]],[.cell true 4 2],false⟩:=gK
theorem tf_83:gQ ⟨200,13,[],[],[[],[0,3012]],[.cell true 4 2],false⟩:=gK
theorem tf_75:gQ ⟨201,13,[],[],[[],[0,3012]],[.cell true 4 2],false⟩:=gK
theorem tf_90:gQ ⟨202,16,[],[],[[2],[0],[5],[6],[7],[8],[9],[3004,10011],[3004,13],[12,14015],[12]],[.tmp 2],false⟩:=gK
theorem tf_86:gQ ⟨203,22,[(15,0),(16,0)],[],[[0],[],[6],[],[10012],[5,13017],[18],[3,7009,19020],[1,21]],[.cell true 4 2],false⟩:=gK
theorem tf_89:gQ ⟨204,55,[],[],[[1002],[],[9],[8,11],[10,13],[12,15],[16],[7,14,18],[0,17,19022],[4005,23028],[4005,29034],[0,4005,35041],[4005,42047],[0,4005,48051],[52053],[52,54]],[.cell true 4 6],false⟩:=gK
theorem tf_96:gQ ⟨216,26,[],[],[[5],[0],[],[11014],[6007,15020],[1002,8010,21022],[5,21,23],[1002,8010,24025]],[.cell true 2 4,.tmp 5],false⟩:=gK
theorem tf_72:gQ ⟨221,24,[],[],[[2],[0,3023]],[.tmp 2],false⟩:=gK
theorem tf_91:gQ ⟨222,7,[(6,1)],[],[[3],[0,4006]],[.cell true 2 2,.tmp 3],false⟩:=gK
theorem tf_92:gQ ⟨223,27,[],[],[[4],[5017],[1000001,18021],[1000001,4,18,22025],[26],[26]],[.tmp 4],false⟩:=gK
theorem tf_93:gQ ⟨224,17,[],[],[[6],[7],[1000002,8],[0,6,8009],[1002,10013],[1002,10,14016]],[.tmp 6],false⟩:=gK
theorem tf_87:gQ ⟨225,28,[],[],[[4],[0],[7],[6,9],[8,11],[10,13],[5,12,15],[14,16],[1,17],[1,17019],[4,20],[1,21],[1,21023],[1,24025],[1,26027]],[.tmp 4],false⟩:=gK
noncomputable def funcs:Nat→Option SFunc
 |_=>none
end Go.Sh.Cd6
end

section
namespace Go.Proofs.YtpmlapgbmgbilaaGreatDoor
open Go Go.RowKit Go.Mor Go.Sh Go.Sh.Cd1 Go.Sh.Cd6
def flR1(f:Fld):List PV:=[.v (.string (str f.n)),.v (.int .i64 f.t.k),.v (.int .i64 f.t.o),.v (.bool f.ix)]
def flR(l:List Fld):List (List PV):=l.map flR1
def flT(f:Fld):TV:=.agg [S (str f.n),I f.t.k,I f.t.o,.pv (.v (.bool f.ix))]
def clT(c:Cls):TV:=.agg [S (str c.n),.pv (.sl 4 (flR c.fs))]
theorem zj0(l:List Fld)(k:Nat):(flR l)[k]?=(l[k]?).map flR1:=by unfold flR;rw[List.getElem?_map]
theorem z2e(l:List Fld):(flR l).length=l.length:=by unfold flR;rw[List.length_map]
theorem clV:(type_of% @zj0)∧(type_of% @z2e)∧(type_of% @flR1.eq_1)∧(type_of% @flT.eq_1)∧(type_of% @clT.eq_1):=⟨@zj0,@z2e,@flR1.eq_1,@flT.eq_1,@clT.eq_1⟩
def z0B(s:zB):Prop:=s.length<4611686018427387904
structure ClsOk(c:Cls):Prop where
 n:z0B c.n
 fs:∀f∈c.fs,z0B f.n
 len:c.fs.length≤4611686018427387904
theorem z8k(g:Sh.Glob)(t:Ty):zC g 76 [tyT t] [] (B (zi t)) []:=by
 refine za tf_59 ?_;obtain⟨k,o⟩:=t;unfold B;simp only[vW,seval];unfold zi
 repeat' (first|(apply And.intro)|(intro _))
 all_goals(first|(simp_all;done)|(simp_all;omega))
theorem zl2(g:Sh.Glob)(f:Fld)(s:zB):zC g 96 [flT f,.ptr 1000 0] [.box [S (str s)]] (B (f.n==s)) [.box [S (str s)]]:=by
 refine zj tf_57 ?_;unfold B;simp only[vW,seval,clV]
theorem zgU(g:Sh.Glob)(l:List Fld)(s:zB)(hl:l.length≤maxLen):zC g 95 [.pv (.sl 4 (flR l)),.fn (.func 96) [] [.ptr 1000 0]] [.box [S (str s)]] (I (fieldAt l s)) [.box [S (str s)]]:=by
 refine zj tf_190 ?_;have hm:maxLen=9223372036854775807:=rfl;simp only[vW,seval,clV];refine zk (σ:={i:Nat // i≤l.length∧∀j x,j<i→l[j]?=some x→(x.n==s)=false}) (fun i=>⟨[(0,.pv (.sl 4 (flR l))),(1,.fn (.func 96) [] [.ptr 1000 0]),(7,I (l.length:Int)),(8,I (i.1:Int))],[(1000,[S (str s)])],[],[]⟩) (fun i=>l.length-i.1) ⟨0,Nat.zero_le _,fun j x hj=>by omega⟩ (z18 (by simp[I,S])) ?_;rintro⟨i,hi,hno⟩;by_cases hlt:i<l.length
 ·have d1:(i:Int)<(l.length:Int):=by omega
  obtain⟨x,ex⟩:∃x,l[i]?=some x:=⟨_,gE hlt⟩
  have HN:=zl2 g x s;have w1:=wS i;unfold flT B at HN;simp only[vW,seval,d1,ex,clV];(with_reducible apply zr);exact kv;exact HN;rfl;exact kv;cases hp:(x.n==s)
  ·simp only[vW,seval,w1];refine zc ⟨i+1,by omega,fun j y hj hy=> ?_⟩ (by show l.length-(i+1)<l.length-i;omega) ?_
   ·by_cases hji:j=i
    ·subst hji;rw[ex]at hy;cases hy;exact hp
    ·exact hno j y (by omega) hy
   ·exact lwA
  ·simp only[vW,seval];unfold fieldAt;rw[z3k (fun f=>f.n==s) l i hno x ex hp]
 ·have d1:¬(i:Int)<(l.length:Int):=by omega
  simp only[vW,seval,d1];unfold fieldAt;rw[z3l (fun f=>f.n==s) l (fun x hx=>by
   obtain⟨j,hj⟩:=List.getElem?_of_mem hx;exact hno j x (by have:=(gJ hj).1;omega) hj)]
def z29(l:List Fld)(s:zB):TV:=if fieldAt l s<0 then .tuple [I 0,B false] else .tuple [I (fieldAt l s),B true]
theorem z65(g:Sh.Glob)(c:Cls)(s:zB)(hl:c.fs.length≤4611686018427387904):zC g 67 [clT c,S (str s)] [] (z29 c.fs s) []:=by
 have HI:=zgU g c.fs s (by unfold maxLen;omega);unfold z29;refine za tf_56 ?_;by_cases h:fieldAt c.fs s<0
 ·rw[if_pos h];simp only[vW,seval,clV];refine z7 HI ?_;simp only[vW,seval,h,B]
 ·rw[if_neg h];simp only[vW,seval,clV];refine z7 HI ?_;simp only[vW,seval,h,B]
theorem zec(g:Sh.Glob)(f:Fld)(hf:z0B f.n):zC g 66 [flT f] [] (B (zD f)) []:=by
 have HN:=z6f g f.n hf;have HT:=z8k g f.t;unfold zD;refine za tf_63 ?_;unfold B at*;simp only[vW,seval,clV];refine z7 HN ?_;cases h1:zb f.n
 ·simp only[vW,seval]
 ·simp only[vW,seval];refine z7 HT ?_;cases h2:zi f.t
  ·simp only[vW,seval]
  ·cases h3:f.ix
   ·simp only[vW,seval,h3];rfl
   ·simp only[vW,seval,h3]
theorem z8S{all:List Fld}{k:Nat}{f:Fld}{r:List Fld}:z36 all k (f::r)=(zD f&&fieldAt all f.n==k&&z36 all (k+1) r):=rfl
theorem zgP{l:List Fld}{f:Fld}(h:f∈l):¬fieldAt l f.n<0:=by
 unfold fieldAt;rw[z5f];intro hn;have:=hn f h;simp at this
theorem z0k(g:Sh.Glob)(c:Cls)(hc:ClsOk c):zC g 37 [clT c] [] (B (zd c)) []:=by
 have HN:=z6f g c.n hc.n;have hlen:=hc.len;obtain⟨R,hR⟩:∃R,zd c=R:=⟨_,rfl⟩
 rw[hR];unfold zd at hR;refine za tf_58 ?_;unfold B at*;simp only[vW,seval,clV];refine z7 HN ?_;cases h1:zb c.n
 ·rw[h1]at hR;subst hR;simp only[vW,seval]
 rw[h1,Bool.true_and]at hR;by_cases h8:c.fs.length≤8
 ·rw[decide_eq_true h8,Bool.true_and]at hR;have d8:¬(8:Int)<(c.fs.length:Int):=by omega
  simp only[vW,seval,d8,clV];refine zk (σ:={k:Nat // k≤c.fs.length∧z36 c.fs k (c.fs.drop k)=R}) (fun k=>⟨[(18,.pv (.sl 4 (flR c.fs))),(19,I (c.fs.length:Int)),(20,I (k.1:Int)),(1,.ptr 1 0)],[(1,[S (str c.n),.pv (.sl 4 (flR c.fs))])],[],[]⟩) (fun k=>c.fs.length-k.1) ⟨0,Nat.zero_le _,by simpa using hR⟩ ?_ ?_
  ·exact lwA
  rintro⟨k,hk,hT⟩;by_cases hlt:k<c.fs.length
  ·have d1:(k:Int)<(c.fs.length:Int):=by omega
   obtain⟨f,ef⟩:∃f,c.fs[k]?=some f:=⟨_,gE hlt⟩
   have hmem:=gM ef;have HF:=zec g f (hc.fs f hmem);have HA:=z65 g c f.n hlen;have hne:=zgP hmem;have w1:=wS k;have hdr:c.fs.drop k=f::c.fs.drop (k+1):=by
    rw[List.drop_eq_getElem_cons hlt];congr 1;rw[gE hlt]at ef;exact Option.some.inj ef
   rw[hdr,z8S]at hT;unfold z29 at HA;rw[if_neg hne]at HA;unfold flT clT B at*;simp only[vW,seval,d1,ef,clV];refine z7 HF ?_;cases h2:zD f
   ·rw[h2]at hT;subst hT;simp only[vW,seval]
   rw[h2,Bool.true_and]at hT;simp only[vW,seval];refine z7 HA ?_;by_cases hat:fieldAt c.fs f.n=(k:Int)
   ·have hb:(fieldAt c.fs f.n==(k:Int))=true:=by simpa using hat
    rw[hb,Bool.true_and]at hT;simp only[vW,seval,hat,w1];refine zc ⟨k+1,hlt,hT⟩ (by show c.fs.length-(k+1)<c.fs.length-k;omega) ?_;exact lwA
   ·have hb:(fieldAt c.fs f.n==(k:Int))=false:=by simpa using hat
    rw[hb]at hT;subst hT;simp only[vW,seval,hat]
  ·have d1:¬(k:Int)<(c.fs.length:Int):=by omega
   have hdr:c.fs.drop k=[]:=List.drop_eq_nil_of_le (by omega);rw[hdr]at hT;simp only[vW,seval,d1];rw[←hT];rfl
 ·rw[decide_eq_false h8]at hR;subst hR;have d8:(8:Int)<(c.fs.length:Int):=by omega
  simp only[vW,seval,d8,clV]
def z62(r:Int×Int):TV:=.tuple [I r.1,I r.2]
theorem z5y(m:Nat)(c:Cls)(vs:List V)(hc:ClsOk c)(hv:∀x∈vs,VOk x∧x.l.length≤maxLen)(hl:vs.length≤4611686018427387904):zC (gl0 m) 80 [clT c,.pv (.sl 4 (V.rows vs))] [] (z62 (check c vs)) []:=by
 have HR:=z0k (gl0 m) c hc;have hlen:=hc.len;obtain⟨R,hR⟩:∃R,check c vs=R:=⟨_,rfl⟩
 rw[hR];unfold check at hR;refine za tf_53 ?_;unfold z62 clT B at*;simp only[vW,seval,clV];refine z7 HR ?_;cases h1:zd c
 ·rw[h1]at hR;simp at hR;subst hR;simp only[vW,seval]
 rw[h1]at hR;simp only[Bool.not_true,Bool.false_eq_true,if_false]at hR;by_cases h2:vs.length=c.fs.length
 ·have d2:(vs.length:Int)=(c.fs.length:Int):=by omega
  rw[if_neg (by simpa using h2)]at hR;simp only[vW,seval,d2,clV];refine zk (σ:={k:Nat // k≤c.fs.length∧z2L k (c.fs.drop k) (vs.drop k)=R}) (fun k=>⟨[(1,.pv (.sl 4 (V.rows vs))),(24,.pv (.sl 4 (flR c.fs))),(25,I (c.fs.length:Int)),(26,I (k.1:Int))],[(2,[S (str c.n),.pv (.sl 4 (flR c.fs))])],[],[]⟩) (fun k=>c.fs.length-k.1) ⟨0,Nat.zero_le _,by simpa using hR⟩ ?_ ?_
  ·exact lwA
  rintro⟨k,hk,hT⟩;by_cases hlt:k<c.fs.length
  ·have d1:(k:Int)<(c.fs.length:Int):=by omega
   obtain⟨f,ef⟩:∃f,c.fs[k]?=some f:=⟨_,gE hlt⟩
   have hlt2:k<vs.length:=by omega
   obtain⟨v,ev⟩:∃v,vs[k]?=some v:=⟨_,gE hlt2⟩
   obtain⟨hv1,hv2⟩:=hv v (gM ev);have HF:=znA m v f.t hv1 hv2;have w1:=wS k;have hdr:c.fs.drop k=f::c.fs.drop (k+1):=by
    rw[List.drop_eq_getElem_cons hlt];congr 1;rw[gE hlt]at ef;exact Option.some.inj ef
   have hdv:vs.drop k=v::vs.drop (k+1):=by
    rw[List.drop_eq_getElem_cons hlt2];congr 1;rw[gE hlt2]at ev;exact Option.some.inj ev
   rw[hdr,hdv,z2L]at hT;unfold B at HF;simp only[vW,seval,d1,ef,ev,clV];refine z7 HF ?_;cases h3:zJ v f.t
   ·rw[h3]at hT;simp only[Bool.false_eq_true,if_false]at hT;subst hT;simp only[vW,seval]
   ·rw[h3]at hT;simp only[if_true]at hT;simp only[vW,seval,w1];refine zc ⟨k+1,hlt,hT⟩ (by show c.fs.length-(k+1)<c.fs.length-k;omega) ?_;exact lwA
  ·have d1:¬(k:Int)<(c.fs.length:Int):=by omega
   have hdr:c.fs.drop k=[]:=List.drop_eq_nil_of_le (by omega);rw[hdr,z2L]at hT;subst hT;simp only[vW,seval,d1]
 ·have d2:¬(vs.length:Int)=(c.fs.length:Int):=by omega
  rw[if_pos h2]at hR;subst hR;have hmin:min (vs.length:Int) (c.fs.length:Int)=((min vs.length c.fs.length:Nat):Int):=by omega
  simp only[vW,seval,d2,hmin,clV]
theorem z3U(g:Sh.Glob)(c:Cls)(s:zB)(hl:c.fs.length≤4611686018427387904):zC g 36 [clT c,S (str s)] [] (z29 c.fs s) []:=by
 unfold z29;refine za tf_139 ?_;simp only[vW,seval,clV];refine zk (σ:={i:Nat // i≤c.fs.length∧∀j x,j<i→c.fs[j]?=some x→(x.n==s)=false}) (fun i=>⟨[(1,S (str s)),(6,I (i.1:Int)),(2,.ptr 2 0)],[(2,[S (str c.n),.pv (.sl 4 (flR c.fs))])],[],[]⟩) (fun i=>c.fs.length-i.1) ⟨0,Nat.zero_le _,fun j x hj=>by omega⟩ ?_ ?_
 ·exact lwA
 rintro⟨i,hi,hno⟩;by_cases hlt:i<c.fs.length
 ·have d1:(i:Int)<(c.fs.length:Int):=by omega
  obtain⟨x,ex⟩:∃x,c.fs[i]?=some x:=⟨_,gE hlt⟩
  have w1:=wS i;cases hp:(x.n==s)
  ·simp only[vW,seval,d1,ex,hp,w1,clV];refine zc ⟨i+1,by omega,fun j y hj hy=> ?_⟩ (by show c.fs.length-(i+1)<c.fs.length-i;omega) ?_
   ·by_cases hji:j=i
    ·subst hji;rw[ex]at hy;cases hy;exact hp
    ·exact hno j y (by omega) hy
   ·exact lwA
  ·have hf:fieldAt c.fs s=(i:Int):=z3k (fun f:Fld=>f.n==s) c.fs i hno x ex hp;rw[hf,if_neg (by omega)];simp only[vW,seval,d1,ex,hp,clV];rfl
 ·have d1:¬(i:Int)<(c.fs.length:Int):=by omega
  have hf:fieldAt c.fs s= -1:=z3l (fun f:Fld=>f.n==s) c.fs (fun x hx=>by
   obtain⟨j,hj⟩:=List.getElem?_of_mem hx;exact hno j x (by have:=(gJ hj).1;omega) hj)
  rw[hf,if_pos (by omega)];simp only[vW,seval,d1,clV];rfl
end Go.Proofs.YtpmlapgbmgbilaaGreatDoor
end

section
namespace Go.Mor
open Go
theorem z2M{l:zB}(h:l≠[]):1≤(Lib.decodeL l).2∧(Lib.decodeL l).2≤l.length:=by
 grind [Lib.decodeL_width,Lib.decodeL_le]
theorem ziJ:∀(f:Nat) (l:zB) (a:Nat),l.length≤f→z4y f l a=z4y l.length l a:=by
 intro f
 induction f using Nat.strongRecOn with
 |_ f ih=>
  intro l a hl;cases f with
  |zero=>grind
  |succ f=>
   by_cases h:l=[]
   ·grind [z4y]
   ·obtain⟨n,hn⟩:∃n,l.length=n+1:=⟨l.length-1,by have:=List.length_pos_iff.2 h;omega⟩
    grind [z2M,Lib.decodeL,List.length_drop,z4y]
def zcE(l:zB)(a:Nat):Nat:=z4y l.length l a
theorem zkM(l:zB)(a:Nat):zcE l a=if l=[] then a else if 60<(a:Int)+Lib.runeLen ((Lib.decodeL l).1:Int)then a else zcE (l.drop (Lib.decodeL l).2) (a+(Lib.decodeL l).2):=by
 unfold zcE;by_cases h:l=[]
 ·subst h;rfl
 ·obtain⟨n,hn⟩:∃n,l.length=n+1:=⟨l.length-1,by have:=List.length_pos_iff.2 h;omega⟩
  grind [z2M,Lib.decodeL,List.length_drop,z4y,ziJ]
theorem zrh(s:zB):z5z s=s.take (zcE s 0):=rfl
theorem zgf:∀(f:Nat) (l:zB),l.length≤f→z57 f l=z57 l.length l:=by
 intro f
 induction f using Nat.strongRecOn with
 |_ f ih=>
  intro l hl;cases f with
  |zero=>grind
  |succ f=>
   by_cases h:l=[]
   ·grind [z57]
   ·obtain⟨n,hn⟩:∃n,l.length=n+1:=⟨l.length-1,by have:=List.length_pos_iff.2 h;omega⟩
    grind [z2M,Lib.decodeL,List.length_drop,z57]
theorem zcl(l:zB):z16 l=if l=[] then 0 else z16 (l.drop (Lib.decodeL l).2)+1:=by
 unfold z16;by_cases h:l=[]
 ·subst h;rfl
 ·obtain⟨n,hn⟩:∃n,l.length=n+1:=⟨l.length-1,by have:=List.length_pos_iff.2 h;omega⟩
  grind [z2M,Lib.decodeL,List.length_drop,z57,zgf]
theorem zgg:∀(n:Nat) (l:zB),l.length≤n→z16 l≤l.length:=by
 intro n
 induction n using Nat.strongRecOn with
 |_ n ih=>
  intro l hl;rw[zcl];split
  ·omega
  ·rename_i h;have hd:=z2M h;have h1:(l.drop (Lib.decodeL l).2).length<n:=by grind
   grind
theorem ziz:∀(f:Nat) (l:zB) (a k:Nat) (n:Int),l.length≤f→z4w f l a k n=z4w l.length l a k n:=by
 intro f
 induction f using Nat.strongRecOn with
 |_ f ih=>
  intro l a k m hl;cases f with
  |zero=>grind
  |succ f=>
   by_cases h:l=[]
   ·grind [z4w]
   ·obtain⟨n,hn⟩:∃n,l.length=n+1:=⟨l.length-1,by have:=List.length_pos_iff.2 h;omega⟩
    grind [z2M,Lib.decodeL,List.length_drop,z4w]
def zaD(l:zB)(a k:Nat)(n:Int):Nat:=z4w l.length l a k n
theorem zda(l:zB)(a k:Nat)(m:Int):zaD l a k m=if l=[] then a else if m≤(k:Int)then a else zaD (l.drop (Lib.decodeL l).2) (a+(Lib.decodeL l).2) (k+1) m:=by
 unfold zaD;by_cases h:l=[]
 ·subst h;rfl
 ·obtain⟨n,hn⟩:∃n,l.length=n+1:=⟨l.length-1,by have:=List.length_pos_iff.2 h;omega⟩
  grind [z2M,Lib.decodeL,List.length_drop,z4w,ziz]
theorem zkv(s:zB)(n:Int):z1W s n=zaD s 0 0 n:=rfl
theorem zpD:∀(n:Nat) (l:zB) (a k:Nat) (m:Int),l.length≤n→a≤zaD l a k m∧zaD l a k m≤a+l.length:=by
 intro n
 induction n using Nat.strongRecOn with
 |_ n ih=>
  intro l a k m hl;rw[zda];split
  ·omega
  ·rename_i h;have hd:=z2M h;split
   ·omega
   ·have h1:(l.drop (Lib.decodeL l).2).length<n:=by rw[List.length_drop];omega
    have h2:=ih _ h1 (l.drop (Lib.decodeL l).2) (a+(Lib.decodeL l).2) (k+1) m (Nat.le_refl _);rw[List.length_drop]at h2;omega
theorem zcA(s:zB)(n:Int):z1W s n≤s.length:=by
 have:=(zpD _ s 0 0 n (Nat.le_refl _)).2;rw[zkv];omega
end Go.Mor
end
