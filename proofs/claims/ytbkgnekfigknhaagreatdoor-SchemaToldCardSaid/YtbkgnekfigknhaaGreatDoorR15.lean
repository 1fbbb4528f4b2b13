/- Merged texts: Zv2 PWire PWire2 PWire3 PClass Px1 Ze1 Cd5 Px2. No statement of the program is proved here. -/
import Derived.Test.YtbkgnekfigknhaaGreatDoorR14
import Derived.Lib.ItoaNum
import Derived.Lib.Join
set_option linter.unusedSimpArgs false
set_option linter.unusedVariables false
set_option maxRecDepth 100000
set_option maxHeartbeats 8000000
section
namespace Go.Proofs.YtbkgnekfigknhaaGreatDoor
open Go Go.RowKit Go.Mor Go.Sh Go.Sh.Cd1
theorem zj3(m:Nat)(x:V)(hs:z1w x):zC (gl0 m) 132 [tv x] [] (B (z36 x)) []:=by
 refine za tf_196 ?_;unfold z36 B;by_cases k5:x.k=5
 ·have h:(x.k==5)=true:=by simp[k5]
  have d:decide (x.k=5)=true:=by simp[k5]
  simp only[vW,seval,d,h];rfl
 ·have HR:=zbX m x hs k5;have h:(x.k==5)=false:=by simpa using k5
  unfold B at HR;simp only[vW,seval,k5,h];exact zd HR
theorem z3m{α:Type}(p:α→Bool):∀(l:List α) (i:Nat),(∀j x,j<i→l[j]?=some x→p x=false)→∀x,l[i]?=some x→p x=true→z0R p l=i
 |[],i,_,x,hx,_=>by simp at hx
 |a::l,0,_,x,hx,hp=>by simp at hx;subst hx;simp[z0R,List.findIdx?_cons,hp]
 |a::l,i+1,h,x,hx,hp=>by
  have h0:=h 0 a (by omega) rfl;have:=z3m p l i (fun j y hj hy=>h (j+1) y (by omega) (by simpa using hy)) x (by simpa using hx) hp;unfold z0R at this ⊢;rw[List.findIdx?_cons,h0];cases hf:l.findIdx? p with
  |none=>rw[hf]at this;simp only at this;omega
  |some q=>rw[hf]at this;simp only at this ⊢;simp;omega
theorem z3n{α:Type}(p:α→Bool)(l:List α)(h:∀x∈l,p x=false):z0R p l= -1:=by
 have:l.findIdx? p=none:=List.findIdx?_eq_none_iff.2 h;unfold z0R;rw[this]
theorem za9{α:Type}(p:α→Bool)(l:List α):decide (0≤z0R p l)=l.any p:=by
 rw[Bool.eq_iff_iff,decide_eq_true_eq,List.any_eq_true];constructor
 ·intro h;by_cases hn:∀x∈l,p x=false
  ·rw[z3n p l hn]at h;omega
  ·obtain⟨x,hx⟩:=Classical.not_forall.1 hn;obtain⟨hx,hp⟩:=Classical.not_imp.1 hx;exact⟨x,hx,by simpa using hp⟩
 ·rintro⟨x,hx,hp⟩;unfold z0R;cases hf:l.findIdx? p with
  |none=>rw[List.findIdx?_eq_none_iff.1 hf x hx]at hp;cases hp
  |some i=>simp
theorem ziR(m:Nat)(l:List V)(hl:l.length≤maxLen)(hs:∀x∈l,z1w x):zC (gl0 m) 133 [.pv (.sl 4 (V.rows l)),.pv (.v (.func (.func 132) #[] #[]))] [] (I (z0R z36 l)) []:=by
 refine za tf_187 ?_;have hm:maxLen=9223372036854775807:=rfl;simp only[vW,seval];refine zp (σ:={i:Nat // i≤l.length∧∀j x,j<i→l[j]?=some x→z36 x=false}) (fun i=>⟨[(0,.pv (.sl 4 (V.rows l))),(1,.pv (.v (.func (.func 132) #[] #[]))),(7,I (l.length:Int)),(8,I (i.1:Int))],[],[],[]⟩) (fun i=>l.length-i.1) ⟨0,Nat.zero_le _,fun j x hj=>by omega⟩ (z0M (by simp[I])) ?_;rintro⟨i,hi,hno⟩;by_cases hlt:i<l.length
 ·have d1:(i:Int)<(l.length:Int):=by omega
  obtain⟨x,ex⟩:∃x,l[i]?=some x:=⟨_,gE hlt⟩
  have HN:=zj3 m x (hs x (gM ex));have w1:=wS i;unfold tv B at HN;simp only[vW,seval,d1,ex];(with_reducible apply zG);exact kv;exact HN;rfl;exact kv;cases hp:z36 x
  ·simp only[vW,seval,w1];refine zc ⟨i+1,by omega,fun j y hj hy=> ?_⟩ (by show l.length-(i+1)<l.length-i;omega) ?_
   ·by_cases hji:j=i
    ·subst hji;rw[ex]at hy;cases hy;exact hp
    ·exact hno j y (by omega) hy
   ·exact lwA
  ·simp only[vW,seval];rw[z3m z36 l i hno x ex hp]
 ·have d1:¬(i:Int)<(l.length:Int):=by omega
  simp only[vW,seval,d1];rw[z3n z36 l (fun x hx=>by
   obtain⟨j,hj⟩:=List.getElem?_of_mem hx;exact hno j x (by have:=(gJ hj).1;omega) hj)]
theorem zdY(m:Nat)(l:List V)(hl:l.length≤maxLen)(hs:∀x∈l,z1w x):zC (gl0 m) 77 [.pv (.sl 4 (V.rows l)),.pv (.v (.func (.func 132) #[] #[]))] [] (B (l.any z36)) []:=by
 refine za tf_182 ?_;have HI:=ziR m l hl hs;rw[←za9];unfold B;simp only[vW,seval];exact zd HI
theorem zbZ(m:Nat)(x:V)(hx:VOk x):zC (gl0 m) 74 [tv x] [] (B (z1f x)) []:=by
 unfold z1f;by_cases k5:x.k=5
 ·rw[if_pos k5];obtain⟨k,n,s,l⟩:=x;simp only[Vk]at k5;subst k5;simp only[Vn,Vs,Vl];refine za tf_192 ?_;unfold B;by_cases n0:n=0
  ·subst n0;cases hs:s==[]
   ·simp only[vW,seval,e0,hs]
   ·by_cases h12:l.length≤12
    ·have d1:(l.length:Int)≤12:=by omega
     have HC:=zdY m l (by unfold maxLen;omega) (fun y hy=>hx.2 y hy);unfold B at HC;simp only[vW,seval,e0,hs,d1,h12];exact zd HC
    ·have d1:¬(l.length:Int)≤12:=by omega
     simp only[vW,seval,e0,hs,d1,h12]
  ·have hn0:(n==0)=false:=by simpa using n0
   simp only[vW,seval,n0,hn0]
 ·rw[if_neg k5];exact zbX m x hx.1 k5
theorem z9b(g:Sh.Glob)(t:Ty):zC g 75 [tyT t] [] (B (zg t)) []:=by
 refine za tf_201 ?_;obtain⟨k,o⟩:=t;unfold B;simp only[vW,seval];unfold zg
 repeat' (first|(apply And.intro)|(intro _))
 all_goals(first|(simp_all;done)|(simp_all;omega))
theorem zdw(g:Sh.Glob)(x:V)(k:Int):zC g 76 [tv x,I k] [] (B (z0U x k)) []:=by
 refine za tf_197 ?_;unfold B;simp only[vW,seval];unfold z0U
 repeat' (first|(apply And.intro)|(intro _))
 all_goals(first|(simp_all;done)|(simp only[Option.some.injEq,TV.pv.injEq,PV.v.injEq,Value.bool.injEq];rw[Bool.eq_iff_iff];simp_all;done)|(simp only[Option.some.injEq,TV.pv.injEq,PV.v.injEq,Value.bool.injEq];rw[Bool.eq_iff_iff];simp_all;omega))
theorem zmZ(g:Sh.Glob)(x:V)(t:Ty):zC g 78 [tv x,.ptr 1000 0] [.box [I t.k,I t.o]] (B (!z0U x t.o)) [.box [I t.k,I t.o]]:=by
 refine zo tf_191 ?_;have HK:=zdw g x t.o;unfold B at*;simp only[vW,seval];exact zd HK
theorem zfh(g:Sh.Glob)(l:List V)(t:Ty)(hl:l.length≤maxLen):zC g 133 [.pv (.sl 4 (V.rows l)),.fn (.func 78) [] [.ptr 1000 0]] [.box [I t.k,I t.o]] (I (z0R (fun y=> !z0U y t.o) l)) [.box [I t.k,I t.o]]:=by
 refine zo tf_187 ?_;have hm:maxLen=9223372036854775807:=rfl;simp only[vW,seval];refine zp (σ:={i:Nat // i≤l.length∧∀j x,j<i→l[j]?=some x→(!z0U x t.o)=false}) (fun i=>⟨[(0,.pv (.sl 4 (V.rows l))),(1,.fn (.func 78) [] [.ptr 1000 0]),(7,I (l.length:Int)),(8,I (i.1:Int))],[(1000,[I t.k,I t.o])],[],[]⟩) (fun i=>l.length-i.1) ⟨0,Nat.zero_le _,fun j x hj=>by omega⟩ (z0M (by simp[I])) ?_;rintro⟨i,hi,hno⟩;by_cases hlt:i<l.length
 ·have d1:(i:Int)<(l.length:Int):=by omega
  obtain⟨x,ex⟩:∃x,l[i]?=some x:=⟨_,gE hlt⟩
  have HN:=zmZ g x t;have w1:=wS i;unfold tv B at HN;simp only[vW,seval,d1,ex];(with_reducible apply zG);exact kv;exact HN;rfl;exact kv;cases hp:z0U x t.o
  ·simp only[vW,seval];rw[z3m (fun y=> !z0U y t.o) l i hno x ex (by simp[hp])]
  ·simp only[vW,seval,w1];refine zc ⟨i+1,by omega,fun j y hj hy=> ?_⟩ (by show l.length-(i+1)<l.length-i;omega) ?_
   ·by_cases hji:j=i
    ·subst hji;rw[ex]at hy;cases hy;simp[hp]
    ·exact hno j y (by omega) hy
   ·exact lwA
 ·have d1:¬(i:Int)<(l.length:Int):=by omega
  simp only[vW,seval,d1];rw[z3n (fun y=> !z0U y t.o) l (fun x hx=>by
   obtain⟨j,hj⟩:=List.getElem?_of_mem hx;exact hno j x (by have:=(gJ hj).1;omega) hj)]
theorem zbq(g:Sh.Glob)(l:List V)(t:Ty)(hl:l.length≤maxLen):zC g 77 [.pv (.sl 4 (V.rows l)),.fn (.func 78) [] [.ptr 1000 0]] [.box [I t.k,I t.o]] (B (l.any fun y=> !z0U y t.o)) [.box [I t.k,I t.o]]:=by
 refine zo tf_182 ?_;have HI:=zfh g l t hl;rw[←za9];unfold B;simp only[vW,seval];exact zd HI
theorem zn0(m:Nat)(x:V)(t:Ty)(hx:VOk x)(hl:x.l.length≤maxLen):zC (gl0 m) 39 [tv x,tyT t] [] (B (zI x t)) []:=by
 refine za tf_190 ?_;have HR:=zbZ m x hx;have HT:=z9b (gl0 m) t;have HK:=zdw (gl0 m) x t.k;have HC:=zbq (gl0 m) x.l t hl;unfold zI B at*;simp only[vW,seval];refine z7 HR ?_;cases z1f x
 ·simp only[vW,seval]
 simp only[vW,seval];refine z7 HT ?_;cases zg t
 ·simp only[vW,seval]
 simp only[vW,seval];refine z7 HK ?_;cases z0U x t.k
 ·simp only[vW,seval]
 simp only[vW,seval];exact zd HC
end Go.Proofs.YtbkgnekfigknhaaGreatDoor
end

section
namespace Go.Mor
def mag(n:Int):Nat:=if n<0 then(-1-n).toNat else n.toNat
def sgn(n:Int):Nat:=if n<0 then 1 else 0
def zpf:Nat→Nat→zB
 |0,_=>[]
 |f+1,m=>if m=0 then [] else UInt8.ofNat (m%128)::zpf f (m / 128)
def zra(n:Int):zB:=UInt8.ofNat (mag n%64*2+sgn n)::zpf 9 (mag n / 64)
def zt4(l:zB):zB:=l.dropLast++(l.getLast?.map (·+128)).toList
def zth(l:zB):zB:=l.foldl (fun acc g=>zt4 acc++[g]) []
def num(n:Int):zB:=zth (zra n)
abbrev Ix:Type:=Fin 1125899906842624
def z8X:Nat→Nat×Nat→zB→Except Bool (Nat×Nat×Nat)
 |_,_,[]=> .error false
 |k,st,b::r=>
  if k≠0∧(b.toNat=0∨k=9∧1<b.toNat)then .error true else
  let g:=b.toNat%128
  let st':=if k=0 then(g / 2,g%2)else(st.1+g*2 ^ (7*k-1),st.2)
  if b.toNat<128 then .ok (st'.1,st'.2,k+1)else z8X (k+1) st' r
def zev(st:Nat×Nat)(x:Ix×UInt8):Nat×Nat:=
 if x.1.val=0 then(x.2.toNat%128 / 2,x.2.toNat%128%2)else(st.1+x.2.toNat%128*2 ^ (7*x.1.val-1),st.2)
def stM(pre:List (Ix×UInt8)):Nat×Nat:=pre.foldl zev (0,0)
def zbN(s:zB)(a:Nat):List (Ix×UInt8):=(s.drop a).zipIdx.map fun p=>(Fin.ofNat _ p.2,p.1)
theorem zfF(s:zB)(a:Nat):(zbN s a).length=s.length-a:=by simp[zbN]
theorem zlk(s:zB)(a k:Nat)(h:a+k<s.length):(zbN s a)[k]?=some (Fin.ofNat _ k,s[a+k]):=by
 simp[zbN,List.getElem?_drop,gE h]
def rd(s:zB)(a:Int):Except Bool (Int×Nat):=
 if 0≤a∧a<s.length then
  match z8X 0 (0,0) (s.drop a.toNat)with
  | .error e=> .error e
  | .ok (m,sg,z)=> .ok (if sg=1 then -1-(m:Int)else m,z)
 else .error false
def Begs(s:zB)(a:Nat)(pre:List (Ix×UInt8)):Prop:=pre<+:zbN s a
theorem Begs.last{s:zB}{a:Nat}{pre:List (Ix×UInt8)}{x:Ix×UInt8}(h:Begs s a (pre++[x]))(hs:s.length<1125899906842624):
  Begs s a pre∧x.1.val=pre.length∧∃hl:a+pre.length<s.length,x.2=s[a+pre.length]:=by
 have hg:Begs s a pre:=(List.prefix_append pre [x]).trans h;have hlen:=h.length_le;rw[zfF]at hlen;have h2:=List.prefix_iff_getElem?.1 h pre.length (by simp)
 grind [zlk]
structure Mid(s:zB)(a:Nat)(pre:List (Ix×UInt8))(m sg:Int):Prop where
 m:m=(stM pre).1
 sg:sg=(stM pre).2
 go:z8X 0 (0,0) (s.drop a)=z8X pre.length (stM pre) (s.drop (a+pre.length))
 lt:(stM pre).1<2 ^ (7*pre.length-1)
 le:pre.length≤9
section
open Go
theorem z22{s:zB}{i:Nat}(h:i<s.length):s.drop i=s[i]::s.drop (i+1):=by simp
theorem Mid.at{s:zB}{a:Nat}{pre:List (Ix×UInt8)}{x:Ix×UInt8}{m sg:Int}(hs:s.length<1125899906842624)(hM:Begs s a pre→Mid s a pre m sg)(hg:Begs s a (pre++[x])):
  Mid s a pre m sg∧x.1.val=pre.length∧z8X 0 (0,0) (s.drop a)=z8X pre.length (stM pre) (x.2::s.drop (a+(pre++[x]).length)):=by
 obtain⟨hg',hx,hl,hb⟩:=hg.last hs;have hm:=hM hg';refine⟨hm,hx,?_⟩;rw[hm.go,z22 hl,hb]
 grind
theorem Mid.ok{s:zB}{a:Nat}{pre:List (Ix×UInt8)}{x:Ix×UInt8}{m sg:Int}(hs:s.length<1125899906842624)(hM:Begs s a pre→Mid s a pre m sg)(hbad:¬(x.1.val≠0∧(x.2.toNat=0∨x.1.val=9∧1<x.2.toNat)))
  (hlo:x.2.toNat<128) (hg:Begs s a (pre++[x])):z8X 0 (0,0) (s.drop a)=.ok ((zev (stM pre) x).1,(zev (stM pre) x).2,x.1.val+1):=by
 obtain⟨hm,hx,hr⟩:=Mid.at hs hM hg;rw[hr,z8X,if_neg (by omega),←hx];simp only[hlo,if_true,zev]
end
def text(s:zB):zB:=num s.length++s
section
open Go Go.RowKit
structure Fld where
 n:zB
 t:Ty
 ix:Bool
structure Cls where
 n:zB
 fs:List Fld
def small(b:UInt8):Bool:=decide (97≤b.toNat∧b.toNat≤122)
def zJ(b:UInt8):Bool:=small b||decide (48≤b.toNat∧b.toNat≤57)||b.toNat==95
def zb(s:zB):Bool:=decide (1≤s.length∧s.length≤20)&&small (s.headD 0)&&s.all zJ
def zF(f:Fld):Bool:=zb f.n&&zg f.t&&(!f.ix||decide (f.t.k≤3))
def fieldAt(c:List Fld)(name:zB):Int:=z0R (fun f=>f.n==name) c
def z38(all:List Fld):Nat→List Fld→Bool
 |_,[]=>true
 |k,f::r=>zF f&&fieldAt all f.n==k&&z38 all (k+1) r
def ze(c:Cls):Bool:=zb c.n&&decide (c.fs.length≤8)&&z38 c.fs 0 c.fs
def zei(f g:Fld):Bool:=f.n==g.n&&f.t.k==g.t.k&&f.t.o==g.t.o&&f.ix==g.ix
def z3l:List Fld→List Fld→Bool
 |[],[]=>true
 |f::r,g::q=>zei f g&&z3l r q
 |_,_=>false
def z6F(a b:Cls):Bool:=a.n==b.n&&z3l a.fs b.fs
def z2C:Nat→List Fld→List V→Int×Int
 |_,[],_=>(0,0)
 |_,_,[]=>(0,0)
 |k,f::fs,v::vs=>if zI v f.t then z2C (k+1) fs vs else(k,42)
def check(c:Cls)(vs:List V):Int×Int:=
 if !ze c then(0,40)else if vs.length≠c.fs.length then((min vs.length c.fs.length:Nat),42)else z2C 0 c.fs vs
def IsF(ok:Nat→Prop)(w:World)(l:List Fld)(c:Value):Prop:=
 ∃(b off cap:Nat) (p:Option Addr),c=.slice p l.length cap∧l.length≤cap∧cap≤maxLen∧(l≠[]→p=some ⟨b,off,none⟩∧ok b)∧
  ∀(i:Nat) (f:Fld),l[i]?=some f→w.cell? ⟨b,off+i*4,none⟩=some (.string (str f.n))∧w.cell? ⟨b,off+i*4+1,none⟩=some (.int .i64 f.t.k)
   ∧w.cell? ⟨b,off+i*4+2,none⟩=some (.int .i64 f.t.o)∧w.cell? ⟨b,off+i*4+3,none⟩=some (.bool f.ix)
theorem IsF.keepBy{ok:Nat→Prop}{w w':World}{l:List Fld}{c:Value}(h:IsF ok w l c)(hk:∀a v,ok a.block→w.cell? a=some v→w'.cell? a=some v):IsF ok w' l c:=by
 obtain⟨b,off,cap,p,h1,h2,h3,h4,h5⟩:=h;refine⟨b,off,cap,p,h1,h2,h3,h4,fun i f hf=> ?_⟩
 grind
theorem IsF.ext{ok:Nat→Prop}{w w':World}{l:List Fld}{c:Value}(h:IsF ok w l c)(hb:Below w.heap.size w w'):IsF ok w' l c:=
 h.keepBy fun _ _ _ hv=>(hb.cell (z1d hv)).trans hv
theorem IsF.keep{ok:Nat→Prop}{w w':World}{l:List Fld}{c:Value}(h:IsF ok w l c)(hk:∀b,ok b→w'.heap[b]?=w.heap[b]?):IsF ok w' l c:=
 h.keepBy fun a _ ho hv=>(World.cell?_of_block (w:=w) (hk a.block ho)).trans hv
theorem IsF.weaken{ok ok':Nat→Prop}{w:World}{l:List Fld}{c:Value}(h:IsF ok w l c)(hk:∀b,ok b→ok' b):IsF ok' w l c:=by
 obtain⟨b,off,cap,p,h1,h2,h3,h4,h5⟩:=h;exact⟨b,off,cap,p,h1,h2,h3,fun hl=>⟨(h4 hl).1,hk _ (h4 hl).2⟩,h5⟩
theorem IsF.none_{ok:Nat→Prop}{w:World}:IsF ok w [] (.slice none 0 0):=⟨0,0,0,none,rfl,by simp,Nat.zero_le _,by simp,by simp⟩
end
section
open Go
def zf(s:zB):Int:=
 if s=[42]∨s=[47]∨s=[37] then 4 else if s=[43]∨s=[45] then 3 else if s=[38] then 2
 else if s=[61]∨s=[60,62]∨s=[60]∨s=[60,61]∨s=[62]∨s=[62,61] then 1 else 0
def zm(s:zB):Int:=
 if s=[108,101,110]∨s=[116,101,120,116]∨s=[110,117,109] then 1
 else if s=[108,101,102,116]∨s=[114,105,103,104,116]∨s=[102,114,111,109]∨s=[102,105,110,100]∨s=[109,105,110]∨s=[109,97,120] then 2
 else if s=[105,102] then 3 else 0
def z0p(e:V):Bool:=
 if e.k≠1∧e.n≠0 then false
 else if e.k=1 then decide (0≤e.n)&&decide (e.n≤1000000000000000)&&e.s==[]&&e.l.length==0
 else if e.k=2 then zi e.s&&e.l.length==0
 else if e.k=3 then zb e.s&&e.l.length==0
 else if e.k=4 then decide (0<zf e.s)&&e.l.length==2
 else if e.k=5 then e.s==[45]&&e.l.length==1
 else if e.k=6 then decide (0<zm e.s)&&decide ((e.l.length:Int)=zm e.s)
 else false
def okE:Nat→V→Bool
 |0,_=>false
 |d+1,e=>z0p e&&e.l.all (okE d)
def szE:Nat→V→Nat
 |0,_=>1
 |d+1,e=>1+(e.l.map (szE d)).sum
def z0b(e:V):Bool:=okE 8 e&&decide (szE 8 e≤40)
def z4c(s:zB):zB:=s.flatMap fun b=>if b=34∨b=92 then [92,b] else [b]
def brk(t:zB):zB:=40::(t++[41])
def z2r(e:V)(least:Int)(t:zB):zB:=if e.k=4∧zf e.s<least then brk t else t
def zy:Nat→V→zB
 |0,_=>[]
 |d+1,e=>
  if e.k=1 then Lib.itoa e.n
  else if e.k=2 then 34::(z4c e.s++[34])
  else if e.k=5 then 45::z2r (e.l.getD 0 V.nil) 5 (zy d (e.l.getD 0 V.nil))
  else if e.k=4 then z2r (e.l.getD 0 V.nil) (zf e.s) (zy d (e.l.getD 0 V.nil))++32::(e.s++32::z2r (e.l.getD 1 V.nil) (zf e.s+1) (zy d (e.l.getD 1 V.nil)))
  else if e.k=6 then e.s++40::(Lib.join (e.l.map (zy d)) [44,32]++[41])
  else e.s
structure Pc where
 k:Int
 n:Int
 s:zB
 p:Nat
def z0Q(b:UInt8):Bool:=decide (48≤b.toNat∧b.toNat≤57)
def z0v:zB→Int→Nat→Int×Nat
 |[],n,z=>(n,z)
 |b::r,n,z=>if z0Q b then z0v r (min (10*n+((b.toNat:Int) - 48)) 1000000000000001) (z+1)else(n,z)
def z0C:zB→Nat
 |[]=>0
 |b::r=>if zJ b then z0C r+1 else 0
def quoG:zB→zB→Nat→Option (zB×Nat)
 |[],_,_=>none
 |b::r,acc,k=>if b=34 then(if zi acc then some (acc,k+1)else none)
  else if b=92 then(match r with
   |[]=>none
   |c::r'=>if c=34∨c=92 then quoG r' (acc++[c]) (k+2)else none)
  else quoG r (acc++[b]) (k+1)
def z18:zB→zB
 |[]=>[]
 |b::r=>if b=60 then(if r.head?=some 62 then [60,62] else if r.head?=some 61 then [60,61] else [60])
  else if b=62 then(if r.head?=some 61 then [62,61] else [62])
  else if b=61∨b=38∨b=43∨b=45∨b=42∨b=47∨b=37∨b=40∨b=41∨b=44 then [b] else []
def z08(l:zB)(at_:Nat):Option (Pc×Nat):=
 match l with
 |[]=>none
 |b::r=>
  if z0Q b then(if 1000000000000000<(z0v l 0 0).1 then none else some (⟨1,(z0v l 0 0).1,[],at_⟩,(z0v l 0 0).2))
  else if small b then(if zb (l.take (z0C l))then some (⟨3,0,l.take (z0C l),at_⟩,z0C l)else none)
  else if b=34 then(match quoG r [] 1 with
   |some (t,k)=>some (⟨2,0,t,at_⟩,k)
   |none=>none)
  else if z18 l=[] then none else some (⟨4,0,z18 l,at_⟩,(z18 l).length)
inductive Lx where
 |ok (L:List Pc)
 |bad (p:Nat)
def lexG:Nat→zB→Nat→List Pc→Option Lx
 |0,_,_,_=>none
 |f+1,l,at_,acc=>match l with
  |[]=>some (.ok acc)
  |b::r=>if b=32 then lexG f r (at_+1) acc else match z08 l at_ with
   |none=>some (.bad at_)
   |some (q,z)=>lexG f (l.drop z) (at_+z) (acc++[q])
inductive Rs(α:Type) where
 |ok (e:α) (p:Nat)
 |bad (a p:Nat)
def pkP(L:List Pc)(sz p:Nat):Pc:=(L[p]?).getD ⟨0,0,[],sz⟩
def zY(q:Pc)(t:zB):Bool:=q.k==4&&q.s==t
mutual
def pE(L:List Pc)(sz:Nat):Nat→Int→Nat→Option (Rs V)
 |0,_,_=>none
 |f+1,least,p=>match pT L sz f p with
  |some (.ok e p')=>pL L sz f least e p'
  |some (.bad a p')=>some (.bad a p')
  |none=>none
def pL(L:List Pc)(sz:Nat):Nat→Int→V→Nat→Option (Rs V)
 |0,_,_,_=>none
 |f+1,least,e,p=>
  if(pkP L sz p).k≠4∨zf (pkP L sz p).s<least then some (.ok e p)
  else match pE L sz f (zf (pkP L sz p).s+1) (p+1)with
   |some (.ok e2 p2)=>pL L sz f least (.mk 4 0 (pkP L sz p).s [e,e2]) p2
   |some (.bad a p')=>some (.bad a p')
   |none=>none
def pT(L:List Pc)(sz:Nat):Nat→Nat→Option (Rs V)
 |0,_=>none
 |f+1,p=>
  if zY (pkP L sz p) [40] then(match pE L sz f 1 (p+1)with
   |some (.ok e p')=>if zY (pkP L sz p') [41] then some (.ok e (p'+1))else some (.bad (pkP L sz p').p p')
   |some (.bad a p')=>some (.bad a p')
   |none=>none)
  else if zY (pkP L sz p) [45] then(match pT L sz f (p+1)with
   |some (.ok e p')=>some (.ok (.mk 5 0 [45] [e]) p')
   |some (.bad a p')=>some (.bad a p')
   |none=>none)
  else if(pkP L sz p).k=1 then some (.ok (.mk 1 (pkP L sz p).n [] []) (p+1))
  else if(pkP L sz p).k=2 then some (.ok (.mk 2 0 (pkP L sz p).s []) (p+1))
  else if(pkP L sz p).k=3 then(if 0<zm (pkP L sz p).s∧zY (pkP L sz (p+1)) [40]=true then(match pH L sz f (zm (pkP L sz p).s).toNat 0 (p+2) []with
    |some (.ok l p')=>some (.ok (.mk 6 0 (pkP L sz p).s l) p')
    |some (.bad a p')=>some (.bad a p')
    |none=>none)
   else some (.ok (.mk 3 0 (pkP L sz p).s []) (p+1)))
  else some (.bad (pkP L sz p).p (p+1))
def pH(L:List Pc)(sz:Nat):Nat→Nat→Nat→Nat→List V→Option (Rs (List V))
 |0,_,_,_,_=>none
 |f+1,n,k,p,acc=>
  if k<n then(if 0<k∧zY (pkP L sz p) [44]=false then some (.bad (pkP L sz p).p p)
   else match pE L sz f 1 (if 0<k then p+1 else p)with
    |some (.ok e p')=>pH L sz f n (k+1) p' (acc++[e])
    |some (.bad a p')=>some (.bad a p')
    |none=>none)
  else if zY (pkP L sz p) [41] then some (.ok acc (p+1))else some (.bad (pkP L sz p).p p)
end
def z14(f:Nat)(l:zB):Option (V×Int×Int):=
 if 200<l.length then some (V.nil,200,50)
 else match lexG (l.length+1) l 0 []with
  |none=>none
  |some (.bad a)=>some (V.nil,a,50)
  |some (.ok L)=>match pE L l.length f 1 0 with
   |some (.ok e p)=>if p<L.length then some (V.nil,(pkP L l.length p).p,50)else if z0b e then some (e,0,0)else some (V.nil,0,51)
   |some (.bad a _)=>some (V.nil,a,50)
   |none=>none
end
end Go.Mor
end

section
namespace Go.Proofs.YtbkgnekfigknhaaGreatDoor
open Go Go.RowKit Go.Mor Go.Sh
section
def bindL:List (zB×Int):=[([42],4),([47],4),([37],4),([43],3),([45],3),([38],2),([61],1),([60,62],1),([60],1),([60,61],1),([62],1),([62,61],1)]
def zbf:List Value:=bindL.map fun p=> .string (str p.1)
def z0u:TV:=.mp zbf (bindL.map fun p=>I p.2)
theorem z6P(g:Sh.Glob):zC g 52 [] [] z0u []:=by
 refine⟨z1y (by kernel_rfl),fun w E us hG hm hX hl hr=> ?_⟩;obtain rfl:us=[]:=List.eq_nil_of_length_eq_zero hl.symm;refine calls_of_wp Tryz.func52 rfl ?_;refine wp_seq (wp_region ?_);show wpOps _ _ _ [0] _ _;rw[wpOps_cons];refine z2p rfl rfl (v:=.map none) (w':=w) rfl ?_;show(Code.seq _ _).wp _ _ { tmps:= #[.map none,undef,undef],defers:=[] } _;refine wp_seq (wp_region ?_);show wpOps _ _ _ (0::([1,2,3,4,5,6,7,8,9,10,11,12]++[13,14])) _ _;rw[wpOps_cons];refine z2p rfl rfl (v:=.map (some w.heap.size)) (w':=w.alloc (.map #[] 0)) rfl ?_;have hnew:(w.alloc (.map #[] 0)).heap[w.heap.size]?=some (.map #[] 0):=heap_alloc_new w _;refine zdV (t:=119) (m:=1) (kt:=9) (et:=3) (text:=true) (b:=w.heap.size) (by kernel_rfl) (by kernel_rfl) rfl _ _ _ _ #[] 0 rfl hnew (by rfl) ?_;intro es clock w' hturn hb hks hvs;show wpOps _ _ _ [13,14] { tmps:= #[.map none,.map (some w.heap.size),undef],defers:=[] } _;rw[wpOps_cons];refine z2p rfl rfl (v:=.map (some w.heap.size)) (w':=w') rfl ?_;rw[wpOps_cons];refine z2p rfl rfl (v:=.map (some w.heap.size)) (w':=w') rfl ?_;show Code.ret.wp _ _ { tmps:= #[.map (some w.heap.size),.map (some w.heap.size),.map (some w.heap.size)],defers:=[] } _;refine wp_ret ?_
 have hbel:Below w.heap.size w w':=by
  refine⟨hturn.os,hturn.tape,hturn.output,by rw[hturn.size];exact(((Below.refl w.heap.size w)).alloc (Nat.le_refl _) (.map #[] 0)).size,fun k hk=> ?_⟩;rw[hturn.block k (by omega)];exact(((Below.refl w.heap.size w)).alloc (Nat.le_refl _) _).block k hk
 refine⟨rfl,.map (some w.heap.size),by simp[results,Tryz.results52],.map (some w.heap.size),E,rfl,?_,?_,⟨fun _ _ _=>rfl,fun _ _ _ _=>rfl,fun d e W n hd=>by obtain⟨j,_,hj⟩:=z0V hd;simp at hj⟩⟩
 ·exact MSim.ext (s:=⟨fun _=>none,z0k [],zx [],fun _=>none⟩) hm hbel E (fun _ _ h=>h) (fun _ _ h=> .inl h) (fun _ _=>⟨rfl,rfl⟩) (fun _ _ _=>rfl) (fun _ _=>⟨rfl,rfl⟩)
 ·have hlen:es.toList.length=12:=by have:=congrArg List.length hks;simpa using this
  refine .mp zbf _ w.heap.size es clock (fun j=>(es.toList.map MapEntry.val).getD j undef) hb hks rfl (fun j e he=>by simp[he]) (fun j x hx=> ?_);rw[hvs];have hj:j<12:=(gJ hx).1;simp only[bindL,List.getElem?_map]at hx
  match j,hj with
  |0,_|1,_|2,_|3,_|4,_|5,_|6,_|7,_|8,_|9,_|10,_|11,_=>cases hx;exact .pv (.v _)
theorem zoF(ids:List Nat):TV.m1 ids z0u=false:=rfl
theorem zoG(ids:List Nat):TV.m2 ids z0u=false:=rfl
theorem zoH(ids:List Nat):TV.m3 ids z0u=false:=rfl
theorem zhb:TV.ids1 z0u=[]:=rfl
theorem zhc:TV.ids2 z0u=[]:=rfl
theorem zhd:TV.ids3 z0u=[]:=rfl
theorem zhe(ρ:Nat→Option Nat):TV.ren1 ρ z0u=some z0u:=rfl
theorem zhf(ρ:Nat→Option Nat):TV.ren2 ρ z0u=some z0u:=rfl
theorem zhg(ρ:Nat→Option Nat):TV.ren3 ρ z0u=some z0u:=rfl
theorem zeH:TV.cells z0u=some [z0u]:=rfl
theorem zo5(a b:zB):Instr.sameNow (kdOf true) (.string (str a)) (.string (str b))=some (a==b):=by
 have:(str a==str b)=(a==b):=by
  show(a.toArray==b.toArray)=(a==b)
  simp
 first
  |(simp[Instr.sameNow,kdOf,this];done)
  |(simp[Instr.sameNow,kdOf];exact this)
theorem zha(s:zB):∀(l:List (zB×Int)) (i:Nat),findKs (kdOf true) (.string (str s)) (l.map fun p=> .string (str p.1)) i=some ((l.findIdx? fun p=>s==p.1).map (·+i))
 |[],i=>rfl
 |p::l,i=>by
  rw[List.map_cons,findKs,zo5,List.findIdx?_cons];cases h:(s==p.1)with
  |true=>simp
  |false=>
   simp only[Bool.false_eq_true,if_false,zha s l (i+1),Option.map_map];congr 2;funext j;simp;omega
theorem zoE(s:zB):zfr true (.int .i64 0) (some z0u) (some (.string (str s)))=some (.pv (.v (.int .i64 (zf s))),.no):=by
 show zaN _ _ (findKs (kdOf true) (.string (str s)) zbf 0)=_;unfold zbf;rw[zha s bindL 0];simp only[bindL,List.findIdx?_cons,List.findIdx?_nil,zf];by_cases h1:s=[42];· subst h1;rfl
 by_cases h2:s=[47];· subst h2;rfl
 by_cases h3:s=[37];· subst h3;rfl
 by_cases h4:s=[43];· subst h4;rfl
 by_cases h5:s=[45];· subst h5;rfl
 by_cases h6:s=[38];· subst h6;rfl
 by_cases h7:s=[61];· subst h7;rfl
 by_cases h8:s=[60,62];· subst h8;rfl
 by_cases h9:s=[60];· subst h9;rfl
 by_cases h10:s=[60,61];· subst h10;rfl
 by_cases h11:s=[62];· subst h11;rfl
 by_cases h12:s=[62,61];· subst h12;rfl
 simp[h1,h2,h3,h4,h5,h6,h7,h8,h9,h10,h11,h12,zaN,zeroT]
theorem bmV:(type_of% @zoF)∧(type_of% @zoG)∧(type_of% @zoH)∧(type_of% @zhb)∧(type_of% @zhc)∧(type_of% @zhd)∧(type_of% @zhe)∧(type_of% @zhf)∧(type_of% @zhg)∧(type_of% @zeH)∧(type_of% @zoE):=⟨@zoF,@zoG,@zoH,@zhb,@zhc,@zhd,@zhe,@zhf,@zhg,@zeH,@zoE⟩
section
variable{g:Sh.Glob}{f m:Nat}{dst fp:Option Nat}{xs:List Arg}{xs':List TV}{I:List Nat}{os os':List MO}{y:TV}{l:List SOper}{K:ES→Prop}{s s':ES}{G:Prop}
theorem zt(hc:zC g f xs' os y os')(hk:zQ Tryz.prog g l K s')(hx:callIn s m xs=some (xs',os,I):=by simp only[vW,seval,bmV];rfl)(hfp:z4R fp I=true:=by rfl)(hmo:moOk os os'=true:=by first|rfl|(simp only[vcA,seval];omega))(hs:callOut s dst I y os'=some s':=by simp only[vW,seval,bmV];rfl):
  zQ Tryz.prog g (⟨dst,none,fp,.call f m xs⟩::l) K s:=zR hx hfp hc hmo hs hk
theorem z05(hc:zC g f xs' os y os')(h:G)(hx:callIn s m xs=some (xs',os,I):=by simp only[vW,seval,bmV];rfl)(hfp:z4R fp I=true:=by rfl)(hmo:moOk os os'=true:=by first|rfl|(simp only[vcA,seval];omega))(hs:callOut s dst I y os'=some s':=by simp only[vW,seval,bmV];rfl)(hr:zQ Tryz.prog g l K s'=G:=by simp only[vW,seval,bmV];rfl):
  zQ Tryz.prog g (⟨dst,none,fp,.call f m xs⟩::l) K s:=zR hx hfp hc hmo hs (hr▸h)
theorem z3i(hc:zC g f xs' os y os')(hx:callIn s m xs=some (xs',os,I):=by simp only[vW,seval,bmV];rfl)(hfp:z4R fp I=true:=by rfl)(hmo:moOk os os'=true:=by first|rfl|(simp only[vcA,seval];omega))(hs:callOut s dst I y os'=some s':=by simp only[vW,seval,bmV];rfl)(hr:zQ Tryz.prog g l K s':=by simp only[vW,seval,bmV]):
  zQ Tryz.prog g (⟨dst,none,fp,.call f m xs⟩::l) K s:=zR hx hfp hc hmo hs hr
end
end
end Go.Proofs.YtbkgnekfigknhaaGreatDoor
end

section
namespace Go.Sh.Cd5
open Go Go.Sh
abbrev gQ(a:GA):Prop:=gT Go.Proofs.Tryz.prog a
theorem gK{a:GA}(h:gQ a:=by unfold gQ gT;kernel_rfl):gQ a:=h
theorem tf_95:gQ ⟨22,13,[],[],[[0,2003],[5006],[1,7],[2003,7009],[1,4,10012]],[.tmp 2,.tmp 3],false⟩:=gK
theorem tf_144:gQ ⟨49,6,[],[],[[0,2],[1,3005]],[.tmp 2],false⟩:=gK
theorem tf_96:gQ ⟨51,8,[(7,1)],[],[[0,2],[4005],[1,3,6007]],[.tmp 2],false⟩:=gK
theorem tf_40:gQ ⟨53,93,[(88,1)],[(19,[[(1,3),(4,68)]])],[[1000001,4],[10],[13],[2003,11012,14016],[12,18],[2003,11,17,19021],[5,22025],[17,27],[2003,11,26,28034],[26,36],[11,35,37041],[2003,6,42062],[11,35,64],[63,65068],[69],[],[73076],[8009,77082],[83],[2003,7,70072,84090],[2003,63,91092]],[.tmp 4],false⟩:=gK
theorem tf_148:gQ ⟨89,42,[],[],[[0,6],[8017],[1003,18],[6,18020],[],[21028],[30031],[29,32040],[1003,7,41]],[.tmp 6],false⟩:=gK
theorem tf_21:gQ ⟨90,45,[(28,1),(42,1)],[],[[1,6],[9015],[16029],[0,2,4,30],[4,6,30031],[],[35037],[8,38042],[0,2,32034,43],[6,43044],[0,2,32034]],[.tmp 6],false⟩:=gK
theorem tf_39:gQ ⟨93,27,[],[],[[1000001,6],[2,7017],[3004,18023],[3004,18,24026]],[.tmp 6],false⟩:=gK
abbrev c_94_0:=kV [2,3,4] [oD 2 (.new zV),oD 3 (.new [(.int .i64 0)]),oD 4 (.new [(.int .i64 0)])] []
abbrev c_94_1:=kR [oM 10 0,oD 11 (.slen (.tmp 10)),kK 12 .gtr 3 11 200] [10,11]
abbrev c_94_2:=kR [oD 13 (.build zV []),kS 4 2 13,oN (.st 1 (.tmp 3) (vI 200)),oN (.st 1 (.tmp 4) (vI 50))] [0,12,13]
abbrev c_94_3:=kV [2068,2069,2070,2071,5] [oM 14 0,oD 15 (.slen (.tmp 14)),oD 16 (.build [(.slice none 0 0),(.int .i64 0),(.int .i64 0)] [(2,1,(.tmp 15))]),oD 17 (.call 52 0 []),oD 18 (.build [(.slice none 0 0),(.int .i64 0),(.int .i64 0),(.map none)] [(0,3,(.tmp 16)),(3,1,(.tmp 17))]),oD 5 (.new [(.slice none 0 0),(.int .i64 0),(.int .i64 0),(.map none)]),kS 4 5 18] [12,14,15,16,17,18]
abbrev c_94_4:=kV [2080,2081,2082,2083] [oM 19 0,kC 20 187 0 19] [0,19]
abbrev c_94_5:=kV [2148,2149,2150,2151,7] [kC 37 188 1 5,oM 36 37,kY 38 36 0,kY 39 36 1,kY 40 36 2,oD 7 (.new zV),kS 4 7 38,oM 8 39,oM 9 40] [5,20,36,37,38,39,40]
abbrev c_94_6:=kR [oM 41 9,kN 42 41] [9,41]
abbrev c_94_7:=kR [oD 43 (.build zV []),oM 44 8,kS 4 2 43,kS 1 3 44,oN (.st 1 (.tmp 4) (vI 50))] [7,8,42,43,44]
abbrev c_94_8:=kV [2184,2185,2186,2187] [oL 45 true 4 7,kC 46 51 0 45,kN 47 46] [8,42,45,46]
abbrev c_94_9:=kR [oD 48 (.build zV []),kS 4 2 48,oN (.st 1 (.tmp 3) (vI 0)),oN (.st 1 (.tmp 4) (vI 51))] [7,47,48]
abbrev c_94_10:=kR [oL 49 true 4 7,kS 4 2 49,oN (.st 1 (.tmp 3) (vI 0)),oN (.st 1 (.tmp 4) (vI 0))] [7,47,49]
noncomputable abbrev F_94:SFunc:=⟨50,(.seq c_94_0 (.seq (.seq c_94_1 (.cond (.tmp 12) (.seq c_94_2 .ret) .skip)) (.seq c_94_3 (.seq (.seq c_94_4 (.block 0 (.raw 50 (z6E Go.Proofs.Tryz.prog 140 0)))) (.seq c_94_5 (.seq (.seq c_94_6 (.cond (.tmp 42) (.seq c_94_7 .ret) .skip)) (.seq (.seq c_94_8 (.cond (.tmp 47) (.seq c_94_9 .ret) .skip)) (.seq c_94_10 .ret)))))))),[.cell true 4 2,.cell false 1 3,.cell false 1 4],false⟩
theorem tf_94:zU Go.Proofs.Tryz.prog 140 (z3J [(17,0),(20,0),(32,0),(37,1),(46,0)]) (fpT []) (z3K [(1,[10,11]),(2,[0,12,13]),(3,[12,14,15,16,17,18]),(4,[0,19]),(9,[5,20,36,37,38,39,40]),(10,[9,41]),(11,[7,8,42,43,44]),(12,[8,42,45,46]),(13,[7,47,48]),(14,[7,47,49])]) false=some F_94:=by kernel_rfl
theorem tf_147:gQ ⟨161,112,[],[],[[0,2],[3],[6],[1,4005,7025],[5,27],[1,4,26,28042],[26,44],[1,4,43,45058],[43,60],[1,4,59,61075],[59,77],[1,4,76,78091],[4,76,93],[1,92,94111],[1,92]],[.tmp 2],false⟩:=gK
theorem tf_20:gQ ⟨162,100,[],[],[[1,4],[5011],[0,3,12],[4,12013],[16],[0,3,14015,17035],[15,37],[0,3,14,36,38046],[36,48],[0,3,14,47,49057],[47,59],[0,3,14,58,60073],[0,58,75],[3,14,74,76084],[14,74,86],[3,85,87099],[3,85]],[.tmp 4],false⟩:=gK
theorem tf_137:gQ ⟨168,56,[],[],[[2],[6012],[0,13],[2,13],[14016],[2,18019,55],[17,20029],[30045],[4005,46054],[0,3,55],[0,3]],[.tmp 2],false⟩:=gK
theorem tf_98:gQ ⟨187,4,[],[],[[0,2],[1,3]],[.tmp 2],false⟩:=gK
theorem tf_133:gQ ⟨194,138,[],[],[[0,2],[6],[9],[1,7008,10023],[8,25],[1,7,24,26044],[24,46],[7,45,47049],[1,3,50067],[45,69],[70],[1,7,68,71099],[7,68,101],[100,102114],[1,115],[2,115],[116119],[2,121122,137],[120,123128],[1,4,129],[2,129135],[5,136],[1,4,137],[1,4],[1,100]],[.tmp 2],false⟩:=gK
theorem tf_142:gQ ⟨195,20,[],[],[[2],[0],[5],[6],[7],[3004],[4,9],[10],[3,8],[8,12],[3,11],[11,14],[15],[16],[17],[18],[3,19],[3,13],[3,13]],[.tmp 2],false⟩:=gK
theorem tf_141:gQ ⟨196,17,[],[],[[2],[0],[5],[6],[7],[3004],[4,9],[10],[11],[12],[13],[14],[3,8],[3,8,16],[15],[15]],[.tmp 2],false⟩:=gK
theorem tf_105:gQ ⟨197,6,[],[],[[2],[0,3005]],[.tmp 2],false⟩:=gK
theorem tf_104:gQ ⟨198,6,[],[],[[2],[0,3005]],[.tmp 2],false⟩:=gK
theorem tf_106:gQ ⟨199,17,[],[],[[2],[0],[5],[6],[7],[3004],[4,9],[10],[11],[12],[13],[14],[3,8],[3,8,16],[15],[15]],[.tmp 2],false⟩:=gK
theorem tf_99:gQ ⟨215,42,[(33,1)],[],[[],[6014],[15017],[18020],[21028],[29030],[4,31037],[5,38041]],[],false⟩:=gK
theorem tf_100:gQ ⟨216,47,[],[],[[3],[6007],[9014],[0,4,8,15018],[8,20025],[0,4,19,26029],[4,19,31032],[0,30,33036],[0,3,30,37039],[40],[5,41042],[5,41,43046]],[.cell true 4 2,.tmp 3],false⟩:=gK
theorem tf_22:gQ ⟨218,48,[(9,3),(13,1),(45,3)],[(7,[[(1,6),(2,5),(9,5),(6,1000)]])],[[],[8009,2009999],[10013],[14020],[21027],[1000001,5007,28029],[28,30038],[6007,39047,2009999]],[.cell true 4 4],false⟩:=gK
theorem tf_26:gQ ⟨219,28,[],[],[[],[3011],[0,12022],[0,12,23027]],[.cell true 4 2],false⟩:=gK
theorem tf_102:gQ ⟨247,39,[],[],[[3],[],[6020],[21030],[31032],[0,33],[4005,34035],[4005,34,36038]],[.cell true 4 2,.tmp 3],false⟩:=gK
theorem tf_101:gQ ⟨248,52,[],[],[[3],[],[5037],[38040],[41044],[0,4,45046],[0,4,45,47051]],[.cell true 4 2,.tmp 3],false⟩:=gK
theorem tf_103:gQ ⟨249,55,[(19,0),(52,0)],[],[[3],[],[],[6008],[10011],[9,12013],[16],[0,14015,17019],[4005,20021],[4005,20,22026],[14015,28],[27,29030],[31045],[0,4005,46047],[3,27,46,48053],[0,4005,54]],[.cell true 4 2,.tmp 3],false⟩:=gK
theorem tf_97:gQ ⟨250,27,[],[],[[4],[],[1],[],[11013],[14022],[7,23024],[7,23,25],[0,5,8010,26]],[.tmp 4],false⟩:=gK
theorem tf_24:gQ ⟨251,75,[(9,1),(11,3),(15,3),(20,1),(22,3),(28,1),(61,1),(67,3)],[(17,[[(1,4),(6,2),(4,1000)]])],[[],[6008],[9011,2009999],[0,12015,2009999],[3,16],[9,17019],[0,20024,2009999],[20,25028],[29037],[38],[41],[0,4,39040,42044],[40,46],[0,4,39,45,47049],[39,45,51],[50,52054],[55061],[0,4005,62068,2009999],[0,4005,62,69071],[0,4,50,72074,2009999]],[.cell true 4 2],false⟩:=gK
theorem tf_188:gQ ⟨267,8,[],[],[[4],[1000001,5007]],[.tmp 4],false⟩:=gK
theorem tf_27:gQ ⟨268,24,[(7,1)],[],[[4],[6007],[1,5,8015],[0,16],[0,4,16023]],[.tmp 4],false⟩:=gK
theorem tf_25:gQ ⟨269,12,[(6,1),(9,1)],[],[[1,4006],[0,7011,2009999]],[],false⟩:=gK
theorem tf_23:gQ ⟨270,28,[(16,3),(19,3),(20,0),(26,3)],[],[[4],[],[1],[],[9010],[6,11],[12016,2009999],[12,17021,2009999],[22],[0,7008,23026,2009999],[5,27]],[.tmp 4],false⟩:=gK
theorem tf_117:gQ ⟨275,18,[],[],[[4],[1000001,5017]],[.tmp 4],false⟩:=gK
noncomputable def funcs:Nat→Option SFunc
 |_=>none
end Go.Sh.Cd5
end

section
namespace Go.Mor
open Go
abbrev T3:=Int×Int×zB
def er(q:Pc):T3:=(q.k,q.n,q.s)
def sg(s:zB):T3:=(4,0,s)
def z3V(e:V)(least:Int)(t:List T3):List T3:=if e.k=4∧zf e.s<least then sg [40]::(t++[sg [41]])else t
def zo7:List (List T3)→List T3
 |[]=>[]
 |x::r=>x++(r.map fun y=>sg [44]::y).flatten
def z0H:Nat→V→List T3
 |0,_=>[]
 |d+1,e=>
  if e.k=1 then [(1,e.n,[])]
  else if e.k=2 then [(2,0,e.s)]
  else if e.k=5 then sg [45]::z3V (e.l.getD 0 V.nil) 5 (z0H d (e.l.getD 0 V.nil))
  else if e.k=4 then z3V (e.l.getD 0 V.nil) (zf e.s) (z0H d (e.l.getD 0 V.nil))++sg e.s::z3V (e.l.getD 1 V.nil) (zf e.s+1) (z0H d (e.l.getD 1 V.nil))
  else if e.k=6 then(3,0,e.s)::sg [40]::(zo7 (e.l.map (z0H d))++[sg [41]])
  else [(3,0,e.s)]
def LexP(t:zB)(ts:List T3)(post:zB):Prop:=
 ∀(f a:Nat) (acc:List Pc),t.length+post.length<f→∃f' L,post.length<f'∧L.map er=ts∧lexG f (t++post) a acc=lexG f' post (a+t.length) (acc++L)
theorem LexP.nil(post:zB):LexP [] [] post:=fun f a acc h=>⟨f,[],by simpa using h,rfl,by simp⟩
theorem LexP.app{t1 t2:zB}{ts1 ts2:List T3}{post:zB}(h1:LexP t1 ts1 (t2++post))(h2:LexP t2 ts2 post):LexP (t1++t2) (ts1++ts2) post:=by
 intro f a acc hf;obtain⟨f1,L1,a1,a2,a3⟩:=h1 f a acc (by grind);obtain⟨f2,L2,b1,b2,b3⟩:=h2 f1 (a+t1.length) (acc++L1) (by grind);refine⟨f2,L1++L2,b1,by rw[List.map_append,a2,b2],?_⟩
 grind
theorem LexP.blank(post:zB):LexP [32] [] post:=by
 intro f a acc hf;obtain⟨f,rfl⟩:∃g,f=g+1:=⟨f-1,by simp at hf;omega⟩
 refine⟨f,[],by simp at hf;omega,rfl,?_⟩;simp[lexG]
theorem LexP.one{t:zB}{q:T3}{post:zB}{b:UInt8}{r:zB}(ht:t=b::r)(hb:b≠32)(h:∀a,∃p,z08 (t++post) a=some (p,t.length)∧er p=q):LexP t [q] post:=by
 intro f a acc hf;obtain⟨f,rfl⟩:∃g,f=g+1:=⟨f-1,by omega⟩
 obtain⟨p,h1,h2⟩:=h a;refine⟨f,[p],by subst ht;simp at hf;omega,by simp[h2],?_⟩
 grind [lexG]
def z7a(l:zB):Prop:=∀c r,l=c::r→zJ c=false
theorem zkn{b:UInt8}(h:z0Q b=true):zJ b=true:=by
 grind [z0Q,zJ]
theorem zny{l:zB}(h:z7a l)(n:Int)(z:Nat):z0v l n z=(n,z):=by
 cases l with
 |nil=>rfl
 |cons c r=>
  have hc:=h c r rfl
  grind [z0v,z0Q,zkn]
theorem ziC(d:Nat)(hd:d<10):(UInt8.ofNat (48+d)).toNat=48+d:=by rw[UInt8.toNat_ofNat'];omega
theorem zgO:∀(m:Nat),m≤1000000000000000→∀(r:zB) (z:Nat),z0v (Lib.decDigits m++r) 0 z=z0v r m (z+(Lib.decDigits m).length):=by
 have step:∀(n d:Nat),d<10→10*n+d≤1000000000000000→∀r z,z0v (UInt8.ofNat (48+d)::r) n z=z0v r ((10*n+d:Nat):Int) (z+1):=by
  grind [z0v,z0Q,ziC]
 intro m
 induction m using Nat.strongRecOn with
 |_ m ih=>
  intro h1 r z;by_cases hm:m<10
  ·grind [Lib.decDigits_one,step]
  ·have e0:Lib.decDigits m=Lib.decDigits (m / 10)++[UInt8.ofNat (48+m%10)]:=by rw[Lib.decDigits,dif_neg hm]
   have e2:=step (m / 10) (m%10) (by omega) (by omega) r (z+(Lib.decDigits (m / 10)).length)
   grind
theorem zcp(m:Nat):∃c r,Lib.decDigits m=c::r∧z0Q c=true:=by
 induction m using Nat.strongRecOn with
 |_ m ih=>
  by_cases hm:m<10
  ·exact⟨UInt8.ofNat (48+m),[],Lib.decDigits_one hm,by unfold z0Q;rw[ziC m hm];simp;omega⟩
  ·obtain⟨c,r,h1,h2⟩:=ih (m / 10) (by omega)
   grind [UInt8.ofNat,Lib.decDigits]
theorem zpV{n:Int}(h0:0≤n)(h1:n≤1000000000000000){post:zB}(hp:z7a post):LexP (Lib.itoa n) [(1,n,[])] post:=by
 obtain⟨m,rfl⟩:=Int.eq_ofNat_of_zero_le h0;have hi:Lib.itoa (m:Int)=Lib.decDigits m:=by unfold Lib.itoa;simp
 obtain⟨c,r,e1,e2⟩:=zcp m;refine LexP.one e1 (by rintro rfl;revert e2;decide) (fun a=>⟨⟨1,m,[],a⟩,?_,rfl⟩);have hg:z0v (Lib.decDigits m++post) 0 0=((m:Int),(Lib.decDigits m).length):=by
  rw[zgO m (by omega),zny hp,Nat.zero_add]
 grind [z08]
theorem zdu:∀{s post:zB},s.all zJ=true→z7a post→z0C (s++post)=s.length
 |[],[],_,_=>rfl
 |[],c::r,_,hp=>by rw[List.nil_append,z0C,hp c r rfl];rfl
 |b::s,post,h,hp=>by
  rw[List.all_cons,Bool.and_eq_true]at h;rw[List.cons_append,z0C,h.1,if_pos rfl,zdu h.2 hp];rfl
theorem zcL{s:zB}(h:zb s=true):∃b r,s=b::r∧small b=true∧s.all zJ=true:=by
 unfold zb at h;cases s<;>grind
theorem zlL{b:UInt8}(h:small b=true):z0Q b=false∧b≠32:=by
 unfold small at h;unfold z0Q;simp at h;exact⟨by simp;omega,by rintro rfl;revert h;decide⟩
theorem zfo{s:zB}(h:zb s=true){post:zB}(hp:z7a post):LexP s [(3,0,s)] post:=by
 obtain⟨b,r,e1,e2,e3⟩:=zcL h;obtain⟨d1,d2⟩:=zlL e2;refine LexP.one e1 d2 (fun a=>⟨⟨3,0,s,a⟩,?_,rfl⟩)
 grind [zdu,List.take_left',z08]
theorem zhT(post acc:zB)(k:Nat):quoG (34::post) acc k=if zi acc then some (acc,k+1)else none:=by
 rw[quoG.eq_def];rfl
theorem zhU(c:UInt8)(r acc:zB)(k:Nat):quoG (92::c::r) acc k=if c=34∨c=92 then quoG r (acc++[c]) (k+2)else none:=by
 grind [quoG]
theorem zlq{b:UInt8}(h1:b≠34)(h2:b≠92)(r acc:zB)(k:Nat):quoG (b::r) acc k=quoG r (acc++[b]) (k+1):=by
 rw[quoG.eq_def];simp only[if_neg h1,if_neg h2]
theorem zaT:∀(s acc:zB) (k:Nat) (post:zB),zi (acc++s)=true→quoG (z4c s++34::post) acc k=some (acc++s,k+(z4c s).length+1)
 |[],acc,k,post,h=>by
  grind [z4c,zhT]
 |b::s,acc,k,post,h=>by
  have e1:acc++b::s=(acc++[b])++s:=by simp
  rw[e1]at h;by_cases hb:b=34∨b=92
  ·have e2:z4c (b::s)=92::b::z4c s:=by simp[z4c,hb]
   rw[e2,List.cons_append,List.cons_append,zhU,if_pos hb,zaT s _ _ _ h,e1]
   grind
  ·have e2:z4c (b::s)=b::z4c s:=by simp[z4c,hb]
   rw[not_or]at hb;rw[e2,List.cons_append,zlq hb.1 hb.2,zaT s _ _ _ h,e1]
   grind
theorem znq{s:zB}(h:zi s=true)(post:zB):LexP (34::(z4c s++[34])) [(2,0,s)] post:=by
 refine LexP.one rfl (by decide) (fun a=>⟨⟨2,0,s,a⟩,?_,rfl⟩);have hq:=zaT s [] 1 post (by grind);rw[List.cons_append,List.append_assoc,List.singleton_append];unfold z08;simp only[show z0Q 34=false by decide,show small 34=false by decide,Bool.false_eq_true,if_false,if_true,hq]
 grind
theorem z2O{b:UInt8}(h:b=40∨b=41∨b=44∨b=45)(post:zB):LexP [b] [sg [b]] post:=by
 refine LexP.one rfl (by grind) (fun a=>⟨⟨4,0,[b],a⟩,?_,rfl⟩);rcases h with rfl|rfl|rfl|rfl<;>rfl
theorem z6Q{s:zB}(h:0<zf s):s=[42]∨s=[47]∨s=[37]∨s=[43]∨s=[45]∨s=[38]∨s=[61]∨s=[60,62]∨s=[60]∨s=[60,61]∨s=[62]∨s=[62,61]:=by
 grind [zf]
theorem zrn{s:zB}(h:0<zf s)(post:zB):LexP s [sg s] (32::post):=by
 have hs:=z6Q h;rcases hs with rfl|rfl|rfl|rfl|rfl|rfl|rfl|rfl|rfl|rfl|rfl|rfl<;>
  exact LexP.one rfl (by decide) (fun a=>⟨⟨4,0,_,a⟩,rfl,rfl⟩)
def StopT(l:zB):Prop:=∀c r,l=c::r→c=32∨c=41∨c=44
theorem StopT.word{l:zB}(h:StopT l):z7a l:=by
 intro c r e;rcases h c r e with rfl|rfl|rfl<;>decide
theorem zlO(l:zB):StopT (32::l):=by intro c r e;cases e;exact .inl rfl
theorem zge(l:zB):StopT (41::l):=by intro c r e;cases e;exact .inr (.inl rfl)
theorem zlP(l:zB):StopT (44::l):=by intro c r e;cases e;exact .inr (.inr rfl)
theorem zsY:StopT []:=by intro c r e;cases e
theorem zsc(l:zB):z7a (40::l):=by intro c r e;cases e;decide
theorem zcC{e:V}{least:Int}{t:zB}{ts:List T3}(h:∀post,StopT post→LexP t ts post)(post:zB)(hp:StopT post):LexP (z2r e least t) (z3V e least ts) post:=by
 unfold z2r z3V;split
 ·have h1:=z2O (b:=40) (by simp) (t++([41]++post));have h2:=h ([41]++post) (zge _);have h3:=z2O (b:=41) (by simp) post;have:=LexP.app (t2:=t++[41]) (by simpa using h1) (h2.app h3)
  grind [brk]
 ·grind
theorem zjP{s:zB}(h:0<zm s):zb s=true:=by
 unfold zm at h;split at h
 ·rename_i h1;rcases h1 with rfl|rfl|rfl<;>decide
 split at h
 ·rename_i h1;rcases h1 with rfl|rfl|rfl|rfl|rfl|rfl<;>decide
 split at h
 ·rename_i h1;subst h1;decide
 ·omega
theorem z2G{d:Nat}{e:V}(h:okE (d+1) e=true):z0p e=true∧∀x∈e.l,okE d x=true:=by
 rw[okE,Bool.and_eq_true]at h
 grind
theorem z6C{e:V}(h:z0p e=true)(hk:e.k=1):0≤e.n∧e.n≤1000000000000000∧e.s=[]∧e.l=[]:=by
 grind [z0p]
theorem zbJ{e:V}(h:z0p e=true)(hk:e.k≠1):e.n=0:=by
 grind [z0p]
theorem z5g{e:V}(h:z0p e=true)(hk:e.k=2):e.n=0∧zi e.s=true∧e.l=[]:=by
 grind [zbJ,z0p]
theorem z7P{e:V}(h:z0p e=true)(hk:e.k=3):e.n=0∧zb e.s=true∧e.l=[]:=by
 grind [zbJ,z0p]
theorem z3M{e:V}(h:z0p e=true)(hk:e.k=4):e.n=0∧0<zf e.s∧∃a b,e.l=[a,b]:=by
 have h0:=zbJ h (by omega);unfold z0p at h;rw[if_neg (by simp[h0]),if_neg (by omega),if_neg (by omega),if_neg (by omega),if_pos hk]at h;simp at h;refine⟨h0,h.1,?_⟩
 match hl:e.l,h.2 with
 |[a,b],_=>simp
theorem z5h{e:V}(h:z0p e=true)(hk:e.k=5):e.n=0∧e.s=[45]∧∃a,e.l=[a]:=by
 have h0:=zbJ h (by omega);unfold z0p at h;rw[if_neg (by simp[h0]),if_neg (by omega),if_neg (by omega),if_neg (by omega),if_neg (by omega),if_pos hk]at h;simp at h;refine⟨h0,h.1,?_⟩
 match hl:e.l,h.2 with
 |[a],_=>simp
theorem z4E{e:V}(h:z0p e=true)(hk:e.k=6):e.n=0∧0<zm e.s∧(e.l.length:Int)=zm e.s:=by
 grind [zbJ,z0p]
theorem z23{e:V}(h:z0p e=true):e.k=1∨e.k=2∨e.k=3∨e.k=4∨e.k=5∨e.k=6:=by
 grind [z0p]
theorem zhx{d:Nat}(hd:∀e,okE d e=true→∀post,StopT post→LexP (zy d e) (z0H d e) post):∀(l:List V),(∀x∈l,okE d x=true)→∀post,StopT post→LexP ((l.map fun y=>[44,32]++zy d y).flatten) ((l.map fun y=>sg [44]::z0H d y).flatten) post
 |[],_,post,_=>by simpa using LexP.nil post
 |y::l,hl,post,hp=>by
  have ih:=zhx hd l (fun x hx=>hl x (List.mem_cons_of_mem _ hx)) post hp;have hst:StopT ((l.map fun y=>[44,32]++zy d y).flatten++post):=by
   cases l<;>grind [zlP]
  have h1:=hd y (hl y (List.mem_cons_self ..)) _ hst;have h2:=LexP.blank (zy d y++((l.map fun y=>[44,32]++zy d y).flatten++post));have h3:=z2O (b:=44) (by simp) ([32]++(zy d y++((l.map fun y=>[44,32]++zy d y).flatten++post)));have:=LexP.app (t2:=[32]++(zy d y++(l.map fun y=>[44,32]++zy d y).flatten)) (by simpa using h3) (LexP.app (t2:=zy d y++(l.map fun y=>[44,32]++zy d y).flatten) (by simpa using h2) (h1.app ih))
  grind
theorem zfp:∀(d:Nat) (e:V),okE d e=true→∀post,StopT post→LexP (zy d e) (z0H d e) post
 |0,e,h,_,_=>by cases h
 |d+1,e,h,post,hp=>by
  obtain⟨hn,hk⟩:=z2G h;have ih:=zfp d;unfold zy z0H;rcases z23 hn with k|k|k|k|k|k
  ·obtain⟨h1,h2,_,_⟩:=z6C hn k;simp only[k,if_true];exact zpV h1 h2 hp.word
  ·obtain⟨_,h2,_⟩:=z5g hn k
   grind [znq]
  ·obtain⟨_,h2,_⟩:=z7P hn k;simp only[k,Int.reduceEq,if_false];exact zfo h2 hp.word
  ·obtain⟨_,h2,a,b,hl⟩:=z3M hn k;have ha:=hk a (by simp[hl]);have hb:=hk b (by simp[hl]);have q1:=zcC (e:=a) (least:=zf e.s) (ih a ha) (32::(e.s++32::(z2r b (zf e.s+1) (zy d b)++post))) (zlO _);have q2:=LexP.blank (e.s++32::(z2r b (zf e.s+1) (zy d b)++post));have q3:=zrn h2 (z2r b (zf e.s+1) (zy d b)++post);have q4:=LexP.blank (z2r b (zf e.s+1) (zy d b)++post);have q5:=zcC (e:=b) (least:=zf e.s+1) (ih b hb) post hp;have r4:=LexP.app q4 q5;have r3:=LexP.app (t2:=[32]++z2r b (zf e.s+1) (zy d b)) (by simpa using q3) r4;have r2:=LexP.app (t2:=e.s++([32]++z2r b (zf e.s+1) (zy d b))) (by simpa using q2) r3
   grind [LexP.app,z2r,zf,zy]
  ·obtain⟨_,h2,a,hl⟩:=z5h hn k;have ha:=hk a (by simp[hl]);have q1:=zcC (e:=a) (least:=5) (ih a ha) post hp;have q0:=z2O (b:=45) (by simp) (z2r a 5 (zy d a)++post);have:=LexP.app (by omega) q1
   grind
  ·obtain⟨_,h2,hl⟩:=z4E hn k;obtain⟨y,l,hyl⟩:∃y l,e.l=y::l:=by
    cases hh:e.l<;>grind
   rw[hyl,List.map_cons,List.map_cons,Lib.join_cons,zo7];unfold Lib.joinTail;have hks:∀x∈l,okE d x=true:=fun x hx=>hk x (by grind);have hy:=hk y (by grind);have s1:=z2O (b:=41) (by simp) post;have s2:=zhx ih l hks ([41]++post) (zge _);have hst:StopT ((l.map fun y=>[44,32]++zy d y).flatten++([41]++post)):=by
    cases l<;>grind [zge,zlP]
   have s3:=ih y hy _ hst;have s4:=z2O (b:=40) (by simp) (zy d y++((l.map fun y=>[44,32]++zy d y).flatten++([41]++post)));have s5:=zfo (zjP h2) (zsc (zy d y++((l.map fun y=>[44,32]++zy d y).flatten++([41]++post))));have r1:=LexP.app s2 s1;have r2:=LexP.app (t2:=(l.map fun y=>[44,32]++zy d y).flatten++[41]) (by simpa using s3) r1;have r3:=LexP.app (t2:=zy d y++((l.map fun y=>[44,32]++zy d y).flatten++[41])) (by simpa using s4) r2;have r4:=LexP.app (t2:=[40]++(zy d y++((l.map fun y=>[44,32]++zy d y).flatten++[41]))) (by simpa using s5) r3
   grind [Function.comp_def]
end Go.Mor
end
