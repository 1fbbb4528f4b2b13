/- Merged texts: Pk7 Ln4 Zu5 Zh5 Zh7 Cd10 Ya1 Yc1 Ya2. No statement of the program is proved here. -/
import Derived.Test.YtpmlapgbmgbilaaGreatDoorR35
import Derived.Test.YtpmlapgbmgbilaaGreatDoorR36
set_option linter.unusedSimpArgs false
set_option linter.unusedVariables false
set_option maxRecDepth 100000
set_option maxHeartbeats 8000000
section
namespace Go.Mor
open Go
theorem zq9(j:Int)(h0:0≤j)(h1:j<6):nmF j∈nmL:=by
 have:j=0∨j=1∨j=2∨j=3∨j=4∨j=5:=by omega
 rcases this with rfl|rfl|rfl|rfl|rfl|rfl<;>decide
theorem zfc:∀(rs:List RawF) (acc:List Fld),(∀f∈acc,f.n∈nmL)→∀f∈rs.foldl z1Q acc,f.n∈nmL
 |[],acc,h=>h
 |r::rs,acc,h=>by
  refine zfc rs _ fun f hf=> ?_;unfold z1Q at hf;split at hf
  ·rcases List.mem_append.1 hf with hf|hf
   ·grind
   ·obtain rfl:=List.mem_singleton.1 hf;have h1:=z0c r.n 6 (by omega);exact zq9 _ h1.1 h1.2
  ·grind
theorem zgM(x:Raw):∀f∈(z0x x).fs,f.n∈nmL:=zfc _ [] (by simp)
theorem zlN(j:Int)(h0:0≤j)(h1:j<6):zb (nmH j)=true∧(nmH j).length≤8:=by
 have:j=0∨j=1∨j=2∨j=3∨j=4∨j=5:=by omega
 rcases this with rfl|rfl|rfl|rfl|rfl|rfl<;>decide
theorem zhX(x:Int):(nmH (pick x 6)).length≤20:=by
 grind [z0c,zlN]
theorem zhG{e:zB}(h:e∈exL):1≤e.length∧e.length≤100∧∃r,z2P 1000 e=some r∧r.2.2=0∧r.2.1=0:=by
 have h1:=List.all_eq_true.1 zrn e h;unfold zro at h1;simp only[Bool.and_eq_true]at h1;refine⟨Nat.le_of_ble_eq_true h1.1.1,Nat.le_of_ble_eq_true h1.1.2,?_⟩;have h2:=h1.2;split at h2
 ·rename_i r hr;simp at h2;exact⟨r,hr,Go.Sh.intB_eq h2.1,Go.Sh.intB_eq h2.2⟩
 ·cases h2
structure ChIn(h:Chg):Prop where
 k:0≤h.k∧h.k≤6
 tk:0≤h.t.k∧h.t.k≤5
 ot:0≤h.t.o∧h.t.o≤4
 f:h.f.length≤20
 n:h.n.length≤20
 m:h.m.length≤20
 x:h.x=[]∨h.x∈exL
 o:h.o=[]∨h.o∈exL
theorem zsm(t:Ty):(0≤(tyH t).k∧(tyH t).k≤5)∧(0≤(tyH t).o∧(tyH t).o≤4):=by
 have h2:=z0c t.k 5 (by omega);have h3:=z0c t.o 4 (by omega);unfold tyH
 grind
theorem zqa:∀s∈nmL,s.length≤20:=by decide
theorem znG{c:Cls}(hc:∀f∈c.fs,f.n∈nmL)(i:Nat):(c.fs.getD i z4B).n.length≤20:=by
 rw[List.getD_eq_getElem?_getD];cases h:c.fs[i]? with
 |none=>exact Nat.zero_le _
 |some f=>exact zqa _ (hc f (gM h))
theorem zeQ(x:RawH){c:Cls}(hn:∀f∈c.fs,f.n∈nmL):ChIn (z3u x c):=by
 have hk:=z0c x.k 6 (by omega);have hf:(if c.fs=[] then [] else(c.fs.getD (pick x.f c.fs.length).toNat z4B).n).length≤20:=by
  grind [znG]
 have ht:=zsm x.t;have hx:=zdl hn x.x (tyH x.t);have ho:=zdl hn x.o (tyH x.t);have n1:=zhX x.n;have n2:=zhX x.m;unfold z3u
 dsimp only
 generalize(if c.fs=[] then [] else(c.fs.getD (pick x.f c.fs.length).toNat z4B).n)=f at*
 repeat' split
 all_goals refine⟨by dsimp only;omega,?_,?_,?_,?_,?_,?_,?_⟩
 all_goals first|exact hf|exact n1|exact n2|exact hx|exact ho|exact ht.1|exact ht.2|exact .inl rfl|(show(0:Int)≤0∧(0:Int)≤_;omega)|exact Nat.zero_le _
def z13(l:Ln):Cls:=(zp l l.hs.length).1
theorem zqQ(c:Cls)(hs:List Chg)(h:Chg){k:Nat}(hk:k≤hs.length):zp ⟨c,hs++[h]⟩ k=zp ⟨c,hs⟩ k:=by
 unfold zp;rw[List.take_append_of_le_length hk];rfl
theorem znW{l:Ln}(hr:zY l=true)(h12:l.hs.length<12){h:Chg}(ho:okV (z13 l) h=true):zY ⟨l.c,l.hs++[h]⟩=true∧z13 ⟨l.c,l.hs++[h]⟩=⟨(z13 l).n,z0s (z13 l) h⟩:=by
 have h0:=z0r hr (Nat.le_refl _);have hrc:zd (z13 l)=true:=z1O h0;have hg:(l.hs++[h])[l.hs.length]?=some h:=by simp
 have hs:=z3q (l:=⟨l.c,l.hs++[h]⟩) hg;rw[zqQ l.c l.hs h (Nat.le_refl _),z4c h h0]at hs;have ha:z0h (z13 l) h=(⟨(z13 l).n,z0s (z13 l) h⟩,0):=by
  unfold z0h;rw[hrc,ho];rfl
 have hs:zp ⟨l.c,l.hs++[h]⟩ (l.hs.length+1)=z0h (z13 l) h:=hs;rw[ha]at hs;have e:(l.hs++[h]).length=l.hs.length+1:=by simp
 constructor
 ·unfold zY
  dsimp only
  rw[e,hs,show Nat.ble (l.hs.length+1) 12=true from Nat.ble_eq_true_of_le h12];rfl
 ·unfold z13
  dsimp only
  rw[e,hs];rfl
def zfC(h:Chg):Prop:=(h.k=1∨h.k=3∨h.k=5→h.n∈nmL)∧(h.k=5→h.m∈nmL)
theorem zhY(x:Int):nmH (pick x 6)∈nmL:=by
 have h:=z0c x 6 (by omega);generalize pick x 6=j at*;have:j=0∨j=1∨j=2∨j=3∨j=4∨j=5:=by omega
 rcases this with rfl|rfl|rfl|rfl|rfl|rfl<;>decide
theorem znf(x:RawH)(c:Cls):zfC (z3u x c):=by
 unfold z3u zfC
 dsimp only
 have h1:=zhY x.n;have h2:=zhY x.m;generalize 1+pick x.k 6=k
 repeat' split
 all_goals simp_all
theorem ziY{c:Cls}{h:Chg}(ho:okV c h=true)(hc:∀f∈c.fs,f.n∈nmL)(hn:zfC h):∀f∈z0s c h,f.n∈nmL:=by
 have hk:1≤h.k∧h.k≤6:=by
  unfold okV z04 z0A at ho;simp only[Bool.and_eq_true]at ho
  grind
 rw[←zdR ho];intro f hf;rcases List.mem_append.1 hf with hf|hf
 ·obtain⟨g,hg,hf⟩:=List.mem_flatMap.1 hf;have:=hc g hg;unfold z1E at hf;unfold zfC at hn
  repeat' split at hf
  all_goals simp at hf
  all_goals grind
 ·unfold zfC at hn;split at hf
  ·simp at hf;subst hf;exact hn.1 (.inl (by assumption))
  ·cases hf
def zcy(s:zB):Prop:=s=[]∨(s.length≤200∧∃r,z2P 1000 s=some r)
structure ChRd(h:Chg):Prop where
 f:h.f.length≤20
 n:h.n.length≤20
 m:h.m.length≤20
 x:zcy h.x
 o:zcy h.o
theorem zif{s:zB}(h:s=[]∨s∈exL):zcy s:=by
 rcases h with h|h
 ·exact .inl h
 ·obtain⟨_,h2,r,hr,_⟩:=zhG h;exact .inr ⟨by omega,r,hr⟩
theorem ChIn.rd{h:Chg}(hi:ChIn h):ChRd h:=⟨hi.f,hi.n,hi.m,zif hi.x,zif hi.o⟩
structure RawL where
 c:Raw
 hs:List RawH
def z3g(l:Ln)(r:RawH):Ln:=if okV (z13 l) (z3u r (z13 l))then⟨l.c,l.hs++[z3u r (z13 l)]⟩ else l
def z2O(x:RawL):Ln:=(x.hs.take 5).foldl z3g ⟨z0x x.c,[]⟩
structure GoodL(l:Ln):Prop where
 r:zY l=true
 n:∀f∈(z13 l).fs,f.n∈nmL
 h:∀h∈l.hs,ChRd h
theorem znJ{l:Ln}(hg:GoodL l)(h12:l.hs.length<12)(r:RawH):GoodL (z3g l r):=by
 unfold z3g;by_cases ho:okV (z13 l) (z3u r (z13 l))=true
 ·rw[if_pos ho];obtain⟨a,b⟩:=znW hg.r h12 ho;refine⟨a,?_,fun h hh=> ?_⟩
  ·rw[b];exact ziY ho hg.n (znf r _)
  ·rcases List.mem_append.1 hh with hh|hh
   ·exact hg.h h hh
   ·obtain rfl:=List.mem_singleton.1 hh;exact(zeQ r hg.n).rd
 ·rw[if_neg ho];exact hg
theorem zpz(l:Ln)(r:RawH):(z3g l r).hs.length≤l.hs.length+1∧(z3g l r).c=l.c:=by
 unfold z3g;split
 ·simp
 ·simp
theorem z8D:∀(rs:List RawH) (l:Ln),GoodL l→l.hs.length+rs.length≤12→GoodL (rs.foldl z3g l)∧(rs.foldl z3g l).hs.length≤l.hs.length+rs.length∧(rs.foldl z3g l).c=l.c
 |[],l,h,_=>⟨h,by simp,rfl⟩
 |r::rs,l,h,hl=>by
  have h1:=zpz l r;simp only[List.length_cons]at hl;obtain⟨a,b,c⟩:=z8D rs (z3g l r) (znJ h (by omega) r) (by omega);exact⟨a,by simp only[List.foldl_cons,List.length_cons];omega,by rw[List.foldl_cons,c,h1.2]⟩
theorem zaP(x:Raw):GoodL ⟨z0x x,[]⟩:=by
 have hr:=(zeT x).right;refine⟨?_,?_,fun h hh=>by cases hh⟩
 ·simp[zY,zp,z3h,hr]
 ·exact zgM x
theorem zgY(x:RawL):GoodL (z2O x)∧(z2O x).hs.length≤5∧(z2O x).c=z0x x.c:=by
 have hl:=List.length_take_le 5 x.hs;obtain⟨a,b,c⟩:=z8D (x.hs.take 5) ⟨z0x x.c,[]⟩ (zaP x.c) (by simp;omega);exact⟨a,by unfold z2O;simp at b;omega,c⟩
def z3c(s:List Ln)(x:RawL):List Ln:=if(z0E s (z2O x).c.n).2 then s else s++[z2O x]
def z4b(l:List RawL):List Ln:=if(l.take 4).foldl z3c []=[] then [⟨z0x ⟨0,[]⟩,[]⟩] else(l.take 4).foldl z3c []
structure GoodS(s:List Ln):Prop where
 r:RightS s
 g:∀l∈s,GoodL l∧l.hs.length≤5∧∃x,l.c=z0x x
theorem zfw{s:List Ln}{n:zB}(h:(z0E s n).2=false):∀l∈s,l.c.n≠n:=by
 unfold z0E at h;split at h
 ·cases h
 ·rename_i hn;rw[List.findIdx?_eq_none_iff]at hn;intro l hl e;have:=hn l hl;simp[e]at this
theorem zlf{s:List Ln}(h:GoodS s)(hl:s.length<8)(x:RawL):GoodS (z3c s x)∧(z3c s x).length≤s.length+1:=by
 unfold z3c;cases hn:(z0E s (z2O x).c.n).2
 ·rw[if_neg (by simp)];have hx:=zgY x;have hno:=zfw hn;refine⟨⟨⟨by simp;omega,fun l hm=> ?_,fun i j a b ha hb he=> ?_⟩,fun l hm=> ?_⟩,by simp⟩
  ·rcases List.mem_append.1 hm with hm|hm
   ·exact h.r.line l hm
   ·obtain rfl:=List.mem_singleton.1 hm;exact hx.1.r
  ·have key:∀(i:Nat) a,(s++[z2O x])[i]?=some a→(i<s.length∧s[i]?=some a)∨(i=s.length∧a=z2O x):=fun i a ha=>by
    rw[List.getElem?_append]at ha;split at ha
    ·exact .inl ⟨by assumption,ha⟩
    ·rename_i hi;have:=(gJ ha)
     obtain⟨h1,h2⟩:=this;simp at h1;exact .inr ⟨by omega,by simp at h2;exact h2.symm⟩
   rcases key i a ha with⟨h1,h2⟩|⟨h1,rfl⟩<;>rcases key j b hb with⟨h3,h4⟩|⟨h3,rfl⟩
   ·exact h.r.own i j a b h2 h4 he
   ·exact absurd he (hno a (gM h2))
   ·exact absurd he.symm (hno b (gM h4))
   ·omega
  ·rcases List.mem_append.1 hm with hm|hm
   ·exact h.g l hm
   ·obtain rfl:=List.mem_singleton.1 hm;exact⟨hx.1,hx.2.1,x.c,hx.2.2⟩
 ·rw[if_pos rfl];exact⟨h,by omega⟩
theorem z7J:∀(xs:List RawL) (s:List Ln),GoodS s→s.length+xs.length≤8→GoodS (xs.foldl z3c s)∧(xs.foldl z3c s).length≤s.length+xs.length
 |[],s,h,_=>⟨h,by simp⟩
 |x::xs,s,h,hl=>by
  simp only[List.length_cons]at hl;obtain⟨h1,h2⟩:=zlf h (by omega) x;obtain⟨a,b⟩:=z7J xs (z3c s x) h1 (by omega);exact⟨a,by simp only[List.foldl_cons,List.length_cons];omega⟩
theorem zdw:GoodS []:=⟨⟨by decide,fun l h=>(by cases h),fun i j a b h=>(by cases h)⟩,fun l h=>(by cases h)⟩
theorem zeh(l:List RawL):GoodS (z4b l)∧(z4b l).length≤4∧z4b l≠[]:=by
 have hl:=List.length_take_le 4 l;obtain⟨a,b⟩:=z7J (l.take 4) [] zdw (by simp;omega);unfold z4b;by_cases h:(l.take 4).foldl z3c []=[]
 ·rw[if_pos h];have hg:=zaP ⟨0,[]⟩;refine⟨⟨⟨by simp,fun x hx=> ?_,fun i j a b ha hb _=> ?_⟩,fun x hx=> ?_⟩,by simp,by simp⟩
  ·obtain rfl:=List.mem_singleton.1 hx;exact hg.r
  ·have h1:=(gJ ha).1;have h2:=(gJ hb).1;simp at h1 h2;omega
  ·obtain rfl:=List.mem_singleton.1 hx;exact⟨hg,by simp,_,rfl⟩
 ·rw[if_neg h];exact⟨a,by simp at b;omega,h⟩
end Go.Mor
end

section
namespace Go.Proofs.YtpmlapgbmgbilaaGreatDoor
open Go Go.RowKit Go.Mor Go.Sh Go.Sh.Cd1
section
open Go.Sh.Cd7
theorem z8x(l:List Fld)(s:zB):∃p:Nat,z29 l s=.tuple [I (p:Int),B (z0G l s)]∧(z0G l s=true→atV l s=p):=by
 unfold z29 z0G;by_cases h:fieldAt l s<0
 ·rw[if_pos h];exact⟨0,by simp[h],fun h'=>by simp[h]at h'⟩
 ·rw[if_neg h];refine⟨(fieldAt l s).toNat,?_,fun _=>rfl⟩;rw[decide_eq_false h,Int.toNat_of_nonneg (by omega)];rfl
theorem z4W(l:List Fld)(s b:zB):z2B l s b=(!z0G l s||s==b):=by unfold z2B z0G;simp
theorem z95(g:Sh.Glob)(c:Cls)(h:Chg)(hc:ClsOk c)(hf:z0B h.f)(hn:z0B h.n)(hm:z0B h.m)(hx:RTx h.x)(ho:RTx h.o):zC g 29 [clT c,chT h] [] (B (okV c h)) []:=by
 have HC:=z6e g c hc;have HW:=zg3 g h hf hn hm hx ho;have F1:=z3U g c h.f hc.len;have F2:=z3U g c h.n hc.len;have F3:=z3U g c h.m hc.len;have T1:=zat g h.x c h.t hx hc;have T2:=zat g h.o c h.t ho hc;obtain⟨p1,e1,a1⟩:=z8x c.fs h.f;obtain⟨p2,e2,a2⟩:=z8x c.fs h.n;obtain⟨p3,e3,a3⟩:=z8x c.fs h.m;rw[e1]at F1;rw[e2]at F2;rw[e3]at F3;have hlen:=hc.len;obtain⟨k,f,n,m,⟨tk,ot⟩,x,o⟩:=h
 dsimp only at*
 have hO:okV c ⟨k,f,n,m,⟨tk,ot⟩,x,o⟩=(zd c&&(z04 ⟨k,f,n,m,⟨tk,ot⟩,x,o⟩&&z0H c ⟨k,f,n,m,⟨tk,ot⟩,x,o⟩)):=by unfold okV;rw[Bool.and_assoc]
 rw[hO];clear hO;have hk6:z04 ⟨k,f,n,m,⟨tk,ot⟩,x,o⟩=true→(k=1∨k=2∨k=3∨k=4∨k=5∨k=6)∧((k=1∨k=3)→(n==[])=false):=fun hw=>by
  have hk:k=1∨k=2∨k=3∨k=4∨k=5∨k=6:=by
   unfold z04 z0A at hw
   dsimp only at hw
   by_cases h1:k=1
   ·omega
   by_cases h2:k=2∨k=6
   ·omega
   by_cases h3:k=3
   ·omega
   by_cases h4:k=4
   ·omega
   by_cases h5:k=5
   ·omega
   simp[h1,h2,h3,h4,h5]at hw
  refine⟨hk,fun h13=> ?_⟩;have hrn:zb n=true:=by
   rcases h13 with rfl|rfl
   ·simp only[z04,z0A,z1C,if_true,Bool.and_eq_true]at hw;exact hw.1.1.1.1.2
   ·simp only[z04,z0A,z1C,show ¬(3:Int)=1 from by decide,show ¬(3:Int)=2 from by decide,show ¬(3:Int)=6 from by decide,false_or,if_false,if_true,Bool.and_eq_true]at hw;exact hw.1.1.1.1.2
  cases n with
  |nil=>revert hrn;decide
  |cons b r=>rfl
 generalize hwv:z04 ⟨k,f,n,m,⟨tk,ot⟩,x,o⟩=bw at*;generalize hx1:(zz c x ⟨tk,ot⟩).is=b1 at*;generalize hx2:(zz c o ⟨tk,ot⟩).is=b2 at*;generalize hh1:z0G c.fs f=f1 at*;generalize hh2:z0G c.fs n=f2 at*;generalize hh3:z0G c.fs m=f3 at*;have w:=hc.len;refine za tf_161 ?_;unfold clT chT tyT B at*;cases hrc:zd c
 ·rw[hrc]at HC;simp only[vW,seval];refine z8 HC ?_;try trivial
 rw[hrc]at HC;cases bw with
 |false=>
  simp only[vW,seval];refine z8 HC ?_;refine z8 HW ?_;try trivial
 |true=>
 obtain⟨hk,hnn⟩:=hk6 rfl;clear hk6;simp only[vW,seval];refine z8 HC ?_;refine z8 HW ?_;refine z8 F1 ?_;refine z8 F2 ?_;refine z7 F3 ?_;simp only[vW,seval,clV];refine z7 T1 ?_;rcases hk with rfl|rfl|rfl|rfl|rfl|rfl
 ·have hm:z0H c ⟨1,f,n,m,⟨tk,ot⟩,x,o⟩=(decide (c.fs.length<8)&&(!f2&&b1)):=by
   simp only[z0H,z4W,show ¬(1:Int)=2 from by decide,show ¬(1:Int)=3 from by decide,show ¬(1:Int)=4 from by decide,show ¬(1:Int)=5 from by decide,if_false,if_true,hx1,hx2,hh1,hh2,hh3,hnn (.inl rfl)];simp only[Bool.or_false,Bool.and_assoc]
  rw[hm];clear hm;by_cases h8:c.fs.length<8
  ·have d8:(c.fs.length:Int)<8:=by omega
   rw[decide_eq_true h8];cases f2<;>cases b1<;>(
    simp only[vW,seval,d8,clV];try rfl)
  ·have d8:¬(c.fs.length:Int)<8:=by omega
   rw[decide_eq_false h8];cases f2<;>cases b1<;>(
    simp only[vW,seval,d8,clV];try rfl)
 ·have hm:z0H c ⟨2,f,n,m,⟨tk,ot⟩,x,o⟩=(f1):=by
   simp only[z0H,z4W,show ¬(2:Int)=1 from by decide,show ¬(2:Int)=3 from by decide,show ¬(2:Int)=4 from by decide,show ¬(2:Int)=5 from by decide,if_false,if_true,hx1,hx2,hh1,hh2,hh3]
  rw[hm];clear hm;simp only[vW,seval];try rfl
 ·have hm:z0H c ⟨3,f,n,m,⟨tk,ot⟩,x,o⟩=(f1&& !f2):=by
   simp only[z0H,z4W,show ¬(3:Int)=1 from by decide,show ¬(3:Int)=2 from by decide,show ¬(3:Int)=4 from by decide,show ¬(3:Int)=5 from by decide,if_false,if_true,hx1,hx2,hh1,hh2,hh3,hnn (.inr rfl)];simp only[Bool.or_false,Bool.and_assoc]
  rw[hm];clear hm;cases f1<;>cases f2<;>(
   simp only[vW,seval];try rfl)
 ·have hm:z0H c ⟨4,f,n,m,⟨tk,ot⟩,x,o⟩=(f1&&b1):=by
   simp only[z0H,z4W,show ¬(4:Int)=1 from by decide,show ¬(4:Int)=2 from by decide,show ¬(4:Int)=3 from by decide,show ¬(4:Int)=5 from by decide,if_false,if_true,hx1,hx2,hh1,hh2,hh3]
  rw[hm];clear hm;cases f1<;>cases b1<;>(
   simp only[vW,seval];try rfl)
 ·have hm:z0H c ⟨5,f,n,m,⟨tk,ot⟩,x,o⟩=(f1&&(decide (c.fs.length<8)&&(!(n==m)&&((!f2||n==f)&&((!f3||m==f)&&(b1&&b2)))))):=by
   simp only[z0H,z4W,show ¬(5:Int)=1 from by decide,show ¬(5:Int)=2 from by decide,show ¬(5:Int)=3 from by decide,show ¬(5:Int)=4 from by decide,if_false,if_true,hx1,hx2,hh1,hh2,hh3];simp only[Bool.or_false,Bool.and_assoc]
  rw[hm];clear hm;generalize hq1:(n==m)=q1;generalize hq2:(n==f)=q2;generalize hq3:(m==f)=q3;cases f1
  ·simp only[vW,seval,clV];try rfl
  by_cases h8:c.fs.length<8
  case neg=>
   have d8:¬(c.fs.length:Int)<8:=by omega
   rw[decide_eq_false h8];simp only[vW,seval,d8,clV];try rfl
  have d8:(c.fs.length:Int)<8:=by omega
  rw[decide_eq_true h8];cases q1
  case true=>
   simp only[vW,seval,d8,clV,hq1];try rfl
  have fin:(!f2||q2)=true→(!f3||q3)=true→b1=true→(b2=(true&&(true&&(!false&&((!f2||q2)&&((!f3||q3)&&(b1&&b2))))))):=fun r1 r2 r3=>by rw[r1,r2,r3];rfl
  cases f2
  ·cases f3
   ·cases b1
    ·simp only[vW,seval,d8,clV,hq1];try rfl
    ·simp only[vW,seval,d8,clV,hq1];refine z8 T2 ?_;try trivial
   ·cases q3
    ·simp only[vW,seval,d8,clV,hq1,hq3];try rfl
    ·cases b1
     ·simp only[vW,seval,d8,clV,hq1,hq3];try rfl
     ·simp only[vW,seval,d8,clV,hq1,hq3];refine z8 T2 ?_;try trivial
  ·cases q2
   ·simp only[vW,seval,d8,clV,hq1,hq2];try rfl
   ·cases f3
    ·cases b1
     ·simp only[vW,seval,d8,clV,hq1,hq2];try rfl
     ·simp only[vW,seval,d8,clV,hq1,hq2];refine z8 T2 ?_;try trivial
    ·cases q3
     ·simp only[vW,seval,d8,clV,hq1,hq2,hq3];try rfl
     ·cases b1
      ·simp only[vW,seval,d8,clV,hq1,hq2,hq3];try rfl
      ·simp only[vW,seval,d8,clV,hq1,hq2,hq3];refine z8 T2 ?_;try trivial
 ·have hm:z0H c ⟨6,f,n,m,⟨tk,ot⟩,x,o⟩=(f1&&decide ((c.fs.getD p1 z4B).t.k≤3)):=by
   simp only[z0H,z4W,show ¬(6:Int)=1 from by decide,show ¬(6:Int)=2 from by decide,show ¬(6:Int)=3 from by decide,show ¬(6:Int)=4 from by decide,show ¬(6:Int)=5 from by decide,if_false,if_true,hx1,hx2,hh1,hh2,hh3];cases f1
   ·rfl
   ·rw[a1 rfl]
  rw[hm];clear hm;cases f1
  ·simp only[vW,seval];refine z8 F1 ?_;try trivial
  obtain⟨y,ey⟩:∃y,c.fs[p1]?=some y:=by
   obtain⟨y,ey,_⟩:=Go.Mor.has_at (c:=c) hh1;exact⟨y,by rw[←a1 rfl];exact ey⟩
  rw[Go.Mor.getD_of ey];by_cases h3:y.t.k≤3
  ·simp only[vW,seval];refine z7 F1 ?_;simp only[vW,seval,clV,ey,h3];try rfl
  ·simp only[vW,seval];refine z7 F1 ?_;simp only[vW,seval,clV,ey,h3];try rfl
end
section
open Go.Sh.Cd6
theorem z7T(g:Sh.Glob)(c n:Int)(hc:I64 c)(hn:0<n):zC g 35 [I c,I n] [] (I (Go.Mor.pick c n)) []:=by
 obtain⟨h0,h1⟩:=hc;refine za tf_123 ?_;have hne:¬n=0:=by omega
 unfold Go.Mor.pick;by_cases hneg:c<0
 ·rw[if_pos hneg];have w1:IntKind.i64.wrap (c+1)=c+1:=wrap64 (by omega) (by omega);have w2:IntKind.i64.wrap (0-(c+1))= -(c+1):=wG;have hm:(-(c+1)).tmod n=(-(c+1))%n:=Int.tmod_eq_emod_of_nonneg (by omega);simp only[vW,seval,hneg,hne,w1,w2,hm]
 ·rw[if_neg hneg];have hm:c.tmod n=c%n:=Int.tmod_eq_emod_of_nonneg (by omega);simp only[vW,seval,hneg,hne,hm]
theorem zf9(l:List Fld)(f:Fld):flR (l++[f])=flR l++[flR1 f]:=by unfold flR;rw[List.map_append];rfl
theorem zgQ(l:List Fld)(s:zB):∃(p:Int) (t:Bool),z29 l s=.tuple [I p,.pv (.v (.bool t))]∧(fieldAt l s<0 ↔ t=false):=by
 unfold z29 B;by_cases h:fieldAt l s<0
 ·rw[if_pos h];exact⟨0,false,rfl,fun _=>rfl,fun _=>h⟩
 ·rw[if_neg h];exact⟨_,true,rfl,fun h'=>absurd h' h,fun h'=>by cases h'⟩
theorem z6R(g:Sh.Glob)(x:Raw)(hx:RawOk x):zC g 12 [zfZ x] [] (clT (z0x x)) []:=by
 have PN:=z7T g x.n 6 hx.n (by decide);have hb:=z0c x.n 6 (by decide);have hlx:=hx.len;obtain⟨q,hq⟩:=Int.eq_ofNat_of_zero_le hb.1;have ec:=zrO (i:=q) (by omega);have e0:z0x x=⟨nmC (q:Int),(x.fs.take 6).foldl z1Q []⟩:=by unfold z0x;rw[hq]
 rw[e0];rw[hq]at PN;refine z27 tf_122 ?_;unfold zfZ clT;simp only[vW,seval];refine z7 PN ?_;simp only[vW,seval,ec];refine zk (σ:={i:Nat // i≤x.fs.length∧i≤6}) (fun i=>⟨[(1,.ptr 1 0),(2,.ptr 2 0),(3,.pv (.sl 1 [[PV.v (.string ⟨#[97]⟩)],[.v (.string ⟨#[98,50]⟩)],[.v (.string ⟨#[110,97,109,101]⟩)],[.v (.string ⟨#[110,101,120,116,95,111,110,101]⟩)],[.v (.string ⟨#[107,105,100,115]⟩)],[.v (.string ⟨#[120]⟩)]])),(4,.ptr 4 0),(5,I (i.1:Int))],
   [(1,[I x.n,.pv (.sl 4 (rfR x.fs))]),(2,[S ⟨#[]⟩,zn]),(4,[S (str (nmC (q:Int))),.own 3000 4 (flR ((x.fs.take i.1).foldl z1Q []))])],[(3000,(71,4,((x.fs.take i.1).foldl z1Q []).length))],[]⟩) (fun i=>6-i.1) ⟨0,Nat.zero_le _,Nat.zero_le _⟩ ?_ ?_
 ·refine ES.Lw.trans ?_ (z5k (x:=4) (j:=1) (d:=3000) (e:=71) (W:=4) (.inr (by decide)) (by decide) rfl (by simp only[vcA,seval]) rfl);exact z18 rfl
 rintro⟨i,hi,hi6⟩;by_cases hlt:i<x.fs.length∧i<6
 ·obtain⟨hlt,hl6⟩:=hlt;have d1:(i:Int)<(x.fs.length:Int):=by omega
  have d2:(i:Int)<6:=by omega
  obtain⟨r,er⟩:∃r,x.fs[i]?=some r:=⟨_,gE hlt⟩
  have w1:=wS i;obtain⟨r1,r2,r3⟩:=hx.fs r (gM er);have P1:=z7T g r.n 6 r1 (by decide);have P2:=z7T g r.k 5 r2 (by decide);have P3:=z7T g r.o 4 r3 (by decide);have b1:=z0c r.n 6 (by decide);have b2:=z0c r.k 5 (by decide);have b3:=z0c r.o 4 (by decide);have hst:=zbz x.fs i r er;have hal:=zkD x.fs i;rw[z1Q]at hst;have hF:z3y r=⟨nmF (Go.Mor.pick r.n 6),⟨1+Go.Mor.pick r.k 5,if Go.Mor.pick r.k 5=4 then 1+Go.Mor.pick r.o 4 else 0⟩,r.ix&&decide (1+Go.Mor.pick r.k 5≤3)⟩:=rfl;rw[hF]at hst;simp only[]at hst;obtain⟨j,hj⟩:=Int.eq_ofNat_of_zero_le b1.1;have ej:=zrP (i:=j) (by omega);rw[hj]at P1 hst;change _=(if fieldAt ((x.fs.take i).foldl z1Q []) (nmF (j:Int))<0 then _ else(x.fs.take i).foldl z1Q [])at hst;generalize(x.fs.take i).foldl z1Q []=acc at*;generalize Go.Mor.pick r.k 5=b at*;generalize Go.Mor.pick r.o 4=o at*;have HF:=z3U g ⟨nmC (q:Int),acc⟩ (nmF (j:Int)) (by show acc.length≤_;omega);obtain⟨p,t,hp,ht⟩:=zgQ acc (nmF (j:Int));rw[show z29 (Cls.fs ⟨nmC (q:Int),acc⟩) (nmF (j:Int))=_ from hp]at HF;unfold clT at HF;have w2:IntKind.i64.wrap (1+b)=1+b:=wrap64 (by omega) (by omega);have w3:IntKind.i64.wrap (1+o)=1+o:=wrap64 (by omega) (by omega);have hfl:=z2e acc;by_cases h4:b=4
  ·have d5:1+b=5:=by omega
   have d3:¬1+b≤3:=by omega
   have hix:(r.ix&&decide (1+b≤3))=false:=by rw[decide_eq_false d3,Bool.and_false]
   rw[if_pos h4,hix,d5]at hst;have w5:IntKind.i64.wrap 5=5:=wrap64 (by omega) (by omega);cases hr:r.ix;all_goals(
    simp only[vW,seval,zjQ,zc6,z84,d1,d2,er,zn];refine z7 P1 ?_;simp only[vW,seval,ej];refine z7 P2 ?_;simp only[vW,seval,w2,d5,w5];refine z7 P3 ?_;simp only[vW,seval,w3,hr];refine z7 HF ?_;cases t
    ·rw[if_pos (ht.2 rfl)]at hst;simp only[vW,seval,hfl,w1];refine⟨⟨by omega,by unfold maxLen;omega⟩,zc ⟨i+1,hlt,hl6⟩ (by show 6-(i+1)<6-i;omega) ?_⟩;simp only[hst,zf9,List.length_append,List.length_singleton];apply z0e<;>simp[leL,lk,sv,Nat.beq,I,S,ES.kill,has,drp,zn,flR1]
    ·rw[if_neg (fun h=>Bool.noConfusion (ht.1 h))]at hst;simp only[vW,seval,w1];refine zc ⟨i+1,hlt,hl6⟩ (by show 6-(i+1)<6-i;omega) ?_;simp only[hst];exact lwA)
  ·have d5:¬1+b=5:=by omega
   rw[if_neg h4]at hst;have hc:(r.ix=false∧(True∨False)∧(r.ix&&decide (1+b≤3))=false)∨(r.ix=true∧1+b≤3∧(r.ix&&decide (1+b≤3))=true)∨(r.ix=true∧¬1+b≤3∧(r.ix&&decide (1+b≤3))=false):=by
    cases r.ix
    ·exact .inl ⟨rfl,.inl trivial,rfl⟩
    ·by_cases h:1+b≤3
     ·exact .inr (.inl ⟨rfl,h,by rw[decide_eq_true h];rfl⟩)
     ·exact .inr (.inr ⟨rfl,h,by rw[decide_eq_false h];rfl⟩)
   rcases hc with⟨hr,d3,hix⟩|⟨hr,d3,hix⟩|⟨hr,d3,hix⟩
   all_goals(
    rw[hix]at hst;simp only[vW,seval,zjQ,zc6,z84,d1,d2,er,zn];refine z7 P1 ?_;simp only[vW,seval,ej];refine z7 P2 ?_;simp only[vW,seval,w2,d5,hr,d3];refine z7 HF ?_;cases t
    ·rw[if_pos (ht.2 rfl)]at hst;simp only[vW,seval,hfl,w1];refine⟨⟨by omega,by unfold maxLen;omega⟩,zc ⟨i+1,hlt,hl6⟩ (by show 6-(i+1)<6-i;omega) ?_⟩;simp only[hst,zf9,List.length_append,List.length_singleton];apply z0e<;>simp[leL,lk,sv,Nat.beq,I,S,ES.kill,has,drp,zn,flR1]
    ·rw[if_neg (fun h=>Bool.noConfusion (ht.1 h))]at hst;simp only[vW,seval,w1];refine zc ⟨i+1,hlt,hl6⟩ (by show 6-(i+1)<6-i;omega) ?_;simp only[hst];exact lwA)
 ·have he:(x.fs.take i).foldl z1Q []=(x.fs.take 6).foldl z1Q []:=by
   by_cases h:i<6
   ·have h1:x.fs.length≤i:=by omega
    rw[List.take_of_length_le h1,List.take_of_length_le (by omega)]
   ·obtain rfl:i=6:=by omega
    rfl
  rw[←he];by_cases hl:i<x.fs.length
  ·have d1:(i:Int)<(x.fs.length:Int):=by omega
   have d2:¬(i:Int)<6:=by omega
   simp only[vW,seval,zc6,d1,d2,zn]
  ·have d1:¬(i:Int)<(x.fs.length:Int):=by omega
   simp only[vW,seval,zc6,d1,zn]
end
end Go.Proofs.YtpmlapgbmgbilaaGreatDoor
end

section
namespace Go.Sh.Cd10
open Go Go.Sh
abbrev gQ(a:GA):Prop:=gT Go.Proofs.Tryz.prog a
theorem gK{a:GA}(h:gQ a:=by unfold gQ gT;kernel_rfl):gQ a:=h
theorem tf_130:gQ ⟨4,143,[],[],[[2],[24],[0,25026],[27],[],[28031],[14,33034],[32,35044],[45050],[7008,10011,51061],[3006,9,62],[2,9,62068],[13,69],[3006,12,70],[2,12,70071],[],[72079],[81082],[80,83095],[96101],[15016,18019,102112],[3006,14,17,113],[2,17,113120],[21,121],[3006,14,20,122],[2,20,122123],[6,124128],[3005,22023,129142]],[.tmp 2],false⟩:=gK
theorem tf_132:gQ ⟨5,168,[],[],[[0],[24027],[28033],[34040],[41047],[48052],[53057],[12,58062],[1,14,63068],[69073],[74078],[20,79083],[22,84088],[2011,13,15019,21,23,89167]],[.tmp 0],false⟩:=gK
theorem tf_131:gQ ⟨6,50,[(23,0),(29,0),(37,0),(45,0),(47,0)],[],[[],[8],[],[9015],[5,17018,33],[16,19023],[6,24031],[7,32],[5,33039],[0,4,40042],[43048],[3,43,49]],[.cell true 1 2],false⟩:=gK
theorem tf_129:gQ ⟨9,25,[],[],[[0],[5006],[],[7010],[12013],[11,14023],[1,3004,24]],[.cell true 2 2],false⟩:=gK
theorem tf_176:gQ ⟨10,59,[(16,0),(33,0),(35,0),(43,0),(54,0)],[],[[0,2,7],[13018],[19],[1,3,5,8009,20022],[7,9,20,23025],[1,3,5,8,26027],[7008,10,26,28037],[38],[1,3,5,11,39041],[3,7,11,39,42043],[1,5,44057],[12,58]],[.cell true 1 6,.tmp 7],false⟩:=gK
theorem tf_173:gQ ⟨11,20,[],[],[[0,4005],[1002,8013],[14],[6007,15016],[6007,15,17019]],[.tmp 4,.tmp 5],false⟩:=gK
theorem tf_168:gQ ⟨13,50,[(13,0),(21,0),(28,0),(40,0),(44,0),(46,0)],[],[[1000001,5],[6,11015],[16],[2003,7,17019],[5,7,17,20021],[2003,22023],[5,8,22,24030],[9,31036],[2003,37038],[2,5,37,39040],[3,41048],[10,49]],[.cell true 1 4,.tmp 5],false⟩:=gK
theorem tf_172:gQ ⟨14,23,[],[],[[0,4005],[2,8],[],[12015],[7,16019],[1,6,9011,20021],[4006,20,22],[1,9011]],[.tmp 4,.tmp 5],false⟩:=gK
theorem tf_169:gQ ⟨15,34,[],[],[[0,7],[1,3,10015],[16],[2,8009,17019],[7,9,17,20027],[2,8,28029],[2,8,28,30033]],[.cell true 2 6,.tmp 7],false⟩:=gK
theorem tf_171:gQ ⟨21,38,[],[],[[0,2003],[8010],[1,11],[2003,11012],[],[16019],[7,20027],[5006,28034],[1,4,13015,35036],[2004,35,37],[1,13015]],[.tmp 2,.tmp 3],false⟩:=gK
theorem tf_174:gQ ⟨22,10,[(9,1)],[],[[1000001,4],[2003,5009]],[.tmp 4],false⟩:=gK
theorem tf_170:gQ ⟨23,44,[],[],[[0,10011],[1,5,14019],[20],[2004,12013,21022],[10011,13,21,23035],[2004,12,36],[2004,12,36043]],[.tmp 10,.tmp 11],false⟩:=gK
theorem tf_162:gQ ⟨24,27,[],[],[[4],[6009],[1000001,10],[4,10],[11013],[4,15016,26],[14,17025],[1000001,5,26],[1000001,5]],[.tmp 4],false⟩:=gK
theorem tf_128:gQ ⟨25,41,[(9,0),(29,0),(30,0),(37,0)],[],[[0],[7010],[],[11018],[5,20021,33],[19,22032],[6],[5,33039],[1,3004,40]],[.cell true 3 2],false⟩:=gK
theorem tf_167:gQ ⟨26,24,[],[],[[0,4005],[],[7010],[4005,12013,22],[11,14021],[1002,6,22023],[1002,6]],[.tmp 4,.tmp 5],false⟩:=gK
theorem tf_159:gQ ⟨30,52,[(9,0),(14,0),(35,0),(48,0)],[],[[1000001,5],[8009],[2003,10011],[5,10,12014],[2003,15016],[5,15,17019],[],[20023],[25026],[24,27037],[2,7,38039],[3,40050],[3,6,40,51]],[.cell true 2 4,.tmp 5],false⟩:=gK
theorem tf_179:gQ ⟨31,32,[],[],[[0,5],[6,8012],[13],[1002,7,14016],[5,7,14,17024],[1002,25026],[1002,25,27031]],[.cell true 3 4,.tmp 5],false⟩:=gK
abbrev c_180_0:=kV [2,3,4] [kO 2 0,kO 3 1,oD 4 (.new [(.string ⟨#[]⟩),(.slice none 0 0)])] [0,1]
abbrev c_180_1:=kV [5] [oD 5 (.new [(.int .i64 0)]),oN (.st 1 (.tmp 5) (vI 0))] []
abbrev c_180_2:=kV [2032,2033,2034,2035] [oL 7 true 3 2,kC 8 62 0 7] [2,7]
abbrev c_180_3:=kR [oD 17 (.build [(.string ⟨#[]⟩),(.slice none 0 0)] []),kS 2 4 17] [3,5,8,17]
noncomputable abbrev F_180:SFunc:=⟨18,(.seq c_180_0 (.seq c_180_1 (.seq (.seq c_180_2 (.block 0 (.raw 18 (z6C Go.Proofs.Tryz.prog 33 0)))) (.seq c_180_3 .ret)))),[.cell true 2 4],false⟩
theorem tf_180:zW Go.Proofs.Tryz.prog 33 (z3D [(8,0)]) (fpT []) (z3E [(0,[0,1]),(2,[2,7]),(7,[3,5,8,17])]) false=some F_180:=by kernel_rfl
theorem tf_111:gQ ⟨34,7,[(5,1)],[],[[0],[1,3006]],[.cell true 1 2],false⟩:=gK
theorem tf_110:gQ ⟨38,8,[(5,1)],[],[[0],[3006],[1,7]],[.cell true 2 2],false⟩:=gK
abbrev c_181_0:=kV [1,2] [kO 1 0,oD 2 (.new [(.bool false)])] [0]
abbrev c_181_1:=kR [kA 5 2 1,oL 6 false 1 5,kZ 7 6,kK 8 .gtr 3 7 12] [5,6,7]
abbrev c_181_2:=kR [oN (.st 1 (.tmp 2) (.val (.bool false)))] [1,8]
abbrev c_181_3:=kV [2040,2041,2042,2043] [oL 9 true 3 1,kC 10 62 0 9] [1,8,9]
abbrev c_181_4:=kR [oN (.st 1 (.tmp 2) (.val (.bool true)))] [10]
noncomputable abbrev F_181:SFunc:=⟨15,(.seq c_181_0 (.seq (.seq c_181_1 (.cond (.tmp 8) (.seq c_181_2 .ret) .skip)) (.seq (.seq c_181_3 (.block 0 (.raw 15 (z6C Go.Proofs.Tryz.prog 49 0)))) (.seq c_181_4 .ret)))),[.cell false 1 2],false⟩
theorem tf_181:zW Go.Proofs.Tryz.prog 49 (z3D [(10,0)]) (fpT []) (z3E [(0,[0]),(1,[5,6,7]),(2,[1,8]),(3,[1,8,9]),(7,[10])]) false=some F_181:=by kernel_rfl
theorem tf_175:gQ ⟨51,17,[(15,1)],[],[[1000001,4],[2003,5016]],[.tmp 4],false⟩:=gK
abbrev c_177_0:=kV [4,5,6] [kO 4 0,kO 5 1,kO 6 2,oD 8 (.mov (.val (.slice none 0 0))),kI 9 0] [0,1,2,8,9]
abbrev c_177_1:=kV [2064,2065,2066,2067,10,11,12] [oM 15 3,kC 16 78 0 15,oD 10 (.new [(.int .i64 0)]),oD 11 (.new [(.slice none 0 0)]),oD 12 (.new [(.int .i64 0)]),oN (.st 1 (.tmp 10) (vI 0)),kS 1 11 16,oN (.st 1 (.tmp 12) (vI 0))] [3,15,16]
abbrev c_177_2:=kV [13] [oD 17 (.mkf (.func 79) [] [.tmp 10,.tmp 5,.tmp 11,.tmp 12,.tmp 6,.tmp 4]),oD 13 (.new [.nilFunc]),kS 1 13 17] [5,6,10,17]
abbrev c_177_3:=kV [2076,2077,2078,2079] [oL 18 true 3 4,kC 19 62 0 18] [4,18]
abbrev c_177_4:=kR [oL 26 false 1 12,kK 27 .neq 47 26 0] [13,19,26]
abbrev c_177_5:=kR [oL 28 false 1 12,oD 8 (.mov (.val (.slice none 0 0))),oM 9 28] [11,12,27,28]
abbrev c_177_6:=kR [oL 29 false 1 11,oM 8 29,kI 9 0] [11,12,27,29]
noncomputable abbrev F_177:SFunc:=⟨30,(.seq c_177_0 (.seq c_177_1 (.seq c_177_2 (.seq (.seq c_177_3 (.block 0 (.raw 30 (z6C Go.Proofs.Tryz.prog 54 0)))) (.seq (.seq c_177_4 (.cond (.tmp 27) (.seq c_177_5 .ret) .skip)) (.seq c_177_6 .ret)))))),[.tmp 8,.tmp 9],false⟩
theorem tf_177:zW Go.Proofs.Tryz.prog 54 (z3D [(16,0),(19,0),(24,1)]) (fpT []) (z3E [(0,[0,1,2,8,9]),(1,[3,15,16]),(2,[5,6,10,17]),(3,[4,18]),(6,[13,19,26]),(7,[11,12,27,28]),(8,[11,12,27,29])]) false=some F_177:=by kernel_rfl
theorem tf_182:gQ ⟨62,4,[],[],[[0,2],[1,3]],[.tmp 2],false⟩:=gK
theorem tf_116:gQ ⟨63,29,[(25,1),(13,1)],[],[[4],[8009],[1000001,10],[4,10013],[0],[],[17020],[6007,21026],[27],[1,5,14016,28]],[.tmp 4],false⟩:=gK
theorem tf_118:gQ ⟨64,12,[(9,1)],[],[[0],[3006],[7010],[1,11]],[.cell true 3 2],false⟩:=gK
theorem tf_115:gQ ⟨68,29,[(25,1)],[],[[4],[8009],[1000001,10],[4,10013],[0],[],[17020],[6007,21026],[27],[1,5,14016,28]],[.tmp 4],false⟩:=gK
theorem tf_120:gQ ⟨69,4,[],[],[[0],[1,3]],[.cell true 4 2],false⟩:=gK
theorem tf_113:gQ ⟨78,5,[(4,1)],[],[[2],[0,3004]],[.tmp 2],false⟩:=gK
theorem tf_178:gQ ⟨79,50,[],[],[[0,8],[9010],[11017],[2,11,18028],[3,6007,29040],[3,6007,29,41042],[1,4005,43049]],[.tmp 8],false⟩:=gK
theorem tf_183:gQ ⟨91,44,[(15,1),(37,1)],[],[[7008],[9010],[11],[4,11019],[1,20021],[],[25027],[6,28033],[4,34041],[42043]],[],false⟩:=gK
theorem tf_114:gQ ⟨92,29,[(25,1),(13,1)],[],[[4],[8009],[1000001,10],[4,10013],[0],[],[17020],[6007,21026],[27],[1,5,14016,28]],[.tmp 4],false⟩:=gK
theorem tf_119:gQ ⟨93,4,[],[],[[0],[1,3]],[.cell true 8 2],false⟩:=gK
theorem tf_117:gQ ⟨102,29,[(25,1)],[],[[4],[8009],[1000001,10],[4,10013],[0],[],[17020],[6007,21026],[27],[1,5,14016,28]],[.tmp 4],false⟩:=gK
theorem tf_112:gQ ⟨103,8,[],[],[[0],[3006],[1,7]],[.cell true 4 2],false⟩:=gK
noncomputable def funcs:Nat→Option SFunc
 |_=>none
end Go.Sh.Cd10
end

section
namespace Go.Proofs.YtpmlapgbmgbilaaGreatDoor
open Go Go.RowKit Go.Mor Go.Sh Go.Sh.Cd1 Go.Sh.Cd7
section
open Go.Sh.Cd10
def chR(h:Chg):List PV:=[.v (.int .i64 h.k),.v (.string (str h.f)),.v (.string (str h.n)),.v (.string (str h.m)),.v (.int .i64 h.t.k),.v (.int .i64 h.t.o),.v (.string (str h.x)),.v (.string (str h.o))]
def z0U(l:List Chg):List (List PV):=l.map chR
def lnC(l:Ln):List TV:=[S (str l.c.n),.pv (.sl 4 (flR l.c.fs)),.pv (.sl 8 (z0U l.hs))]
theorem z4x(l:List Chg)(k:Nat):(z0U l)[k]?=(l[k]?).map chR:=by unfold z0U;rw[List.getElem?_map]
theorem z0K(l:List Chg):(z0U l).length=l.length:=by unfold z0U;rw[List.length_map]
theorem z74(g:Sh.Glob)(l:Ln):zC g 62 [.agg (lnC l)] [] (.fn (.func 91) [] [.ptr 1000 0]) [.box (lnC l)]:=by
 refine zj tf_182 ?_;unfold lnC;simp only[vW,seval]
def yV(yv:Value)(l:Ln)(i:Nat)(c:Cls)(bx:List (Nat×List TV)):ES:=⟨[(0,.pv (.v yv)),(3,.ptr 3 0),(22,.pv (.sl 8 (z0U l.hs))),(23,I ((z0U l.hs).length:Int)),(24,I (i:Int))],(1000,lnC l)::(3,[S (str c.n),.pv (.sl 4 (flR c.fs))])::bx,[],[]⟩
theorem z1h{c:Cls}(h:zd c=true):ClsOk c∧c.fs.length≤8:=by
 have hr:=(z0X c).1 h;have key:∀s,zb s=true→z0B s:=fun s hs=>by
  unfold zb at hs;simp only[Bool.and_eq_true,decide_eq_true_eq]at hs;have:=hs.1.1.2;unfold z0B;omega
 refine⟨⟨key _ hr.1,fun f hf=>key _ ?_,by omega⟩,hr.2.1⟩;have:=hr.2.2.1 f hf;unfold zD at this;simp only[Bool.and_eq_true]at this;exact this.1.1
theorem zmi(m:Nat)(l:Ln)(hc:ClsOk l.c)(hh:∀h∈l.hs,ChOk m h):zC (glE m) 49 [.agg (lnC l)] [] (B (zY l)) []:=by
 refine za tf_181 ?_ (hc:=rfl);have HV:=z74 (glE m) l;by_cases h12:l.hs.length≤12
 ·have d1:¬(12:Int)<(l.hs.length:Int):=by omega
  have HC:=z0k (glE m) l.c hc;unfold lnC B clT at*;simp only[vcY,seval,d1,z0K];refine z8 HV ?_;refine zc0 (H:=z3D []) (Fp:=fpT []) (Kk:=z3E []) (lug:=[2]) tf_183 ?_;intro yv;refine z2o HC ?_;refine⟨fun hr=> ?_,fun hr=> ?_⟩
  ·refine z6O ?_;refine zcu (σ:={x:Nat×Cls // x.1≤l.hs.length∧zp l x.1=(x.2,0)}) (fun x=>yV yv l x.1.1 x.1.2 [(1001,[.pv (.v (.bool false))])]) (fun x=>l.hs.length-x.1.1) ⟨(0,l.c),Nat.zero_le _,by rw[z3r];simp[z3h,hr]⟩ ?_ ?_
   ·unfold yV lnC;exact lwA
   rintro⟨⟨i,c⟩,hi,hv⟩;have hi:i≤l.hs.length:=hi;have hv:zp l i=(c,0):=hv;unfold yV lnC;by_cases hlt:i<l.hs.length
   ·obtain⟨h,ex⟩:∃h,l.hs[i]?=some h:=⟨_,gE hlt⟩
    have hc':ClsOk c∧c.fs.length≤8:=z1h (by have:=z1O (l:=l) (k:=i) (by rw[hv]);rw[hv]at this;exact this);have HA:=z61 m c h hc'.1 (hh h (gM ex)) (by omega);have hn:=z3q ex;rw[hv,z4c h rfl]at hn;unfold z60 clT chT at HA;have d2:(i:Int)<((z0U l.hs).length:Int):=by rw[z0K];omega
    simp only[vcY,seval,d2,z4x,ex,chR];refine z2o HA ?_;refine z6O ?_;refine⟨fun he=>⟨fun _=> ?_,fun h=>absurd he h⟩,fun he=> ?_⟩
    ·refine zc ⟨(i+1,(z0h c h).1),by show i+1≤l.hs.length;omega,by rw[hn,←he]⟩ (by show l.hs.length-(i+1)<l.hs.length-i;omega) ?_;have w1:=wS i;simp only[w1];exact lwA
    ·have:zY l=false:=by
      unfold zY;have h0:(zp l (i+1)).2≠0:=by rw[hn];exact he
      rw[z8e h0 (by omega)];simp[h0]
     rw[this]
   ·have d2:¬(i:Int)<((z0U l.hs).length:Int):=by rw[z0K];omega
    simp only[vcY,seval,d2];obtain rfl:i=l.hs.length:=by omega
    have:zY l=true:=by
     unfold zY;rw[hv,show Nat.ble l.hs.length 12=true from Nat.ble_eq_true_of_le h12];rfl
    rw[this]
  ·refine z6O ?_;have:zY l=false:=by
    unfold zY;have h0:(zp l 0).2≠0:=by rw[z3r];simp[z3h,hr]
    rw[z8e h0 (Nat.zero_le _)];simp[h0]
   rw[this]
 ·have d1:(12:Int)<(l.hs.length:Int):=by omega
  have hb:zY l=false:=by
   unfold zY;rw[show Nat.ble l.hs.length 12=false from by rw[←Bool.not_eq_true];intro h;have:=Nat.le_of_ble_eq_true h;omega];rfl
  unfold lnC B;rw[hb];simp only[vcY,seval,d1,z0K]
structure LnOk(m:Nat)(l:Ln):Prop where
 r:zY l=true
 h:∀h∈l.hs,ChOk m h
theorem LnOk.c{m:Nat}{l:Ln}(h:LnOk m l):zd l.c=true:=by
 have:=z1O (z0r h.r (Nat.zero_le _))
 rwa [z3r]at this
theorem LnOk.len{m:Nat}{l:Ln}(h:LnOk m l):l.hs.length≤12:=by
 have:=h.r;unfold zY at this;simp only[Bool.and_eq_true]at this;exact Nat.le_of_ble_eq_true this.1
theorem zbj{m:Nat}{l:Ln}(h:LnOk m l){i:Nat}{x:Chg}(hx:l.hs[i]?=some x):z0h (zp l i).1 x=((zp l (i+1)).1,0)∧ClsOk (zp l i).1∧(zp l i).1.fs.length≤8:=by
 have hi:=(gJ hx).1;have h0:=z0r h.r (k:=i) (by omega);have h1:=z0r h.r (k:=i+1) (by omega);have hn:=z3q hx;rw[z4c x h0]at hn;rw[←hn];exact⟨by rw[←h1],z1h (z1O h0)⟩
theorem zcO(m:Nat)(l:Ln)(hl:LnOk m l)(v:Nat)(hv:v≤l.hs.length):zC (glE m) 33 [.agg (lnC l),I (v:Int)] [] (clT (zp l v).1) []:=by
 refine za tf_180 ?_ (hc:=rfl);have HV:=z74 (glE m) l;have HC:=z0k (glE m) l.c (z1h hl.c).1;have h12:=hl.len;rw[hl.c]at HC;unfold lnC B clT at*;simp only[vcY,seval];refine z8 HV ?_;refine zc0 (H:=z3D []) (Fp:=fpT []) (Kk:=z3E []) (lug:=[3,4,5]) tf_183 ?_;intro yv;refine z2o HC ?_;refine z6O ?_;refine⟨fun h0=> ?_,fun h0=> ?_⟩
 ·obtain rfl:v=0:=by omega
  rw[z3r];rfl
 refine zcu (σ:={x:Nat×Cls // x.1<v∧zp l x.1=(x.2,0)}) (fun x=>yV yv l x.1.1 x.1.2 [(1001,[I (v:Int)]),(1002,[S ⟨#[]⟩,.pv (.v (.slice none 0 0))]),(1003,[I ((x.1.1+1:Nat):Int)])]) (fun x=>l.hs.length-x.1.1) ⟨(0,l.c),by show 0<v;omega,by rw[z3r];simp[z3h,hl.c]⟩ ?_ ?_
 ·unfold yV lnC;simp only[show IntKind.i64.wrap 1=1 from wG];exact lwA
 rintro⟨⟨i,c⟩,hi,hv'⟩;have hi:i<v:=hi;have hv':zp l i=(c,0):=hv';unfold yV lnC;obtain⟨h,ex⟩:∃h,l.hs[i]?=some h:=⟨_,gE (by omega)⟩
 obtain⟨n1,n2,n3⟩:=zbj hl ex;rw[hv']at n1 n2 n3;have HA:=z61 m c h n2 (hl.h h (gM ex)) (by have:c.fs.length≤8:=n3;omega);have n1:z0h c h=((zp l (i+1)).1,0):=n1;rw[n1]at HA;unfold z60 clT chT at HA;have d2:(i:Int)<((z0U l.hs).length:Int):=by rw[z0K];omega
 have w1:=wS (i+1);have w2:=wS i;simp only[vcY,seval,d2,z4x,ex,chR];refine z2o HA ?_;refine z6O ?_;refine⟨fun e=> ?_,fun e=>zc ⟨(i+1,(zp l (i+1)).1),by show i+1<v;omega,by rw[←z0r hl.r (show i+1≤l.hs.length by omega)]⟩ (by show l.hs.length-(i+1)<l.hs.length-i;omega) ?_⟩
 ·obtain rfl:v=i+1:=by omega
  rfl
 ·simp only[w1,w2];exact lwA
end
theorem zkh(g:Sh.Glob)(f:Fld)(h:Chg)(hk:1≤h.k∧h.k≤6):zC g 60 [flT f,chT h] [] (.pv (.sl 4 (flR (z1E f h)))) []:=by
 obtain⟨k,hf,n,m,⟨tk,ot⟩,x,o⟩:=h;obtain⟨fn,⟨fk,fo⟩,ix⟩:=f
 dsimp only at hk
 have hk':k=1∨k=2∨k=3∨k=4∨k=5∨k=6:=by omega
 unfold z1E flT chT flR flR1
 dsimp only
 by_cases hn:fn=hf
 ·subst hn;rcases hk' with rfl|rfl|rfl|rfl|rfl|rfl
  ·refine za tf_166 ?_;simp only[vW,seval]
  ·rw[if_neg (by simp),if_pos rfl];refine SCalls.out (y:=zn) ?_ (z2u 4);refine za tf_166 ?_;unfold zn;simp only[vW,seval]
  all_goals
   refine za tf_166 ?_;simp only[vW,seval]
 ·have hb:(fn==hf)=false:=by simpa using hn
  rw[if_pos (.inr hn)];refine za tf_166 ?_;simp only[vW,seval,hb]
theorem zgr(f:Fld)(h:Chg):(z1E f h).length≤2:=by
 unfold z1E
 repeat' split
 all_goals simp
theorem zfa(l:List Fld)(h:Chg):(l.flatMap (z1E · h)).length≤2*l.length:=by
 induction l with
 |nil=>simp
 |cons x l ih=>
  have:=zgr x h;rw[List.flatMap_cons,List.length_append,List.length_cons];omega
theorem zlb{l:List Fld}(h:Chg){i:Nat}{x:Fld}(hx:l[i]?=some x):(l.take (i+1)).flatMap (z1E · h)=(l.take i).flatMap (z1E · h)++z1E x h:=by
 rw[List.take_add_one,hx,List.flatMap_append];simp
theorem zh6(g:Sh.Glob)(c:Cls)(h:Chg)(ho:okV c h=true)(hk:1≤h.k∧h.k≤6)(hf:z0B h.f)(hn:z0B h.n)(hm:z0B h.m)(hx:RTx h.x)(hox:RTx h.o):zC g 30 [clT c,chT h] [] (.tuple [clT ⟨c.n,z0s c h⟩,I 0]) []:=by
 have hr:zd c=true:=by
  unfold okV at ho;simp only[Bool.and_eq_true]at ho;exact ho.1.1
 have hcl:=z1h hr;have HC:=z6e g c hcl.1;have HR:=z95 g c h hcl.1 hf hn hm hx hox;have HT:=fun f=>zkh g f h hk;have hfl:=zdR ho;rw[hr]at HC;rw[ho]at HR;have hlen:=hcl.2;clear hx hox hf hn hm hr ho hcl;refine z27 Cd10.tf_159 ?_;rw[←hfl];clear hfl;obtain⟨k,hf,n,m,⟨tk,ot⟩,x,o⟩:=h;unfold clT chT B at*;simp only[vW,seval];refine z8 HC ?_;refine z8 HR ?_;refine zk (σ:={i:Nat // i≤c.fs.length}) (fun i=>⟨[(2,.ptr 2 0),(3,.ptr 3 0),(4,.ptr 4 0),(6,.ptr 6 0),(7,I (i.1:Int))],[(2,[S (str c.n),.pv (.sl 4 (flR c.fs))]),(3,[I k,S (str hf),S (str n),S (str m),I tk,I ot,S (str x),S (str o)]),(4,[S ⟨#[]⟩,.pv (.v (.slice none 0 0))]),(6,[S (str c.n),.own 3000 4 (flR ((c.fs.take i.1).flatMap (z1E · ⟨k,hf,n,m,⟨tk,ot⟩,x,o⟩)))])],[(3000,(71,4,((c.fs.take i.1).flatMap (z1E · ⟨k,hf,n,m,⟨tk,ot⟩,x,o⟩)).length))],[]⟩) (fun i=>c.fs.length-i.1) ⟨0,Nat.zero_le _⟩ ?_ ?_
 ·refine ES.Lw.trans ?_ (z5k (x:=6) (j:=1) (d:=3000) (e:=71) (W:=4) (.inr (by decide)) (by decide) rfl (by simp only[vcA,seval]) rfl);exact z18 rfl
 rintro⟨i,hi⟩;by_cases hlt:i<c.fs.length
 ·have d1:(i:Int)<(c.fs.length:Int):=by omega
  obtain⟨y,ey⟩:∃y,c.fs[i]?=some y:=⟨_,gE hlt⟩
  have HY:=HT y;have hst:=zlb ⟨k,hf,n,m,⟨tk,ot⟩,x,o⟩ ey;have hfw:=zfa (c.fs.take i) ⟨k,hf,n,m,⟨tk,ot⟩,x,o⟩;have htw:=zgr y ⟨k,hf,n,m,⟨tk,ot⟩,x,o⟩;have htl:=List.length_take_le i c.fs;have w1:=wS i;have hR:flR ((c.fs.take i).flatMap (z1E · ⟨k,hf,n,m,⟨tk,ot⟩,x,o⟩))++flR (z1E y ⟨k,hf,n,m,⟨tk,ot⟩,x,o⟩)=flR ((c.fs.take (i+1)).flatMap (z1E · ⟨k,hf,n,m,⟨tk,ot⟩,x,o⟩)):=by
   rw[hst];unfold flR;rw[List.map_append]
  have hL:((c.fs.take i).flatMap (z1E · ⟨k,hf,n,m,⟨tk,ot⟩,x,o⟩)).length+(z1E y ⟨k,hf,n,m,⟨tk,ot⟩,x,o⟩).length=((c.fs.take (i+1)).flatMap (z1E · ⟨k,hf,n,m,⟨tk,ot⟩,x,o⟩)).length:=by
   rw[hst,List.length_append]
  unfold flT at HY;simp only[vW,seval,d1,clV,ey];left;refine z8 HY ?_;simp only[vW,seval,clV,hR,hL,w1];exact⟨⟨by omega,by unfold maxLen;omega⟩,zc ⟨i+1,by omega⟩ (by show c.fs.length-(i+1)<c.fs.length-i;omega) lwA⟩
 ·have d1:¬(i:Int)<(c.fs.length:Int):=by omega
  obtain rfl:i=c.fs.length:=by omega
  rw[List.take_length];by_cases h1:k=1
  ·subst h1;have hfw:=zfa c.fs ⟨1,hf,n,m,⟨tk,ot⟩,x,o⟩;simp only[vW,seval,d1,clV];refine⟨⟨by omega,by unfold maxLen;omega⟩,?_⟩;unfold flR;rw[List.map_append];rfl
  ·simp only[vW,seval,d1,clV,h1]
section
open Go.Sh.Cd10
def osK(l:Ln)(i fr tt:Nat)(vals:List V)(e:Int):List MO:=[.box [I (i:Int)],.box [I (fr:Int)],.box [.pv (.sl 4 (V.rows vals))],.box [I e],.box [I (tt:Int)],.box (lnC l)]
def FrB(m:Nat)(l:Ln):Prop:=(∃h∈l.hs,h.k=4)→∀vals:List V,vals.length≤1000→vals≠[]→(∀v∈vals,VFew v)→z8n (glE m) vals
theorem znj(m:Nat)(l:Ln)(hl:LnOk m l)(hB:FrB m l)(i fr tt:Nat)(hft:fr≤tt)(hto:tt≤l.hs.length)(hi:i≤tt)(vals:List V)(hw:∀v∈vals,VFew v∧VOk v)(hvl:vals.length≤1000)(hf:fr≤i→FitC (zp l i).1 vals):
  zC (glE m) 79 [clT (zp l i).1,.ptr 1000 0,.ptr 1001 0,.ptr 1002 0,.ptr 1003 0,.ptr 1004 0,.ptr 1005 0] (osK l i fr tt vals 0) (B (decide (i+1≤tt))) (osK l (i+1) fr tt (if fr≤i∧i<tt then z1F (zp l i).1 (l.hs.getD i ch0) vals else vals) 0):=by
 refine zj tf_178 ?_;have h12:=hl.len;have w1:=wS i;have hC:fr≤i→zC (glE m) 80 [clT (zp l i).1,.pv (.sl 4 (V.rows vals))] [] (.tuple [I 0,I 0]) []:=fun h=>by
  have:=zch (z5y m (zp l i).1 vals (z1h (z1O (z0r hl.r (show i≤l.hs.length by omega)))).1 (fun v hv=>⟨(hw v hv).2,by have:=(hw v hv).1.len;unfold maxLen;omega⟩) (by omega));rw[(hf h).chk]at this;exact this
 have hV:fr≤i→i<tt→∃h,l.hs[i]?=some h∧l.hs.getD i ch0=h∧zC (glE m) 81 [clT (zp l i).1,chT h,.pv (.sl 4 (V.rows vals))] [] (.tuple [.pv (.sl 4 (V.rows (z1F (zp l i).1 h vals))),I 0]) []:=fun d5 d6=>by
  obtain⟨h,ex⟩:∃h,l.hs[i]?=some h:=⟨_,gE (by omega)⟩
  have hg:l.hs.getD i ch0=h:=by rw[List.getD_eq_getElem?_getD,ex];rfl
  obtain⟨n1,n2,n3⟩:=zbj hl ex;obtain⟨v1,v2,v3⟩:=zeP hl.r ex (hf d5);have HA:=ze1 m _ h vals n2 (hl.h h (gM ex)) (fun hk hne=>hB ⟨h,gM ex,hk⟩ vals hvl hne (fun v hv=>(hw v hv).1)) hw hvl;rw[v3]at HA;exact⟨h,ex,hg,HA⟩
 have e0:((0:Int)=0)=True:=eq_true rfl;unfold osK lnC B;unfold clT chT at*;by_cases h1:i=fr
 ·subst h1;have HC:=hC (Nat.le_refl _);have d2:(i:Int)≤(i:Int):=Int.le_refl _;by_cases h3:i<tt
  ·obtain⟨h,ex,hg,HA⟩:=hV (Nat.le_refl _) h3;have d3:(i:Int)<(tt:Int):=by omega
   have d4:((i+1:Nat):Int)≤(tt:Int):=by omega
   have d4':i+1≤tt:=by omega
   simp only[d4',decide_true,Nat.le_refl,h3,and_self,if_true,hg];simp only[vW,seval,d2,d3,d4,z4x,ex,chR,w1,false_imp_iff,true_and,and_true];refine z8 HC ?_;simp only[vW,seval,d2,d3,d4,z4x,ex,chR,w1,false_imp_iff,true_and,and_true];refine⟨by rw[z0K];omega,fun b hb=> ?_⟩;obtain rfl:=Option.some.inj hb;refine⟨Nat.le_refl 8,?_⟩;simp only[vW,seval];refine z8 HA ?_;simp only[vW,seval,d2,d3,d4,z4x,ex,chR,w1,false_imp_iff,true_and,and_true]
  ·have d3:¬(i:Int)<(tt:Int):=by omega
   have d4:¬((i+1:Nat):Int)≤(tt:Int):=by omega
   have d4':¬i+1≤tt:=by omega
   simp only[d4',decide_false,h3,and_false,if_false];simp only[vW,seval,d2,d3,d4,w1,false_imp_iff,true_and,and_true];refine z8 HC ?_;simp only[vW,seval,d2,d3,d4,w1,false_imp_iff,true_and,and_true]
 ·have d1:¬(i:Int)=(fr:Int):=by omega
  by_cases h2:fr<i
  ·have d2:(fr:Int)≤(i:Int):=by omega
   have d5:fr≤i:=by omega
   by_cases h3:i<tt
   ·have d3:(i:Int)<(tt:Int):=by omega
    have d4:((i+1:Nat):Int)≤(tt:Int):=by omega
    have d4':i+1≤tt:=by omega
    obtain⟨h,ex,hg,HA⟩:=hV d5 h3;simp only[d4',decide_true,d5,h3,and_self,if_true,hg];simp only[vW,seval,d1,d2,d3,d4,z4x,ex,chR,w1,false_imp_iff,true_and,and_true];refine z8 HA ?_;simp only[vW,seval,d1,d2,d3,d4,z4x,ex,chR,w1,false_imp_iff,true_and,and_true]
   ·have d3:¬(i:Int)<(tt:Int):=by omega
    have d4:¬((i+1:Nat):Int)≤(tt:Int):=by omega
    have d4':¬i+1≤tt:=by omega
    simp only[d4',decide_false,h3,and_false,if_false];simp only[vW,seval,d1,d2,d3,d4,w1,false_imp_iff,true_and,and_true]
  ·have d2:¬(fr:Int)≤(i:Int):=by omega
   have d5:¬fr≤i:=by omega
   have d4:((i+1:Nat):Int)≤(tt:Int):=by omega
   have d4':i+1≤tt:=by omega
   simp only[d4',decide_true,d5,false_and,if_false];simp only[vW,seval,d1,d2,d4,w1,false_imp_iff,true_and,and_true]
end
end Go.Proofs.YtpmlapgbmgbilaaGreatDoor
end
