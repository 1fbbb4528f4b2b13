/- Merged texts: Ln3 S31 Pk6 Pk7 Ln4 Zu5 Cd10 Ya1 Yc1 Own. No statement of the program is proved here. -/
import Derived.Test.YtbkgnekfigknhaaGreatDoorR34
import Derived.Test.YtbkgnekfigknhaaGreatDoorR36
import Derived.Laws.AppendOwnNone
import Derived.Deep.AppendLies
set_option linter.unusedSimpArgs false
set_option linter.unusedVariables false
set_option maxRecDepth 100000
set_option maxHeartbeats 8000000
section
namespace Go.Mor
open Go
def z1H(f:Fld)(h:Chg):List Fld:=
 if h.k=1∨f.n≠h.f then [f]
 else if h.k=2 then []
 else if h.k=3 then [⟨h.n,f.t,f.ix⟩]
 else if h.k=4 then [⟨f.n,h.t,false⟩]
 else if h.k=5 then [⟨h.n,h.t,false⟩,⟨h.m,h.t,false⟩]
 else [⟨f.n,f.t, !f.ix⟩]
theorem z9x{α:Type}{F:α→List α}:∀{l:List α},(∀x∈l,F x=[x])→l.flatMap F=l
 |[],_=>rfl
 |x::l,h=>by
  rw[List.flatMap_cons,h x (List.mem_cons_self ..),z9x fun y hy=>h y (List.mem_cons_of_mem _ hy)];rfl
theorem z5Y{α:Type}{F:α→List α}{l:List α}{i:Nat}{x:α}(hx:l[i]?=some x)(h:∀(j:Nat) y,l[j]?=some y→j≠i→F y=[y]):l.flatMap F=z0W l i (F x):=by
 obtain⟨hi,rfl⟩:=gJ hx;have e:l=l.take i++l[i]::l.drop (i+1):=by rw[←List.drop_eq_getElem_cons hi,List.take_append_drop]
 have h1:(l.take i).flatMap F=l.take i:=z9x fun y hy=>by
  obtain⟨j,hj⟩:=List.getElem?_of_mem hy;rw[List.getElem?_take]at hj;split at hj
  ·exact h j y hj (by omega)
  ·cases hj
 have h2:(l.drop (i+1)).flatMap F=l.drop (i+1):=z9x fun y hy=>by
  obtain⟨j,hj⟩:=List.getElem?_of_mem hy;rw[List.getElem?_drop]at hj;exact h _ y hj (by omega)
 unfold z0W
 conv=>lhs;rw[e]
 rw[List.flatMap_append,List.flatMap_cons,h1,h2,List.append_assoc]
theorem zdP{c:Cls}{h:Chg}(ho:okV c h=true):c.fs.flatMap (z1H · h)++(if h.k=1 then [⟨h.n,h.t,false⟩] else [])=z07 c h:=by
 unfold okV at ho;simp only[Bool.and_eq_true]at ho;obtain⟨⟨hr,hw⟩,hm⟩:=ho;have hd:=((z0Y c).1 hr).2.2.2;by_cases h1:h.k=1
 ·rw[z9x (fun x _=>by unfold z1H;rw[if_pos (.inl h1)])];unfold z07;simp[h1]
 ·have hh:z0F c.fs h.f=true:=by
   cases hv:z0F c.fs h.f
   ·simp[z0G,h1,hv]at hm
   ·rfl
  have hf:¬fieldAt c.fs h.f<0:=by
   unfold z0F at hh;simpa using hh
  obtain⟨i,hi⟩:=Int.eq_ofNat_of_zero_le (show 0≤fieldAt c.fs h.f by omega);obtain⟨x,hx,hp⟩:=z2R _ _ _ hi;have hxn:x.n=h.f:=by simpa using hp
  have hat:atV c.fs h.f=i:=by unfold atV;rw[hi];rfl
  rw[z5Y hx (fun j y hy hj=>by
   unfold z1H;rw[if_pos (.inr fun e=>hj (hd j i y x hy hx (by rw[e,hxn])))]),if_neg h1,List.append_nil]
  unfold z07 z1H;simp only[hat,h1,hxn,if_false,ne_eq,not_true_eq_false,or_self,List.getD_eq_getElem?_getD,hx,Option.getD_some]
  repeat' split
  all_goals first|rfl|trace_state
end Go.Mor
end

section
namespace Go.Sh
open Go Go.RowKit
def znj:Int→Int→Bool
 | .ofNat a,.ofNat b=>Nat.beq a b
 | .negSucc a,.negSucc b=>Nat.beq a b
 |_,_=>false
theorem intB_eq:∀{a b:Int},znj a b=true→a=b
 | .ofNat a,.ofNat b,h=>congrArg Int.ofNat (Nat.eq_of_beq_eq_true h)
 | .negSucc a,.negSucc b,h=>congrArg Int.negSucc (Nat.eq_of_beq_eq_true h)
 | .ofNat _,.negSucc _,h=>by cases h
 | .negSucc _,.ofNat _,h=>by cases h
theorem zgt{cs ds:List TV}(hl:cs.length=ds.length)(h:∀(j:Nat) c d,cs[j]?=some c→ds[j]?=some d→Wk c d):Wk (.tuple cs) (.tuple ds):=by
 intro w E r v hr;cases hr with
 |tuple _ vs hl' h'=>
  refine .tuple ds vs (by omega) fun j d v hd hv=> ?_;have hj:=(gJ hd).1;have hc:=gE (show j<cs.length by omega);exact h j _ d hc hd w E r v (h' j _ v hc hv)
end Go.Sh
end

section
namespace Go.Mor
open Go
section
open Go.Sh
def zr3(e:zB):Bool:=Nat.ble 1 e.length&&Nat.ble e.length 100&&match z14 1000 e with
 |some r=>znj r.2.2 0&&znj r.2.1 0
 |none=>false
theorem zr2:exL.all zr3=true:=by kernel_rfl
end
theorem zq0(j:Int)(h0:0≤j)(h1:j<6):nmF j∈nmL:=by
 have:j=0∨j=1∨j=2∨j=3∨j=4∨j=5:=by omega
 rcases this with rfl|rfl|rfl|rfl|rfl|rfl<;>decide
theorem zf7:∀(rs:List RawF) (acc:List Fld),(∀f∈acc,f.n∈nmL)→∀f∈rs.foldl z1x acc,f.n∈nmL
 |[],acc,h=>h
 |r::rs,acc,h=>by
  refine zf7 rs _ fun f hf=> ?_;unfold z1x at hf;split at hf
  ·rcases List.mem_append.1 hf with hf|hf
   ·grind
   ·obtain rfl:=List.mem_singleton.1 hf;have h1:=zH r.n 6 (by omega);exact zq0 _ h1.1 h1.2
  ·grind
theorem za7(x:Raw):∀f∈(zn x).fs,f.n∈nmL:=zf7 _ [] (by simp)
theorem zle(j:Int)(h0:0≤j)(h1:j<6):zb (nmH j)=true∧(nmH j).length≤8:=by
 have:j=0∨j=1∨j=2∨j=3∨j=4∨j=5:=by omega
 rcases this with rfl|rfl|rfl|rfl|rfl|rfl<;>decide
theorem zhJ(x:Int):(nmH (pick x 6)).length≤20:=by
 grind [zH,zle]
theorem zhr{e:zB}(h:e∈exL):1≤e.length∧e.length≤100∧∃r,z14 1000 e=some r∧r.2.2=0∧r.2.1=0:=by
 have h1:=List.all_eq_true.1 zr2 e h;unfold zr3 at h1;simp only[Bool.and_eq_true]at h1;refine⟨Nat.le_of_ble_eq_true h1.1.1,Nat.le_of_ble_eq_true h1.1.2,?_⟩;have h2:=h1.2;split at h2
 ·rename_i r hr;simp at h2;exact⟨r,hr,Go.Sh.intB_eq h2.1,Go.Sh.intB_eq h2.2⟩
 ·cases h2
structure ChIn(h:Chg):Prop where
 k:0≤h.k∧h.k≤6
 tk:0≤h.t.k∧h.t.k≤5
 ot:0≤h.t.o∧h.t.o≤4
 f:h.f.length≤20
 n:h.n.length≤20
 m:h.m.length≤20
 x:h.x=[]∨h.x∈exL
 o:h.o=[]∨h.o∈exL
theorem zs7(t:Ty):(0≤(tyH t).k∧(tyH t).k≤5)∧(0≤(tyH t).o∧(tyH t).o≤4):=by
 have h2:=zH t.k 5 (by omega);have h3:=zH t.o 4 (by omega);unfold tyH
 grind
theorem zq1:∀s∈nmL,s.length≤20:=by decide
theorem zn7{c:Cls}(hc:∀f∈c.fs,f.n∈nmL)(i:Nat):(c.fs.getD i z4u).n.length≤20:=by
 rw[List.getD_eq_getElem?_getD];cases h:c.fs[i]? with
 |none=>exact Nat.zero_le _
 |some f=>exact zq1 _ (hc f (gM h))
theorem zeM(x:RawH){c:Cls}(hn:∀f∈c.fs,f.n∈nmL):ChIn (z1T x c):=by
 have hk:=zH x.k 6 (by omega);have hf:(if c.fs=[] then [] else(c.fs.getD (pick x.f c.fs.length).toNat z4u).n).length≤20:=by
  grind [zn7]
 have ht:=zs7 x.t;have hx:=zdb hn x.x (tyH x.t);have ho:=zdb hn x.o (tyH x.t);have n1:=zhJ x.n;have n2:=zhJ x.m;unfold z1T
 dsimp only
 generalize(if c.fs=[] then [] else(c.fs.getD (pick x.f c.fs.length).toNat z4u).n)=f at*
 repeat' split
 all_goals refine⟨by dsimp only;omega,?_,?_,?_,?_,?_,?_,?_⟩
 all_goals first|exact hf|exact n1|exact n2|exact hx|exact ho|exact ht.1|exact ht.2|exact .inl rfl|(show(0:Int)≤0∧(0:Int)≤_;omega)|exact Nat.zero_le _
def z0N(l:Ln):Cls:=(zq l l.hs.length).1
theorem zqD(c:Cls)(hs:List Chg)(h:Chg){k:Nat}(hk:k≤hs.length):zq ⟨c,hs++[h]⟩ k=zq ⟨c,hs⟩ k:=by
 unfold zq;rw[List.take_append_of_le_length hk];rfl
theorem zaM{l:Ln}(hr:z09 l=true)(h12:l.hs.length<12){h:Chg}(ho:okV (z0N l) h=true):z09 ⟨l.c,l.hs++[h]⟩=true∧z0N ⟨l.c,l.hs++[h]⟩=⟨(z0N l).n,z07 (z0N l) h⟩:=by
 have h0:=z0Z hr (Nat.le_refl _);have hrc:ze (z0N l)=true:=z2P h0;have hg:(l.hs++[h])[l.hs.length]?=some h:=by simp
 have hs:=z34 (l:=⟨l.c,l.hs++[h]⟩) hg;rw[zqD l.c l.hs h (Nat.le_refl _),z3v h h0]at hs;have ha:z0D (z0N l) h=(⟨(z0N l).n,z07 (z0N l) h⟩,0):=by
  unfold z0D;rw[hrc,ho];rfl
 have hs:zq ⟨l.c,l.hs++[h]⟩ (l.hs.length+1)=z0D (z0N l) h:=hs;rw[ha]at hs;have e:(l.hs++[h]).length=l.hs.length+1:=by simp
 constructor
 ·unfold z09
  dsimp only
  rw[e,hs,show Nat.ble (l.hs.length+1) 12=true from Nat.ble_eq_true_of_le h12];rfl
 ·unfold z0N
  dsimp only
  rw[e,hs];rfl
def zfw(h:Chg):Prop:=(h.k=1∨h.k=3∨h.k=5→h.n∈nmL)∧(h.k=5→h.m∈nmL)
theorem zhK(x:Int):nmH (pick x 6)∈nmL:=by
 have h:=zH x 6 (by omega);generalize pick x 6=j at*;have:j=0∨j=1∨j=2∨j=3∨j=4∨j=5:=by omega
 rcases this with rfl|rfl|rfl|rfl|rfl|rfl<;>decide
theorem zmH(x:RawH)(c:Cls):zfw (z1T x c):=by
 unfold z1T zfw
 dsimp only
 have h1:=zhK x.n;have h2:=zhK x.m;generalize 1+pick x.k 6=k
 repeat' split
 all_goals simp_all
theorem zbw{c:Cls}{h:Chg}(ho:okV c h=true)(hc:∀f∈c.fs,f.n∈nmL)(hn:zfw h):∀f∈z07 c h,f.n∈nmL:=by
 have hk:1≤h.k∧h.k≤6:=by
  unfold okV z0g z0J at ho;simp only[Bool.and_eq_true]at ho
  grind
 rw[←zdP ho];intro f hf;rcases List.mem_append.1 hf with hf|hf
 ·obtain⟨g,hg,hf⟩:=List.mem_flatMap.1 hf;have:=hc g hg;unfold z1H at hf;unfold zfw at hn
  repeat' split at hf
  all_goals simp at hf
  all_goals grind
 ·unfold zfw at hn;split at hf
  ·simp at hf;subst hf;exact hn.1 (.inl (by assumption))
  ·cases hf
def zeB(s:zB):Prop:=s=[]∨(s.length≤200∧∃r,z14 1000 s=some r)
structure ChRd(h:Chg):Prop where
 f:h.f.length≤20
 n:h.n.length≤20
 m:h.m.length≤20
 x:zeB h.x
 o:zeB h.o
theorem zi7{s:zB}(h:s=[]∨s∈exL):zeB s:=by
 rcases h with h|h
 ·exact .inl h
 ·obtain⟨_,h2,r,hr,_⟩:=zhr h;exact .inr ⟨by omega,r,hr⟩
theorem ChIn.rd{h:Chg}(hi:ChIn h):ChRd h:=⟨hi.f,hi.n,hi.m,zi7 hi.x,zi7 hi.o⟩
structure RawL where
 c:Raw
 hs:List RawH
def zmo(l:Ln)(r:RawH):Ln:=if okV (z0N l) (z1T r (z0N l))then⟨l.c,l.hs++[z1T r (z0N l)]⟩ else l
structure GoodL(l:Ln):Prop where
 r:z09 l=true
 n:∀f∈(z0N l).fs,f.n∈nmL
 h:∀h∈l.hs,ChRd h
theorem znd{l:Ln}(hg:GoodL l)(h12:l.hs.length<12)(r:RawH):GoodL (zmo l r):=by
 unfold zmo;by_cases ho:okV (z0N l) (z1T r (z0N l))=true
 ·rw[if_pos ho];obtain⟨a,b⟩:=zaM hg.r h12 ho;refine⟨a,?_,fun h hh=> ?_⟩
  ·rw[b];exact zbw ho hg.n (zmH r _)
  ·rcases List.mem_append.1 hh with hh|hh
   ·exact hg.h h hh
   ·obtain rfl:=List.mem_singleton.1 hh;exact(zeM r hg.n).rd
 ·rw[if_neg ho];exact hg
theorem zfe(x:Raw):GoodL ⟨zn x,[]⟩:=by
 have hr:=(z2D x).right;refine⟨?_,?_,fun h hh=>by cases hh⟩
 ·simp[z09,zq,z1R,hr]
 ·exact za7 x
structure GoodS(s:List Ln):Prop where
 r:RightS s
 g:∀l∈s,GoodL l∧l.hs.length≤5∧∃x,l.c=zn x
end Go.Mor
end

section
namespace Go.Proofs.YtbkgnekfigknhaaGreatDoor
open Go Go.RowKit Go.Mor Go.Sh Go.Sh.Cd1 Go.Sh.Cd7
theorem z8s(l:List Fld)(s:zB):∃p:Nat,z1L l s=.tuple [I (p:Int),B (z0F l s)]∧(z0F l s=true→atV l s=p):=by
 unfold z1L z0F;by_cases h:fieldAt l s<0
 ·rw[if_pos h];exact⟨0,by simp[h],fun h'=>by simp[h]at h'⟩
 ·rw[if_neg h];refine⟨(fieldAt l s).toNat,?_,fun _=>rfl⟩;rw[decide_eq_false h,Int.toNat_of_nonneg (by omega)];rfl
theorem z4S(l:List Fld)(s b:zB):z2v l s b=(!z0F l s||s==b):=by unfold z2v z0F;simp
theorem z92(g:Sh.Glob)(c:Cls)(h:Chg)(hc:ClsOk c)(hf:z0t h.f)(hn:z0t h.n)(hm:z0t h.m)(hx:RTx h.x)(ho:RTx h.o):zC g 56 [clT c,chT h] [] (B (okV c h)) []:=by
 have HC:=z6h g c hc;have HW:=zfW g h hf hn hm hx ho;have F1:=z41 g c h.f hc.len;have F2:=z41 g c h.n hc.len;have F3:=z41 g c h.m hc.len;have T1:=zal g h.x c h.t hx hc;have T2:=zal g h.o c h.t ho hc;obtain⟨p1,e1,a1⟩:=z8s c.fs h.f;obtain⟨p2,e2,a2⟩:=z8s c.fs h.n;obtain⟨p3,e3,a3⟩:=z8s c.fs h.m;rw[e1]at F1;rw[e2]at F2;rw[e3]at F3;have hlen:=hc.len;obtain⟨k,f,n,m,⟨tk,ot⟩,x,o⟩:=h
 dsimp only at*
 have hO:okV c ⟨k,f,n,m,⟨tk,ot⟩,x,o⟩=(ze c&&(z0g ⟨k,f,n,m,⟨tk,ot⟩,x,o⟩&&z0G c ⟨k,f,n,m,⟨tk,ot⟩,x,o⟩)):=by unfold okV;rw[Bool.and_assoc]
 rw[hO];clear hO;have hk6:z0g ⟨k,f,n,m,⟨tk,ot⟩,x,o⟩=true→(k=1∨k=2∨k=3∨k=4∨k=5∨k=6)∧((k=1∨k=3)→(n==[])=false):=fun hw=>by
  have hk:k=1∨k=2∨k=3∨k=4∨k=5∨k=6:=by
   unfold z0g z0J at hw
   dsimp only at hw
   by_cases h1:k=1
   ·omega
   by_cases h2:k=2∨k=6
   ·omega
   by_cases h3:k=3
   ·omega
   by_cases h4:k=4
   ·omega
   by_cases h5:k=5
   ·omega
   simp[h1,h2,h3,h4,h5]at hw
  refine⟨hk,fun h13=> ?_⟩;have hrn:zb n=true:=by
   rcases h13 with rfl|rfl
   ·simp only[z0g,z0J,z1F,if_true,Bool.and_eq_true]at hw;exact hw.1.1.1.1.2
   ·simp only[z0g,z0J,z1F,show ¬(3:Int)=1 from by decide,show ¬(3:Int)=2 from by decide,show ¬(3:Int)=6 from by decide,false_or,if_false,if_true,Bool.and_eq_true]at hw;exact hw.1.1.1.1.2
  cases n with
  |nil=>revert hrn;decide
  |cons b r=>rfl
 generalize hwv:z0g ⟨k,f,n,m,⟨tk,ot⟩,x,o⟩=bw at*;generalize hx1:(zE c x ⟨tk,ot⟩).is=b1 at*;generalize hx2:(zE c o ⟨tk,ot⟩).is=b2 at*;generalize hh1:z0F c.fs f=f1 at*;generalize hh2:z0F c.fs n=f2 at*;generalize hh3:z0F c.fs m=f3 at*;have w:=hc.len;refine za tf_158 ?_;unfold clT chT tyT B at*;cases hrc:ze c
 ·rw[hrc]at HC;simp only[vW,seval];refine z8 HC ?_;try trivial
 rw[hrc]at HC;cases bw with
 |false=>
  simp only[vW,seval];refine z8 HC ?_;refine z8 HW ?_;try trivial
 |true=>
 obtain⟨hk,hnn⟩:=hk6 rfl;clear hk6;simp only[vW,seval];refine z8 HC ?_;refine z8 HW ?_;refine z8 F1 ?_;refine z8 F2 ?_;refine z7 F3 ?_;simp only[vW,seval,clV];refine z7 T1 ?_;rcases hk with rfl|rfl|rfl|rfl|rfl|rfl
 ·have hm:z0G c ⟨1,f,n,m,⟨tk,ot⟩,x,o⟩=(decide (c.fs.length<8)&&(!f2&&b1)):=by
   simp only[z0G,z4S,show ¬(1:Int)=2 from by decide,show ¬(1:Int)=3 from by decide,show ¬(1:Int)=4 from by decide,show ¬(1:Int)=5 from by decide,if_false,if_true,hx1,hx2,hh1,hh2,hh3,hnn (.inl rfl)];simp only[Bool.or_false,Bool.and_assoc]
  rw[hm];clear hm;by_cases h8:c.fs.length<8
  ·have d8:(c.fs.length:Int)<8:=by omega
   rw[decide_eq_true h8];cases f2<;>cases b1<;>(
    simp only[vW,seval,d8,clV];try rfl)
  ·have d8:¬(c.fs.length:Int)<8:=by omega
   rw[decide_eq_false h8];cases f2<;>cases b1<;>(
    simp only[vW,seval,d8,clV];try rfl)
 ·have hm:z0G c ⟨2,f,n,m,⟨tk,ot⟩,x,o⟩=(f1):=by
   simp only[z0G,z4S,show ¬(2:Int)=1 from by decide,show ¬(2:Int)=3 from by decide,show ¬(2:Int)=4 from by decide,show ¬(2:Int)=5 from by decide,if_false,if_true,hx1,hx2,hh1,hh2,hh3]
  rw[hm];clear hm;simp only[vW,seval];try rfl
 ·have hm:z0G c ⟨3,f,n,m,⟨tk,ot⟩,x,o⟩=(f1&& !f2):=by
   simp only[z0G,z4S,show ¬(3:Int)=1 from by decide,show ¬(3:Int)=2 from by decide,show ¬(3:Int)=4 from by decide,show ¬(3:Int)=5 from by decide,if_false,if_true,hx1,hx2,hh1,hh2,hh3,hnn (.inr rfl)];simp only[Bool.or_false,Bool.and_assoc]
  rw[hm];clear hm;cases f1<;>cases f2<;>(
   simp only[vW,seval];try rfl)
 ·have hm:z0G c ⟨4,f,n,m,⟨tk,ot⟩,x,o⟩=(f1&&b1):=by
   simp only[z0G,z4S,show ¬(4:Int)=1 from by decide,show ¬(4:Int)=2 from by decide,show ¬(4:Int)=3 from by decide,show ¬(4:Int)=5 from by decide,if_false,if_true,hx1,hx2,hh1,hh2,hh3]
  rw[hm];clear hm;cases f1<;>cases b1<;>(
   simp only[vW,seval];try rfl)
 ·have hm:z0G c ⟨5,f,n,m,⟨tk,ot⟩,x,o⟩=(f1&&(decide (c.fs.length<8)&&(!(n==m)&&((!f2||n==f)&&((!f3||m==f)&&(b1&&b2)))))):=by
   simp only[z0G,z4S,show ¬(5:Int)=1 from by decide,show ¬(5:Int)=2 from by decide,show ¬(5:Int)=3 from by decide,show ¬(5:Int)=4 from by decide,if_false,if_true,hx1,hx2,hh1,hh2,hh3];simp only[Bool.or_false,Bool.and_assoc]
  rw[hm];clear hm;generalize hq1:(n==m)=q1;generalize hq2:(n==f)=q2;generalize hq3:(m==f)=q3;cases f1
  ·simp only[vW,seval,clV];try rfl
  by_cases h8:c.fs.length<8
  case neg=>
   have d8:¬(c.fs.length:Int)<8:=by omega
   rw[decide_eq_false h8];simp only[vW,seval,d8,clV];try rfl
  have d8:(c.fs.length:Int)<8:=by omega
  rw[decide_eq_true h8];cases q1
  case true=>
   simp only[vW,seval,d8,clV,hq1];try rfl
  have fin:(!f2||q2)=true→(!f3||q3)=true→b1=true→(b2=(true&&(true&&(!false&&((!f2||q2)&&((!f3||q3)&&(b1&&b2))))))):=fun r1 r2 r3=>by rw[r1,r2,r3];rfl
  cases f2
  ·cases f3
   ·cases b1
    ·simp only[vW,seval,d8,clV,hq1];try rfl
    ·simp only[vW,seval,d8,clV,hq1];refine z8 T2 ?_;try trivial
   ·cases q3
    ·simp only[vW,seval,d8,clV,hq1,hq3];try rfl
    ·cases b1
     ·simp only[vW,seval,d8,clV,hq1,hq3];try rfl
     ·simp only[vW,seval,d8,clV,hq1,hq3];refine z8 T2 ?_;try trivial
  ·cases q2
   ·simp only[vW,seval,d8,clV,hq1,hq2];try rfl
   ·cases f3
    ·cases b1
     ·simp only[vW,seval,d8,clV,hq1,hq2];try rfl
     ·simp only[vW,seval,d8,clV,hq1,hq2];refine z8 T2 ?_;try trivial
    ·cases q3
     ·simp only[vW,seval,d8,clV,hq1,hq2,hq3];try rfl
     ·cases b1
      ·simp only[vW,seval,d8,clV,hq1,hq2,hq3];try rfl
      ·simp only[vW,seval,d8,clV,hq1,hq2,hq3];refine z8 T2 ?_;try trivial
 ·have hm:z0G c ⟨6,f,n,m,⟨tk,ot⟩,x,o⟩=(f1&&decide ((c.fs.getD p1 z4u).t.k≤3)):=by
   simp only[z0G,z4S,show ¬(6:Int)=1 from by decide,show ¬(6:Int)=2 from by decide,show ¬(6:Int)=3 from by decide,show ¬(6:Int)=4 from by decide,show ¬(6:Int)=5 from by decide,if_false,if_true,hx1,hx2,hh1,hh2,hh3];cases f1
   ·rfl
   ·rw[a1 rfl]
  rw[hm];clear hm;cases f1
  ·simp only[vW,seval];refine z8 F1 ?_;try trivial
  obtain⟨y,ey⟩:∃y,c.fs[p1]?=some y:=by
   obtain⟨y,ey,_⟩:=Go.Mor.has_at (c:=c) hh1;exact⟨y,by rw[←a1 rfl];exact ey⟩
  rw[Go.Mor.getD_of ey];by_cases h3:y.t.k≤3
  ·simp only[vW,seval];refine z7 F1 ?_;simp only[vW,seval,clV,ey,h3];try rfl
  ·simp only[vW,seval];refine z7 F1 ?_;simp only[vW,seval,clV,ey,h3];try rfl
end Go.Proofs.YtbkgnekfigknhaaGreatDoor
end

section
namespace Go.Sh.Cd10
open Go Go.Sh
abbrev gQ(a:GA):Prop:=gT Go.Proofs.Tryz.prog a
theorem gK{a:GA}(h:gQ a:=by unfold gQ gT;kernel_rfl):gQ a:=h
theorem tf_128:gQ ⟨6,162,[(31,0),(33,0),(38,0),(41,0),(61,1),(79,0),(80,0),(92,0),(96,0),(100,0),(105,0),(114,0),(122,0),(127,0),(159,0),(160,0)],[],[[0,10],[31],[5,32033],[],[2],[34],[1,34038],[39043],[44049],[3004,11016,50055],[10,13,15016,50,56062],[],[63069],[19,71072,88],[70,73082],[20,83087],[19,88094],[3,18,95097],[4,98100],[12,14,101107],[22,108116],[17,21,117124],[27,125129],[11,23026,28030,130161]],[.tmp 10],false⟩:=gK
theorem tf_129:gQ ⟨7,168,[],[],[[0],[24027],[28033],[34040],[41047],[48052],[53057],[12,58062],[1,14,63068],[69073],[74078],[20,79083],[22,84088],[2011,13,15019,21,23,89167]],[.tmp 0],false⟩:=gK
theorem tf_165:gQ ⟨10,34,[],[],[[0,7],[1,3,10015],[16],[2,8009,17019],[7,9,17,20027],[2,8,28029],[2,8,28,30033]],[.cell true 2 6,.tmp 7],false⟩:=gK
theorem tf_166:gQ ⟨12,44,[],[],[[0,10011],[1,5,14019],[20],[2004,12013,21022],[10011,13,21,23035],[2004,12,36],[2004,12,36043]],[.tmp 10,.tmp 11],false⟩:=gK
theorem tf_159:gQ ⟨14,27,[],[],[[4],[6009],[1000001,10],[4,10],[11013],[4,15016,26],[14,17025],[1000001,5,26],[1000001,5]],[.tmp 4],false⟩:=gK
theorem tf_127:gQ ⟨24,25,[],[],[[0],[5006],[],[7010],[12013],[11,14023],[1,3004,24]],[.cell true 2 2],false⟩:=gK
theorem tf_164:gQ ⟨26,50,[(13,0),(21,0),(28,0),(40,0),(44,0),(46,0)],[],[[1000001,5],[6,11015],[16],[2003,7,17019],[5,7,17,20021],[2003,22023],[5,8,22,24030],[9,31036],[2003,37038],[2,5,37,39040],[3,41048],[10,49]],[.cell true 1 4,.tmp 5],false⟩:=gK
theorem tf_172:gQ ⟨27,59,[(16,0),(33,0),(35,0),(43,0),(54,0)],[],[[0,2,7],[13018],[19],[1,3,5,8009,20022],[7,9,20,23025],[1,3,5,8,26027],[7008,10,26,28037],[38],[1,3,5,11,39041],[3,7,11,39,42043],[1,5,44057],[12,58]],[.cell true 1 6,.tmp 7],false⟩:=gK
theorem tf_169:gQ ⟨28,20,[],[],[[0,4005],[1002,8013],[14],[6007,15016],[6007,15,17019]],[.tmp 4,.tmp 5],false⟩:=gK
theorem tf_168:gQ ⟨29,23,[],[],[[0,4005],[2,8],[],[12015],[7,16019],[1,6,9011,20021],[4006,20,22],[1,9011]],[.tmp 4,.tmp 5],false⟩:=gK
theorem tf_170:gQ ⟨30,10,[(9,1)],[],[[1000001,4],[2003,5009]],[.tmp 4],false⟩:=gK
theorem tf_175:gQ ⟨33,32,[],[],[[0,5],[6,8012],[13],[1002,7,14016],[5,7,14,17024],[1002,25026],[1002,25,27031]],[.cell true 3 4,.tmp 5],false⟩:=gK
theorem tf_107:gQ ⟨34,8,[(5,1)],[],[[0],[3006],[1,7]],[.cell true 2 2],false⟩:=gK
abbrev c_176_0:=kV [2,3,4] [kO 2 0,kO 3 1,oD 4 (.new [(.string ⟨#[]⟩),(.slice none 0 0)])] [0,1]
abbrev c_176_1:=kV [5] [oD 5 (.new [(.int .i64 0)]),oN (.st 1 (.tmp 5) (vI 0))] []
abbrev c_176_2:=kV [2032,2033,2034,2035] [oL 7 true 3 2,kC 8 69 0 7] [2,7]
abbrev c_176_3:=kR [oD 17 (.build [(.string ⟨#[]⟩),(.slice none 0 0)] []),kS 2 4 17] [3,5,8,17]
noncomputable abbrev F_176:SFunc:=⟨18,(.seq c_176_0 (.seq c_176_1 (.seq (.seq c_176_2 (.block 0 (.raw 18 (z6E Go.Proofs.Tryz.prog 35 0)))) (.seq c_176_3 .ret)))),[.cell true 2 4],false⟩
theorem tf_176:zU Go.Proofs.Tryz.prog 35 (z3J [(8,0)]) (fpT []) (z3K [(0,[0,1]),(2,[2,7]),(7,[3,5,8,17])]) false=some F_176:=by kernel_rfl
abbrev c_173_0:=kV [4,5,6] [kO 4 0,kO 5 1,kO 6 2,oD 8 (.mov (.val (.slice none 0 0))),kI 9 0] [0,1,2,8,9]
abbrev c_173_1:=kV [2064,2065,2066,2067,10,11,12] [oM 15 3,kC 16 70 0 15,oD 10 (.new [(.int .i64 0)]),oD 11 (.new [(.slice none 0 0)]),oD 12 (.new [(.int .i64 0)]),oN (.st 1 (.tmp 10) (vI 0)),kS 1 11 16,oN (.st 1 (.tmp 12) (vI 0))] [3,15,16]
abbrev c_173_2:=kV [13] [oD 17 (.mkf (.func 71) [] [.tmp 10,.tmp 5,.tmp 11,.tmp 12,.tmp 6,.tmp 4]),oD 13 (.new [.nilFunc]),kS 1 13 17] [5,6,10,17]
abbrev c_173_3:=kV [2076,2077,2078,2079] [oL 18 true 3 4,kC 19 69 0 18] [4,18]
abbrev c_173_4:=kR [oL 26 false 1 12,kK 27 .neq 37 26 0] [13,19,26]
abbrev c_173_5:=kR [oL 28 false 1 12,oD 8 (.mov (.val (.slice none 0 0))),oM 9 28] [11,12,27,28]
abbrev c_173_6:=kR [oL 29 false 1 11,oM 8 29,kI 9 0] [11,12,27,29]
noncomputable abbrev F_173:SFunc:=⟨30,(.seq c_173_0 (.seq c_173_1 (.seq c_173_2 (.seq (.seq c_173_3 (.block 0 (.raw 30 (z6E Go.Proofs.Tryz.prog 37 0)))) (.seq (.seq c_173_4 (.cond (.tmp 27) (.seq c_173_5 .ret) .skip)) (.seq c_173_6 .ret)))))),[.tmp 8,.tmp 9],false⟩
theorem tf_173:zU Go.Proofs.Tryz.prog 37 (z3J [(16,0),(19,0),(24,1)]) (fpT []) (z3K [(0,[0,1,2,8,9]),(1,[3,15,16]),(2,[5,6,10,17]),(3,[4,18]),(6,[13,19,26]),(7,[11,12,27,28]),(8,[11,12,27,29])]) false=some F_173:=by kernel_rfl
theorem tf_156:gQ ⟨57,52,[(9,0),(14,0),(35,0),(48,0)],[],[[1000001,5],[8009],[2003,10011],[5,10,12014],[2003,15016],[5,15,17019],[],[20023],[25026],[24,27037],[2,7,38039],[3,40050],[3,6,40,51]],[.cell true 2 4,.tmp 5],false⟩:=gK
theorem tf_167:gQ ⟨61,38,[],[],[[0,2003],[8010],[1,11],[2003,11012],[],[16019],[7,20027],[5006,28034],[1,4,13015,35036],[2004,35,37],[1,13015]],[.tmp 2,.tmp 3],false⟩:=gK
theorem tf_108:gQ ⟨62,7,[(5,1)],[],[[0],[1,3006]],[.cell true 1 2],false⟩:=gK
theorem tf_171:gQ ⟨64,17,[(15,1)],[],[[1000001,4],[2003,5016]],[.tmp 4],false⟩:=gK
theorem tf_112:gQ ⟨67,29,[(25,1)],[],[[4],[8009],[1000001,10],[4,10013],[0],[],[17020],[6007,21026],[27],[1,5,14016,28]],[.tmp 4],false⟩:=gK
theorem tf_116:gQ ⟨68,4,[],[],[[0],[1,3]],[.cell true 4 2],false⟩:=gK
theorem tf_178:gQ ⟨69,4,[],[],[[0,2],[1,3]],[.tmp 2],false⟩:=gK
theorem tf_110:gQ ⟨70,5,[(4,1)],[],[[2],[0,3004]],[.tmp 2],false⟩:=gK
theorem tf_174:gQ ⟨71,50,[],[],[[0,8],[9010],[11017],[2,11,18028],[3,6007,29040],[3,6007,29,41042],[1,4005,43049]],[.tmp 8],false⟩:=gK
abbrev c_177_0:=kV [1,2] [kO 1 0,oD 2 (.new [(.bool false)])] [0]
abbrev c_177_1:=kR [kA 5 2 1,oL 6 false 1 5,kZ 7 6,kK 8 .gtr 3 7 12] [5,6,7]
abbrev c_177_2:=kR [oN (.st 1 (.tmp 2) (.val (.bool false)))] [1,8]
abbrev c_177_3:=kV [2040,2041,2042,2043] [oL 9 true 3 1,kC 10 69 0 9] [1,8,9]
abbrev c_177_4:=kR [oN (.st 1 (.tmp 2) (.val (.bool true)))] [10]
noncomputable abbrev F_177:SFunc:=⟨15,(.seq c_177_0 (.seq (.seq c_177_1 (.cond (.tmp 8) (.seq c_177_2 .ret) .skip)) (.seq (.seq c_177_3 (.block 0 (.raw 15 (z6E Go.Proofs.Tryz.prog 121 0)))) (.seq c_177_4 .ret)))),[.cell false 1 2],false⟩
theorem tf_177:zU Go.Proofs.Tryz.prog 121 (z3J [(10,0)]) (fpT []) (z3K [(0,[0]),(1,[5,6,7]),(2,[1,8]),(3,[1,8,9]),(7,[10])]) false=some F_177:=by kernel_rfl
theorem tf_113:gQ ⟨122,29,[(25,1),(13,1)],[],[[4],[8009],[1000001,10],[4,10013],[0],[],[17020],[6007,21026],[27],[1,5,14016,28]],[.tmp 4],false⟩:=gK
theorem tf_115:gQ ⟨123,12,[(9,1)],[],[[0],[3006],[7010],[1,11]],[.cell true 3 2],false⟩:=gK
theorem tf_179:gQ ⟨124,44,[(15,1),(37,1)],[],[[7008],[9010],[11],[4,11019],[1,20021],[],[25027],[6,28033],[4,34041],[42043]],[],false⟩:=gK
theorem tf_114:gQ ⟨125,29,[(25,1)],[],[[4],[8009],[1000001,10],[4,10013],[0],[],[17020],[6007,21026],[27],[1,5,14016,28]],[.tmp 4],false⟩:=gK
theorem tf_109:gQ ⟨126,8,[],[],[[0],[3006],[1,7]],[.cell true 4 2],false⟩:=gK
theorem tf_111:gQ ⟨183,29,[(25,1),(13,1)],[],[[4],[8009],[1000001,10],[4,10013],[0],[],[17020],[6007,21026],[27],[1,5,14016,28]],[.tmp 4],false⟩:=gK
noncomputable def funcs:Nat→Option SFunc
 |_=>none
end Go.Sh.Cd10
end

section
namespace Go.Proofs.YtbkgnekfigknhaaGreatDoor
open Go Go.RowKit Go.Mor
section
open Go.Sh Go.Sh.Cd1 Go.Sh.Cd7 Go.Sh.Cd10
def chR(h:Chg):List PV:=[.v (.int .i64 h.k),.v (.string (str h.f)),.v (.string (str h.n)),.v (.string (str h.m)),.v (.int .i64 h.t.k),.v (.int .i64 h.t.o),.v (.string (str h.x)),.v (.string (str h.o))]
def z2b(l:List Chg):List (List PV):=l.map chR
def lnC(l:Ln):List TV:=[S (str l.c.n),.pv (.sl 4 (flR l.c.fs)),.pv (.sl 8 (z2b l.hs))]
theorem z5c(l:List Chg)(k:Nat):(z2b l)[k]?=(l[k]?).map chR:=by unfold z2b;rw[List.getElem?_map]
theorem z1h(l:List Chg):(z2b l).length=l.length:=by unfold z2b;rw[List.length_map]
theorem z78(g:Sh.Glob)(l:Ln):zC g 69 [.agg (lnC l)] [] (.fn (.func 124) [] [.ptr 1000 0]) [.box (lnC l)]:=by
 refine zo tf_178 ?_;unfold lnC;simp only[vW,seval]
def yV(yv:Value)(l:Ln)(i:Nat)(c:Cls)(bx:List (Nat×List TV)):ES:=⟨[(0,.pv (.v yv)),(3,.ptr 3 0),(22,.pv (.sl 8 (z2b l.hs))),(23,I ((z2b l.hs).length:Int)),(24,I (i:Int))],(1000,lnC l)::(3,[S (str c.n),.pv (.sl 4 (flR c.fs))])::bx,[],[]⟩
theorem z2g{c:Cls}(h:ze c=true):ClsOk c∧c.fs.length≤8:=by
 have hr:=(z0Y c).1 h;have key:∀s,zb s=true→z0t s:=fun s hs=>by
  unfold zb at hs;simp only[Bool.and_eq_true,decide_eq_true_eq]at hs;have:=hs.1.1.2;unfold z0t;omega
 refine⟨⟨key _ hr.1,fun f hf=>key _ ?_,by omega⟩,hr.2.1⟩;have:=hr.2.2.1 f hf;unfold zF at this;simp only[Bool.and_eq_true]at this;exact this.1.1
theorem zlF(m:Nat)(l:Ln)(hc:ClsOk l.c)(hh:∀h∈l.hs,ChOk m h):zC (glE m) 121 [.agg (lnC l)] [] (B (z09 l)) []:=by
 refine za tf_177 ?_ (hc:=rfl);have HV:=z78 (glE m) l;by_cases h12:l.hs.length≤12
 ·have d1:¬(12:Int)<(l.hs.length:Int):=by omega
  have HC:=z0E (glE m) l.c hc;unfold lnC B clT at*;simp only[vcY,seval,d1,z1h];refine z8 HV ?_;refine zbT (H:=z3J []) (Fp:=fpT []) (Kk:=z3K []) (lug:=[2]) tf_179 ?_;intro yv;refine z2f HC ?_;refine⟨fun hr=> ?_,fun hr=> ?_⟩
  ·refine z6N ?_;refine zce (σ:={x:Nat×Cls // x.1≤l.hs.length∧zq l x.1=(x.2,0)}) (fun x=>yV yv l x.1.1 x.1.2 [(1001,[.pv (.v (.bool false))])]) (fun x=>l.hs.length-x.1.1) ⟨(0,l.c),Nat.zero_le _,by rw[z28];simp[z1R,hr]⟩ ?_ ?_
   ·unfold yV lnC;exact lwA
   rintro⟨⟨i,c⟩,hi,hv⟩;have hi:i≤l.hs.length:=hi;have hv:zq l i=(c,0):=hv;unfold yV lnC;by_cases hlt:i<l.hs.length
   ·obtain⟨h,ex⟩:∃h,l.hs[i]?=some h:=⟨_,gE hlt⟩
    have hc':ClsOk c∧c.fs.length≤8:=z2g (by have:=z2P (l:=l) (k:=i) (by rw[hv]);rw[hv]at this;exact this);have HA:=z7s m c h hc'.1 (hh h (gM ex)) (by omega);have hn:=z34 ex;rw[hv,z3v h rfl]at hn;unfold z7c clT chT at HA;have d2:(i:Int)<((z2b l.hs).length:Int):=by rw[z1h];omega
    simp only[vcY,seval,d2,z5c,ex,chR];refine z2f HA ?_;refine z6N ?_;refine⟨fun he=>⟨fun _=> ?_,fun h=>absurd he h⟩,fun he=> ?_⟩
    ·refine zc ⟨(i+1,(z0D c h).1),by show i+1≤l.hs.length;omega,by rw[hn,←he]⟩ (by show l.hs.length-(i+1)<l.hs.length-i;omega) ?_;have w1:=wS i;simp only[w1];exact lwA
    ·have:z09 l=false:=by
      unfold z09;have h0:(zq l (i+1)).2≠0:=by rw[hn];exact he
      rw[z88 h0 (by omega)];simp[h0]
     rw[this]
   ·have d2:¬(i:Int)<((z2b l.hs).length:Int):=by rw[z1h];omega
    simp only[vcY,seval,d2];obtain rfl:i=l.hs.length:=by omega
    have:z09 l=true:=by
     unfold z09;rw[hv,show Nat.ble l.hs.length 12=true from Nat.ble_eq_true_of_le h12];rfl
    rw[this]
  ·refine z6N ?_;have:z09 l=false:=by
    unfold z09;have h0:(zq l 0).2≠0:=by rw[z28];simp[z1R,hr]
    rw[z88 h0 (Nat.zero_le _)];simp[h0]
   rw[this]
 ·have d1:(12:Int)<(l.hs.length:Int):=by omega
  have hb:z09 l=false:=by
   unfold z09;rw[show Nat.ble l.hs.length 12=false from by rw[←Bool.not_eq_true];intro h;have:=Nat.le_of_ble_eq_true h;omega];rfl
  unfold lnC B;rw[hb];simp only[vcY,seval,d1,z1h]
structure LnOk(m:Nat)(l:Ln):Prop where
 r:z09 l=true
 h:∀h∈l.hs,ChOk m h
theorem LnOk.c{m:Nat}{l:Ln}(h:LnOk m l):ze l.c=true:=by
 have:=z2P (z0Z h.r (Nat.zero_le _))
 rwa [z28]at this
theorem LnOk.len{m:Nat}{l:Ln}(h:LnOk m l):l.hs.length≤12:=by
 have:=h.r;unfold z09 at this;simp only[Bool.and_eq_true]at this;exact Nat.le_of_ble_eq_true this.1
theorem zb9{m:Nat}{l:Ln}(h:LnOk m l){i:Nat}{x:Chg}(hx:l.hs[i]?=some x):z0D (zq l i).1 x=((zq l (i+1)).1,0)∧ClsOk (zq l i).1∧(zq l i).1.fs.length≤8:=by
 have hi:=(gJ hx).1;have h0:=z0Z h.r (k:=i) (by omega);have h1:=z0Z h.r (k:=i+1) (by omega);have hn:=z34 hx;rw[z3v x h0]at hn;rw[←hn];exact⟨by rw[←h1],z2g (z2P h0)⟩
theorem zhD(m:Nat)(l:Ln)(hl:LnOk m l)(v:Nat)(hv:v≤l.hs.length):zC (glE m) 35 [.agg (lnC l),I (v:Int)] [] (clT (zq l v).1) []:=by
 refine za tf_176 ?_ (hc:=rfl);have HV:=z78 (glE m) l;have HC:=z0E (glE m) l.c (z2g hl.c).1;have h12:=hl.len;rw[hl.c]at HC;unfold lnC B clT at*;simp only[vcY,seval];refine z8 HV ?_;refine zbT (H:=z3J []) (Fp:=fpT []) (Kk:=z3K []) (lug:=[3,4,5]) tf_179 ?_;intro yv;refine z2f HC ?_;refine z6N ?_;refine⟨fun h0=> ?_,fun h0=> ?_⟩
 ·obtain rfl:v=0:=by omega
  rw[z28];rfl
 refine zce (σ:={x:Nat×Cls // x.1<v∧zq l x.1=(x.2,0)}) (fun x=>yV yv l x.1.1 x.1.2 [(1001,[I (v:Int)]),(1002,[S ⟨#[]⟩,.pv (.v (.slice none 0 0))]),(1003,[I ((x.1.1+1:Nat):Int)])]) (fun x=>l.hs.length-x.1.1) ⟨(0,l.c),by show 0<v;omega,by rw[z28];simp[z1R,hl.c]⟩ ?_ ?_
 ·unfold yV lnC;simp only[show IntKind.i64.wrap 1=1 from wG];exact lwA
 rintro⟨⟨i,c⟩,hi,hv'⟩;have hi:i<v:=hi;have hv':zq l i=(c,0):=hv';unfold yV lnC;obtain⟨h,ex⟩:∃h,l.hs[i]?=some h:=⟨_,gE (by omega)⟩
 obtain⟨n1,n2,n3⟩:=zb9 hl ex;rw[hv']at n1 n2 n3;have HA:=z7s m c h n2 (hl.h h (gM ex)) (by have:c.fs.length≤8:=n3;omega);have n1:z0D c h=((zq l (i+1)).1,0):=n1;rw[n1]at HA;unfold z7c clT chT at HA;have d2:(i:Int)<((z2b l.hs).length:Int):=by rw[z1h];omega
 have w1:=wS (i+1);have w2:=wS i;simp only[vcY,seval,d2,z5c,ex,chR];refine z2f HA ?_;refine z6N ?_;refine⟨fun e=> ?_,fun e=>zc ⟨(i+1,(zq l (i+1)).1),by show i+1<v;omega,by rw[←z0Z hl.r (show i+1≤l.hs.length by omega)]⟩ (by show l.hs.length-(i+1)<l.hs.length-i;omega) ?_⟩
 ·obtain rfl:v=i+1:=by omega
  rfl
 ·simp only[w1,w2];exact lwA
end
section
open Go.Sh Go.Sh.Cd1 Go.Sh.Cd7
theorem zjV(g:Sh.Glob)(f:Fld)(h:Chg)(hk:1≤h.k∧h.k≤6):zC g 99 [flT f,chT h] [] (.pv (.sl 4 (flR (z1H f h)))) []:=by
 obtain⟨k,hf,n,m,⟨tk,ot⟩,x,o⟩:=h;obtain⟨fn,⟨fk,fo⟩,ix⟩:=f
 dsimp only at hk
 have hk':k=1∨k=2∨k=3∨k=4∨k=5∨k=6:=by omega
 unfold z1H flT chT flR flR1
 dsimp only
 by_cases hn:fn=hf
 ·subst hn;rcases hk' with rfl|rfl|rfl|rfl|rfl|rfl
  ·refine za tf_163 ?_;simp only[vW,seval]
  ·rw[if_neg (by simp),if_pos rfl];refine SCalls.out (y:=zD) ?_ (z3z 4);refine za tf_163 ?_;unfold zD;simp only[vW,seval]
  all_goals
   refine za tf_163 ?_;simp only[vW,seval]
 ·have hb:(fn==hf)=false:=by simpa using hn
  rw[if_pos (.inr hn)];refine za tf_163 ?_;simp only[vW,seval,hb]
theorem zgm(f:Fld)(h:Chg):(z1H f h).length≤2:=by
 unfold z1H
 repeat' split
 all_goals simp
theorem zf5(l:List Fld)(h:Chg):(l.flatMap (z1H · h)).length≤2*l.length:=by
 induction l with
 |nil=>simp
 |cons x l ih=>
  have:=zgm x h;rw[List.flatMap_cons,List.length_append,List.length_cons];omega
theorem zkH{l:List Fld}(h:Chg){i:Nat}{x:Fld}(hx:l[i]?=some x):(l.take (i+1)).flatMap (z1H · h)=(l.take i).flatMap (z1H · h)++z1H x h:=by
 rw[List.take_add_one,hx,List.flatMap_append];simp
theorem zgY(g:Sh.Glob)(c:Cls)(h:Chg)(ho:okV c h=true)(hk:1≤h.k∧h.k≤6)(hf:z0t h.f)(hn:z0t h.n)(hm:z0t h.m)(hx:RTx h.x)(hox:RTx h.o):zC g 57 [clT c,chT h] [] (.tuple [clT ⟨c.n,z07 c h⟩,I 0]) []:=by
 have hr:ze c=true:=by
  unfold okV at ho;simp only[Bool.and_eq_true]at ho;exact ho.1.1
 have hcl:=z2g hr;have HC:=z6h g c hcl.1;have HR:=z92 g c h hcl.1 hf hn hm hx hox;have HT:=fun f=>zjV g f h hk;have hfl:=zdP ho;rw[hr]at HC;rw[ho]at HR;have hlen:=hcl.2;clear hx hox hf hn hm hr ho hcl;refine z2e Cd10.tf_156 ?_;rw[←hfl];clear hfl;obtain⟨k,hf,n,m,⟨tk,ot⟩,x,o⟩:=h;unfold clT chT B at*;simp only[vW,seval];refine z8 HC ?_;refine z8 HR ?_;refine zp (σ:={i:Nat // i≤c.fs.length}) (fun i=>⟨[(2,.ptr 2 0),(3,.ptr 3 0),(4,.ptr 4 0),(6,.ptr 6 0),(7,I (i.1:Int))],[(2,[S (str c.n),.pv (.sl 4 (flR c.fs))]),(3,[I k,S (str hf),S (str n),S (str m),I tk,I ot,S (str x),S (str o)]),(4,[S ⟨#[]⟩,.pv (.v (.slice none 0 0))]),(6,[S (str c.n),.own 3000 4 (flR ((c.fs.take i.1).flatMap (z1H · ⟨k,hf,n,m,⟨tk,ot⟩,x,o⟩)))])],[(3000,(57,4,((c.fs.take i.1).flatMap (z1H · ⟨k,hf,n,m,⟨tk,ot⟩,x,o⟩)).length))],[]⟩) (fun i=>c.fs.length-i.1) ⟨0,Nat.zero_le _⟩ ?_ ?_
 ·refine ES.Lw.trans ?_ (z64 (x:=6) (j:=1) (d:=3000) (e:=57) (W:=4) (.inr (by decide)) (by decide) rfl (by simp only[vcA,seval]) rfl);exact z0M rfl
 rintro⟨i,hi⟩;by_cases hlt:i<c.fs.length
 ·have d1:(i:Int)<(c.fs.length:Int):=by omega
  obtain⟨y,ey⟩:∃y,c.fs[i]?=some y:=⟨_,gE hlt⟩
  have HY:=HT y;have hst:=zkH ⟨k,hf,n,m,⟨tk,ot⟩,x,o⟩ ey;have hfw:=zf5 (c.fs.take i) ⟨k,hf,n,m,⟨tk,ot⟩,x,o⟩;have htw:=zgm y ⟨k,hf,n,m,⟨tk,ot⟩,x,o⟩;have htl:=List.length_take_le i c.fs;have w1:=wS i;have hR:flR ((c.fs.take i).flatMap (z1H · ⟨k,hf,n,m,⟨tk,ot⟩,x,o⟩))++flR (z1H y ⟨k,hf,n,m,⟨tk,ot⟩,x,o⟩)=flR ((c.fs.take (i+1)).flatMap (z1H · ⟨k,hf,n,m,⟨tk,ot⟩,x,o⟩)):=by
   rw[hst];unfold flR;rw[List.map_append]
  have hL:((c.fs.take i).flatMap (z1H · ⟨k,hf,n,m,⟨tk,ot⟩,x,o⟩)).length+(z1H y ⟨k,hf,n,m,⟨tk,ot⟩,x,o⟩).length=((c.fs.take (i+1)).flatMap (z1H · ⟨k,hf,n,m,⟨tk,ot⟩,x,o⟩)).length:=by
   rw[hst,List.length_append]
  unfold flT at HY;simp only[vW,seval,d1,clV,ey];left;refine z8 HY ?_;simp only[vW,seval,clV,hR,hL,w1];exact⟨⟨by omega,by unfold maxLen;omega⟩,zc ⟨i+1,by omega⟩ (by show c.fs.length-(i+1)<c.fs.length-i;omega) lwA⟩
 ·have d1:¬(i:Int)<(c.fs.length:Int):=by omega
  obtain rfl:i=c.fs.length:=by omega
  rw[List.take_length];by_cases h1:k=1
  ·subst h1;have hfw:=zf5 c.fs ⟨1,hf,n,m,⟨tk,ot⟩,x,o⟩;simp only[vW,seval,d1,clV];refine⟨⟨by omega,by unfold maxLen;omega⟩,?_⟩;unfold flR;rw[List.map_append];rfl
  ·simp only[vW,seval,d1,clV,h1]
end
section
structure RowT(α:Type) where
 e:TypeId
 t:TypeId
 size:Nat
 bytes:Nat
 zero:Value
 cells:α→List Value
 len:∀x,(cells x).length=size
 one:∀x u,u∈cells x→u.oneCell'=true
 pos:0<size
 few:bytes≤1000
 und:Tryz.prog.underlying t=some (.slice e)
 info:(Tryz.prog.info? e).map (fun i=>(i.zero,i.size,i.bytes))=some (some zero,size,bytes)
 zlen:zero.cells.size=size
variable{α:Type}(R:RowT α)
def IsR(ok:Nat→Prop)(w:World)(l:List α)(c:Value):Prop:=
 ∃(b off cap:Nat) (p:Option Addr),c=.slice p l.length cap∧l.length≤cap∧cap≤maxLen∧(l≠[]→p=some ⟨b,off,none⟩∧ok b)∧(p=none→c=.slice none 0 0)∧
  ∀(i:Nat) (x:α),l[i]?=some x→∀(j:Nat) (u:Value),(R.cells x)[j]?=some u→w.cell? ⟨b,off+i*R.size+j,none⟩=some u
def OwnR(base:Nat)(w:World)(v:Value)(l:List α):Prop:=w.ownsRow base R.e R.size v l.length (l.flatMap R.cells)
variable{R}
theorem IsR.keepBy{ok:Nat→Prop}{w w':World}{l:List α}{c:Value}(h:IsR R ok w l c)(hk:∀a v,ok a.block→w.cell? a=some v→w'.cell? a=some v):IsR R ok w' l c:=by
 obtain⟨b,off,cap,p,h1,h2,h3,h4,h6,h5⟩:=h;refine⟨b,off,cap,p,h1,h2,h3,h4,h6,fun i x hx j u hu=> ?_⟩;exact hk _ _ (h4 (by rintro rfl;simp at hx)).2 (h5 i x hx j u hu)
theorem IsR.ext{ok:Nat→Prop}{w w':World}{l:List α}{c:Value}(h:IsR R ok w l c)(hb:Below w.heap.size w w'):IsR R ok w' l c:=
 h.keepBy fun _ _ _ hv=>(hb.cell (z1d hv)).trans hv
theorem IsR.weaken{ok ok':Nat→Prop}{w:World}{l:List α}{c:Value}(h:IsR R ok w l c)(hk:∀b,ok b→ok' b):IsR R ok' w l c:=by
 obtain⟨b,off,cap,p,h1,h2,h3,h4,h5⟩:=h;exact⟨b,off,cap,p,h1,h2,h3,fun hl=>⟨(h4 hl).1,hk _ (h4 hl).2⟩,h5⟩
theorem IsR.at{ok:Nat→Prop}{w:World}{l:List α}{p:Option Addr}{n cap:Nat}(h:IsR R ok w l (.slice p n cap))(hl:0<l.length):
  ∃b off,p=some ⟨b,off,none⟩∧ok b∧b<w.heap.size∧∀(i:Nat) (x:α),l[i]?=some x→∀(j:Nat) (u:Value),(R.cells x)[j]?=some u→w.cell? ⟨b,off+i*R.size+j,none⟩=some u:=by
 obtain⟨b,off,cap',p',h1,h2,h3,h4,h6,h5⟩:=h;obtain⟨rfl,_,_⟩:p=p'∧_:=by simpa using h1
 have hne:l≠[]:=by rintro rfl;simp at hl
 refine⟨b,off,(h4 hne).1,(h4 hne).2,?_,h5⟩;obtain⟨x,hx⟩:∃x,l[0]?=some x:=⟨_,gE hl⟩
 have hpos:=R.pos;obtain⟨u,hu⟩:∃u,(R.cells x)[0]?=some u:=⟨_,gE (by rw[R.len];exact hpos)⟩
 exact z1d (h5 0 x hx 0 u hu)
theorem IsR.cell{ok:Nat→Prop}{w:World}{l:List α}{g o n cap:Nat}(h:IsR R ok w l (.slice (some ⟨g,o,none⟩) n cap)){i:Nat}{x:α}(hx:l[i]?=some x){j:Nat}{u:Value}(hu:(R.cells x)[j]?=some u):w.cell? ⟨g,o+i*R.size+j,none⟩=some u:=by
 obtain⟨b,off,cap',p',h1,h2,h3,h4,h6,h5⟩:=h;have hne:l≠[]:=by rintro rfl;simp at hx
 obtain⟨hp,_⟩:=h4 hne;subst hp;have h1a:(⟨g,o,none⟩:Addr)=⟨b,off,none⟩:=by injection h1 with h1;injection h1
 have hgb:g=b:=congrArg Addr.block h1a;have hof:o=off:=congrArg Addr.off h1a;have:=h5 i x hx j u hu;rw[←hgb,←hof]at this;exact this
theorem IsR.low{B:Nat}{w w':World}{l:List α}{c:Value}(h:IsR R (fun b=>b<B) w l c)(hb:Below B w w'):IsR R (fun b=>b<B) w' l c:=
 h.keepBy fun _ _ ho hv=>(hb.cell ho).trans hv
theorem IsR.none_{ok:Nat→Prop}{w:World}:IsR R ok w [] (.slice none 0 0):=⟨0,0,0,none,rfl,by simp,Nat.zero_le _,by simp,fun _=>rfl,by simp⟩
theorem OwnR.nil(base:Nat)(w:World):OwnR R base w (.slice none 0 0) []:=⟨by simp,.inl ⟨rfl,rfl⟩⟩
theorem OwnR.below{base:Nat}{w:World}{v:Value}{l:List α}(h:OwnR R base w v l):∀k,v.ownBlock=some k→base≤k:=by
 rcases h.2 with⟨rfl,_⟩|⟨g,cap,cur,rfl,hg,_⟩
 ·intro k hk;cases hk
 ·intro k hk;cases hk;exact hg
theorem OwnR.lt{base:Nat}{w:World}{v:Value}{l:List α}(h:OwnR R base w v l):∀k,v.ownBlock=some k→k<w.heap.size:=by
 rcases h.2 with⟨rfl,_⟩|⟨g,cap,cur,rfl,hg,hc,_⟩
 ·intro k hk;cases hk
 ·intro k hk;cases hk;exact z4V hc
theorem OwnR.grown{base:Nat}{w w':World}{v:Value}{l:List α}{row:Option Nat}(h:OwnR R base w v l)(hg:w.grownBy w' row)(hr:∀k,row=some k→v.ownBlock≠some k):OwnR R base w' v l:=by
 refine⟨h.1,?_⟩;rcases h.2 with h|⟨g,cap,cur,rfl,h2,h3,h4⟩
 ·exact .inl h
 ·exact .inr ⟨g,cap,cur,rfl,h2,(hg.block g (z4V h3) (fun e=>hr g e.symm rfl)).trans h3,h4⟩
theorem OwnR.ext{base:Nat}{w w':World}{v:Value}{l:List α}(h:OwnR R base w v l)(hb:Below w.heap.size w w'):OwnR R base w' v l:=by
 refine⟨h.1,?_⟩;rcases h.2 with h|⟨g,cap,cur,h1,h2,h3,h4⟩
 ·exact .inl h
 ·exact .inr ⟨g,cap,cur,h1,h2,(hb.block g (z4V h3)).trans h3,h4⟩
theorem OwnR.ne{base:Nat}{w:World}{v:Value}{l:List α}(h:OwnR R base w v l){B t:Nat}{cs:Array Value}(hq:w.heap[B]?=some (.cells cs t (0,0)))(ht:t≠R.e):some B≠v.ownBlock:=by
 rcases h.2 with⟨rfl,_⟩|⟨g,cap,cur,rfl,hg,hc,_⟩
 ·intro k;cases k
 ·intro k;cases k;rw[hq]at hc;cases hc;exact ht rfl
theorem OwnR.keep{base:Nat}{w w':World}{v:Value}{l:List α}(h:OwnR R base w v l)(hg:w.grownBy w' v.ownBlock){B t:Nat}{cs:Array Value}(hq:w.heap[B]?=some (.cells cs t (0,0)))(ht:t≠R.e):w'.heap[B]?=some (.cells cs t (0,0)):=
 (hg.block B (z4V hq) (h.ne hq ht)).trans hq
theorem OwnR.set{base:Nat}{w:World}{v u:Value}{l:List α}{C i:Nat}(h:OwnR R base w v l)(hn:some C≠v.ownBlock):OwnR R base (w.setCell ⟨C,i,none⟩ u) v l:=by
 refine⟨h.1,?_⟩;rcases h.2 with h|⟨g,cap,cur,rfl,h2,h3,h4⟩
 ·exact .inl h
 ·exact .inr ⟨g,cap,cur,rfl,h2,(heap_setCell_other _ _ _ _ (fun e=>hn (congrArg some e.symm))).trans h3,h4⟩
theorem z8x(l:List α):(l.flatMap R.cells).length=l.length*R.size:=by
 induction l with
 |nil=>simp
 |cons f r ih=>rw[List.flatMap_cons,List.length_append,R.len,ih,List.length_cons,Nat.add_mul];omega
theorem z8w(l:List α)(i:Nat)(x:α)(h:l[i]?=some x)(j:Nat)(hj:j<R.size):(l.flatMap R.cells)[i*R.size+j]?=(R.cells x)[j]?:=by
 induction l generalizing i with
 |nil=>simp at h
 |cons g r ih=>
  rw[List.flatMap_cons];cases i with
  |zero=>
   simp at h;subst h;rw[List.getElem?_append_left (by rw[R.len];omega)];simp
  |succ i=>
   rw[List.getElem?_append_right (by rw[R.len,Nat.add_mul];omega),R.len];have:(i+1)*R.size+j-R.size=i*R.size+j:=by rw[Nat.add_mul];omega
   rw[this];exact ih i (by simpa using h)
theorem OwnR.isR{base:Nat}{w:World}{v:Value}{l:List α}(h:OwnR R base w v l):IsR R (fun b=>base≤b∧v.ownBlock=some b) w l v:=by
 rcases h.2 with⟨rfl,h0⟩|⟨g,cap,cur,rfl,hg,hc,hcap,hmax,hsz,htake⟩
 ·obtain rfl:l=[]:=List.eq_nil_of_length_eq_zero h0;exact IsR.none_
 ·refine⟨g,0,cap,_,rfl,hcap,hmax,fun _=>⟨rfl,hg,rfl⟩,(fun h=>by cases h),fun i x hx j u hu=> ?_⟩;have hi:i<l.length:=(gJ hx).1;have hj:j<R.size:=by rw[←R.len x];exact(gJ hu).1
  have hlt:i*R.size+j<l.length*R.size:=by
   have:=Nat.mul_le_mul_right R.size (show i+1≤l.length by omega);rw[Nat.add_mul]at this;omega
  rw[←hu,←z8w l i x hx j hj,←htake,List.getElem?_take_of_lt hlt];simp[World.cell?,hc]
theorem OwnR.at{base:Nat}{w:World}{p:Option Addr}{n cap:Nat}{l:List α}(h:OwnR R base w (.slice p n cap) l)(hl:0<l.length):∃g,p=some ⟨g,0,none⟩∧base≤g∧g<w.heap.size:=by
 rcases h.2 with⟨h1,h0⟩|⟨g,cap',cur,h1,hg,hc,_⟩
 ·omega
 ·refine⟨g,?_,hg,z4V hc⟩;injection h1
theorem OwnR.cell{base:Nat}{w:World}{g n cap:Nat}{l:List α}(h:OwnR R base w (.slice (some ⟨g,0,none⟩) n cap) l){i:Nat}{x:α}(hx:l[i]?=some x){j:Nat}{u:Value}(hu:(R.cells x)[j]?=some u):w.cell? ⟨g,i*R.size+j,none⟩=some u:=by
 obtain⟨b,off,cap',p',h1,h2,h3,h4,h6,h5⟩:=h.isR;have hne:l≠[]:=by rintro rfl;simp at hx
 obtain⟨hp,_⟩:=h4 hne;subst hp;have h1a:(⟨g,0,none⟩:Addr)=⟨b,off,none⟩:=by injection h1 with h1;injection h1
 have hgb:g=b:=congrArg Addr.block h1a;have hof:0=off:=congrArg Addr.off h1a;have:=h5 i x hx j u hu;rw[←hgb,←hof,Nat.zero_add]at this;exact this
theorem OwnR.any{base:Nat}{w:World}{v:Value}{l:List α}(h:OwnR R base w v l):IsR R (fun _=>True) w l v:=h.isR.weaken fun _ _=>trivial
theorem zgL{P:Program}{e:TypeId}{z:Option Value}{s b:Nat}(h:(P.info? e).map (fun i=>(i.zero,i.size,i.bytes))=some (z,s,b)):∃i,P.info? e=some i∧i.zero=z∧i.size=s∧i.bytes=b:=by
 obtain⟨i,hi,he⟩:=gO h;simp only[Prod.mk.injEq]at he;exact⟨i,hi,he.1,he.2.1,he.2.2⟩
theorem zow{o:Oper}{a:Act}{K:Act→World→Prop}{Q:Exit→Act→World→Prop}{w:World}(sl x:Operand)
  (ho:o.op=.call { callee:=.builtin .append,args:= #[sl,x],argTypes:= #[R.t,R.t] })
  {base:Nat} {v c:Value} {l m:List α} (hown:OwnR R base w v l) (hm:IsR R (fun _=>True) w m c) (hm0:0<m.length) (hs:a.eval sl=v) (hx:a.eval x=c) (hlen:l.length+m.length≤1000000) (hb:base≤w.heap.size)
  (h:∀L g cap w',Hid (L=l++m)→Hid (OwnR R base w' (.slice (some ⟨g,0,none⟩) L.length cap) L)→w.grownBy w' v.ownBlock→Hid (v.ownBlock=some g∨g=w.heap.size)→K (a.put o.dst (.slice (some ⟨g,0,none⟩) L.length cap)) w'):Oper.wp Tryz.prog o a w K Q:=by
 obtain⟨i0,hi,hz0,hz1,hz2⟩:=zgL R.info;obtain⟨b,off,cap,p,rfl,hcap,hmax,hp,hn,hc⟩:=hm;obtain⟨hpe,_⟩:=hp (by rintro rfl;simp at hm0);subst hpe;have hgo:∀g cap' w',w'.ownsRow base R.e R.size (.slice (some ⟨g,0,none⟩) (l.length+m.length) cap') (l.length+m.length) (l.flatMap R.cells++m.flatMap R.cells)→w.grownBy w' v.ownBlock→(v.ownBlock=some g∨g=w.heap.size)→g<w'.heap.size→K (a.put o.dst (.slice (some ⟨g,0,none⟩) (l.length+m.length) cap')) w':=by
  intro g cap' w' h1 h2 h3 _;have e:l.length+m.length=(l++m).length:=by simp
  rw[e]at h1 ⊢;refine h (l++m) g cap' w' rfl ?_ h2 h3;show OwnR R base w' _ _;unfold OwnR;simpa using h1
 refine wp_append_lies w sl x R.t ho base R.e i0 _ R.size R.bytes R.und hi hz0 hz1 hz2 R.zlen R.pos v l.length _ hs hown ⟨b,off,none⟩ m.length cap (m.flatMap R.cells) hx (z8x m) ?_ ?_ hm0 (by unfold maxLen;omega) ?_ hb w.heap.size rfl hgo
 ·intro j u hj;have hj':j<m.length*R.size:=by rw[←z8x];exact(gJ hj).1
  have hpos:=R.pos;have hdm:j / R.size*R.size+j%R.size=j:=by rw[Nat.mul_comm];exact Nat.div_add_mod j R.size
  have hd:j / R.size<m.length:=Nat.div_lt_of_lt_mul (by rw[Nat.mul_comm];exact hj');obtain⟨f,hf⟩:∃f,m[j / R.size]?=some f:=⟨_,gE hd⟩
  have hg:=z8w m (j / R.size) f hf (j%R.size) (Nat.mod_lt _ hpos);rw[hdm,hj]at hg;have:=hc _ f hf _ u hg.symm;rw[Addr.add_lit,show off+j=off+j / R.size*R.size+j%R.size by rw[Nat.add_assoc,hdm]];exact this
 ·intro u hu;obtain⟨f,_,hu⟩:=List.mem_flatMap.1 hu;exact R.one f u hu
 ·have:=R.few;have h1:(l.length+m.length)*R.bytes≤1000000*1000:=Nat.mul_le_mul hlen this;have h2:(1000000:Nat)*1000≤140737488355328:=by decide
  exact Nat.le_trans h1 h2
theorem zgv{ops:Array Oper}{zu:List Oper}{o:Oper}{a:Act}{Q:Exit→Act→World→Prop}{w:World}(hgd:o.guard=none)(sl x:Operand)
  (ho:o.op=.call { callee:=.builtin .append,args:= #[sl,x],argTypes:= #[R.t,R.t] })
  {base:Nat} {v c:Value} {l m:List α} (hown:OwnR R base w v l) (hm:IsR R (fun _=>True) w m c) (hm0:0<m.length) (hs:a.eval sl=v) (hx:a.eval x=c) (hlen:l.length+m.length≤1000000) (hb:base≤w.heap.size)
  (h:∀L g cap w',Hid (L=l++m)→Hid (OwnR R base w' (.slice (some ⟨g,0,none⟩) L.length cap) L)→w.grownBy w' v.ownBlock→Hid (v.ownBlock=some g∨g=w.heap.size)→wpList Tryz.prog ops Q zu (a.put o.dst (.slice (some ⟨g,0,none⟩) L.length cap)) w'):wpList Tryz.prog ops Q (o::zu) a w:=
 wpList_plain hgd fun _ hK=>zow sl x ho hown hm hm0 hs hx hlen hb fun L g cap w' h1 h2 h3 h4=>hK _ _ (h L g cap w' h1 h2 h3 h4)
theorem zpP{w:World}{b t:Nat}(x:α){cs:Array Value}(h:w.heap[b]?=some (.cells cs t (0,0)))(hcs:cs.toList=R.cells x):IsR R (fun _=>True) w [x] (.slice (some ⟨b,0,none⟩) 1 1):=by
 refine⟨b,0,1,_,rfl,by simp,by decide,fun _=>⟨rfl,trivial⟩,(fun h=>by cases h),fun i y hy j u hu=> ?_⟩;cases i with
 |zero=>
  simp at hy;subst hy;rw[←hcs]at hu;simp[World.cell?,h];simpa using hu
 |succ i=>simp at hy
end
end Go.Proofs.YtbkgnekfigknhaaGreatDoor
end
