/- Merged texts: Zy5 Pk3 Zx0 Ya5 Ya6 Yp Zu6 Zu7 Zu8 Yc2 Ya7 Ya8. No statement of the program is proved here. -/
import Derived.Test.YtpmlapgbmgbilaaGreatDoorQ36
set_option linter.unusedSimpArgs false
set_option linter.unusedVariables false
set_option maxRecDepth 100000
set_option maxHeartbeats 8000000
section
namespace Go.Proofs.YtpmlapgbmgbilaaGreatDoor
open Go Go.RowKit Go.Mor Go.Sh Go.Sh.Cd1
theorem zi9{x:V}(h:z1E x=true):x=.mk 0 0 [] []∨(∃n, -1000000000000000≤n∧n≤1000000000000000∧x=.mk 1 n [] [])∨(∃s,zl s=true∧x=.mk 2 0 s [])∨(∃k n,(k=3∨k=4)∧z3q n=true∧x=.mk k n [] []):=by
 unfold z1E bare at h;have e:=V.eta x;by_cases h0:x.k=0
 ·rw[if_pos h0]at h;simp at h;obtain⟨⟨h1,h2⟩,h3⟩:=h;exact .inl (by rw[←e,h0,h1,h2,h3])
 rw[if_neg h0]at h;by_cases h0:x.k=1
 ·rw[if_pos h0]at h;simp at h;obtain⟨⟨⟨h1,h2⟩,h3⟩,h4⟩:=h;exact .inr (.inl ⟨x.n,h3,h4,by rw[←e,h0,h1,h2];rfl⟩)
 rw[if_neg h0]at h;by_cases h0:x.k=2
 ·rw[if_pos h0]at h;simp at h;obtain⟨⟨h1,h2⟩,h3⟩:=h;exact .inr (.inr (.inl ⟨x.s,h3,by rw[←e,h0,h1,h2];rfl⟩))
 rw[if_neg h0]at h;by_cases h0:x.k=3∨x.k=4
 ·rw[if_pos h0]at h;simp at h;obtain⟨⟨h1,h2⟩,h3⟩:=h;exact .inr (.inr (.inr ⟨x.k,x.n,h0,h3,by rw[←e,h1,h2];rfl⟩))
 ·rw[if_neg h0]at h;cases h
theorem zcW{s:zB}(h:zl s=true):s.length≤60:=by unfold zl at h;simp at h;exact h.1
theorem zfL{n:Int}(h:z3q n=true):(1≤n∧n≤100000)∨(-20≤n∧n≤ -1):=by unfold z3q at h;simpa using h
theorem z4W{x:V}(h:z1E x=true):zoI x∧x.k≠5∧x.l=[]:=by
 unfold zoI I64;rcases zi9 h with rfl|⟨n,h1,h2,rfl⟩|⟨s,h1,rfl⟩|⟨k,n,h1,h2,rfl⟩
 ·refine⟨⟨⟨?_,?_⟩,⟨?_,?_⟩,?_⟩,?_,rfl⟩<;>simp[V.k,V.n,V.s]
 ·refine⟨⟨⟨?_,?_⟩,⟨?_,?_⟩,?_⟩,?_,rfl⟩<;>simp[V.k,V.n,V.s]<;>omega
 ·have:=zcW h1;refine⟨⟨⟨?_,?_⟩,⟨?_,?_⟩,?_⟩,?_,rfl⟩<;>simp[V.k,V.n,V.s]<;>omega
 ·have:=zfL h2;refine⟨⟨⟨?_,?_⟩,⟨?_,?_⟩,?_⟩,?_,rfl⟩<;>simp[V.k,V.n,V.s]<;>omega
theorem zb4{x:V}(h:z1j x=true)(h5:x.k=5):x.n=0∧x.s=[]∧x.l.length≤12∧∀y∈x.l,y.k≠5∧z1E y=true:=by
 unfold z1j at h;rw[if_pos h5]at h;simp only[Bool.and_eq_true,beq_iff_eq,decide_eq_true_eq,Bool.not_eq_true',List.any_eq_false]at h;obtain⟨⟨⟨h1,h2⟩,h3⟩,h4⟩:=h;refine⟨h1,h2,h3,fun y hy=> ?_⟩;have:=h4 y hy;unfold z3A at this;simp at this;exact this
theorem zb6{x:V}(h:z1j x=true)(h5:x.k≠5):z1E x=true:=by unfold z1j at h;rwa [if_neg h5]at h
theorem zib{x:V}(h:z1j x=true):VOk x∧VSmall x∧x.s.length≤60∧x.l.length≤12:=by
 have hm:maxLen=9223372036854775807:=rfl;by_cases h5:x.k=5
 ·obtain⟨h1,h2,h3,h4⟩:=zb4 h h5;refine⟨⟨by unfold z1V;rw[h2];simp,fun y hy=> ?_⟩,?_,by rw[h2];simp,h3⟩
  ·have:=(z4W (h4 y hy).2).1.2.2;unfold z1V;omega
  ·obtain⟨k,n,s,l⟩:=x;simp only[Vl]at h3 h4;refine .mk (by omega) (fun y hy=> ?_);have:=(z4W (h4 y hy).2).2.2;obtain⟨k',n',s',l'⟩:=y;simp only[Vl]at this;subst this;exact .mk (by simp) (by simp)
 ·have h0:=z4W (zb6 h h5);refine⟨⟨by have:=h0.1.2.2;unfold z1V;omega,by rw[h0.2.2];simp⟩,?_,h0.1.2.2,by rw[h0.2.2];simp⟩;obtain⟨k,n,s,l⟩:=x;have:=h0.2.2;simp only[Vl]at this;subst this;exact .mk (by simp) (by simp)
end Go.Proofs.YtpmlapgbmgbilaaGreatDoor
end

section
namespace Go.Mor
open Go
structure Step(c:Cls)(vals:List V)(h:Chg)(d:Cls)(u:List V):Prop where
 ap:z03 c h=(d,0)
 va:z6h c h vals=(u,0)
 fit:FitC d u
end Go.Mor
end

section
namespace Go.Proofs.YtpmlapgbmgbilaaGreatDoor
open Go Go.RowKit Go.Mor Go.Sh Go.Sh.Cd1 Go.Sh.Cd7
theorem zjf{x:V}(h:z1j x=true):VFew x∧VOk x:=by
 have hv:=zib h;refine⟨?_,hv.1⟩;by_cases h5:x.k=5
 ·obtain⟨_,_,h3,h4⟩:=zb4 h h5;obtain⟨k,n,s,l⟩:=x;simp only[Vl]at h3 h4;exact .mk (by omega) (fun y hy=>zdL (z4W (h4 y hy).2).2.2)
 ·exact zdL (z4W (zb6 h h5)).2.2
theorem zge{c:Cls}{vals:List V}(h:FitC c vals):∀v∈vals,VFew v∧VOk v:=fun v hv=>by
 obtain⟨i,hi⟩:=List.getElem?_of_mem hv;have hl:=h.len;have hlt:=(gJ hi).1;have:=h.fit i _ v (gE (show i<c.fs.length by omega)) hi;unfold zI at this;simp only[Bool.and_eq_true]at this;exact zjf this.1.1.1
section
open Go.Sh.Cd10
def z2Y(l:Ln)(fr tt:Nat)(vals:List V)(i:Nat):List V:=z7L l fr vals (min i tt-fr)
theorem zjv{l:Ln}{fr tt:Nat}(h:fr≤tt)(vals:List V){i:Nat}(hi:i≤tt):(if fr≤i∧i<tt then z1x (zn l i).1 (l.hs.getD i ch0) (z2Y l fr tt vals i)else z2Y l fr tt vals i)=z2Y l fr tt vals (i+1):=by
 unfold z2Y;by_cases h1:fr≤i∧i<tt
 ·rw[if_pos h1,show min (i+1) tt-fr=(min i tt-fr)+1 by omega];show _=z1x _ _ _;rw[show fr+(min i tt-fr)=i by omega]
 ·rw[if_neg h1,show min (i+1) tt-fr=min i tt-fr by omega]
theorem zlE{l:Ln}(hr:zY l=true){fr tt:Nat}{vals:List V}(hf:FitC (zn l fr).1 vals)(ht:tt≤l.hs.length)(hft:fr≤tt){i:Nat}(hi:i≤tt):FitC (zn l (if fr≤i then i else fr)).1 (z2Y l fr tt vals i):=by
 unfold z2Y;have:=zdv hr hf (min i tt-fr) (by omega);by_cases h:fr≤i
 ·rw[if_pos h];rwa [show fr+(min i tt-fr)=i by omega]at this
 ·rw[if_neg h];rwa [show fr+(min i tt-fr)=fr by omega]at this
theorem zcc{c:Cls}{vals:List V}(h:FitC c vals):vals.length≤1000:=by
 have:=(z1h h.r).2;rw[h.len];omega
theorem zdZ(m:Nat)(l:Ln)(hl:LnOk m l)(i fr tt:Nat)(hft:fr≤tt)(hto:tt≤l.hs.length)(hi:i≤tt)(vals:List V)(hf:FitC (zn l fr).1 vals){c:Cls}(hc:zn l i=(c,0)):
  zC (glE m) 79 [clT c,.ptr 1000 0,.ptr 1001 0,.ptr 1002 0,.ptr 1003 0,.ptr 1004 0,.ptr 1005 0] (osK l i fr tt (z2Y l fr tt vals i) 0) (B (decide (i+1≤tt))) (osK l (i+1) fr tt (z2Y l fr tt vals (i+1)) 0):=by
 have h0:=zlE hl.r hf hto hft hi;have:=zld m l hl i fr tt hft hto hi (z2Y l fr tt vals i) (zge h0) (zcc h0) (fun h=>by rwa [if_pos h]at h0);rw[zjv hft vals hi,hc]at this;exact this
theorem zl9(m:Nat)(l:Ln)(hl:LnOk m l)(fr tt:Nat)(hft:fr≤tt)(hto:tt≤l.hs.length)(vals:List V)(hf:FitC (zn l fr).1 vals):
  zC (glE m) 54 [.agg (lnC l),I (fr:Int),I (tt:Int),.pv (.sl 4 (V.rows vals))] [] (.tuple [.pv (.sl 4 (V.rows (z7L l fr vals (tt-fr)))),I 0]) []:=by
 refine za tf_167 ?_ (hc:=rfl);have HV:=z6y (glE m) l;have HC:=z0t (glE m) l.c (z1h hl.c).1;have HF:=zdU (glE m) vals (zcc hf) (fun v hv=>(zge hf v hv).1);have hz:=z2j l;rw[show z2s l=(l.c,0) by simp[z2s,hl.c]]at hz;have H0:=zdZ m l hl 0 fr tt hft hto (Nat.zero_le _) vals hf hz;have h12:=hl.len;rw[hl.c]at HC;have hh0:z2Y l fr tt vals 0=vals:=by unfold z2Y;rw[show min 0 tt-fr=0 by omega];rfl
 rw[hh0]at H0;have hhe:z2Y l fr tt vals (tt+1)=z7L l fr vals (tt-fr):=by unfold z2Y;rw[show min (tt+1) tt-fr=tt-fr by omega]
 unfold osK lnC B clT at*;simp only[vcY,seval];refine z2b HF ?_;refine z2b HV ?_;refine zaY (H:=z3m [(24,1)]) (Fp:=fpT []) (Kk:=z3n []) (lug:=[13]) tf_173 ?_;intro yv;refine z2b HC ?_;refine z6i ?_;(with_reducible apply zw);simp only[vcY,seval];rfl;exact H0;rfl;simp only[vcY,seval];rfl;simp only[vcY,seval];refine⟨fun h1=> ?_,fun h1=> ?_⟩
 ·refine zbl (σ:={x:Nat×Cls // x.1<tt∧zn l x.1=(x.2,0)}) (fun x=>yV yv l x.1.1 x.1.2 [(1001,[.fn (.func 79) [] [.ptr 1002 0,.ptr 1003 0,.ptr 1004 0,.ptr 1005 0,.ptr 1006 0,.ptr 1007 0]]),(1002,[I ((x.1.1+1:Nat):Int)]),(1003,[I (fr:Int)]),(1004,[.pv (.sl 4 (V.rows (z2Y l fr tt vals (x.1.1+1))))]),(1005,[I 0]),(1006,[I (tt:Int)]),(1007,lnC l)]) (fun x=>l.hs.length-x.1.1) ⟨(0,l.c),by show 0<tt;omega,hz⟩ ?_ ?_
  ·unfold yV lnC;exact lwA
  rintro⟨⟨i,c⟩,hi,hv'⟩;have hi:i<tt:=hi;have hv':zn l i=(c,0):=hv';unfold yV lnC;obtain⟨h,ex⟩:∃h,l.hs[i]?=some h:=⟨_,gE (by omega)⟩
  obtain⟨n1,n2,n3⟩:=zal hl ex;rw[hv']at n1 n2 n3;have HA:=z4p m c h n2 (hl.h h (gM ex)) (by have:c.fs.length≤8:=n3;omega);have n1:z03 c h=((zn l (i+1)).1,0):=n1;rw[n1]at HA;have hv1:zn l (i+1)=((zn l (i+1)).1,0):=by rw[←z0h hl.r (show i+1≤l.hs.length by omega)]
  have HS:=zdZ m l hl (i+1) fr tt hft hto (by omega) vals hf hv1;unfold osK lnC B clT at HS;unfold z4P clT chT at HA;have d2:(i:Int)<((z0P l.hs).length:Int):=by rw[z0z];omega
  have w2:=wS i;simp only[vcY,seval,d2,z4I,ex,chR];refine z2b HA ?_;refine z6i ?_;(with_reducible apply zw);simp only[vcY,seval];rfl;exact HS;rfl;simp only[vcY,seval];rfl;simp only[vcY,seval];refine⟨fun e=>zc ⟨(i+1,(zn l (i+1)).1),by show i+1<tt;omega,hv1⟩ (by show l.hs.length-(i+1)<l.hs.length-i;omega) ?_,fun e=> ?_⟩
  ·simp only[w2];exact lwA
  ·obtain rfl:tt=i+1:=by omega
   rw[hhe]
 ·obtain rfl:tt=0:=by omega
  rw[hhe]
def scT(ls:List Ln):TV:=.agg [.pv (.sl 3 (z0s ls))]
theorem z2G(ls:List Ln)(k:Nat):(z0s ls)[k]?=(ls[k]?).map lnR:=by unfold z0s;rw[List.getElem?_map]
theorem z0k(ls:List Ln):(z0s ls).length=ls.length:=by unfold z0s;rw[List.length_map]
theorem z3K(g:Sh.Glob)(ls:List Ln)(n:zB)(hl:ls.length≤1000):zC g 14 [scT ls,S (str n)] [] (.tuple [I ((z0y ls n).1:Int),B (z0y ls n).2]) []:=by
 refine za tf_162 ?_;obtain⟨R,hR⟩:∃R,z0y ls n=R:=⟨_,rfl⟩
 rw[hR];unfold scT B;simp only[vW,seval,z0k];refine zk (σ:={i:Nat // i≤ls.length∧∀(j:Nat) x,j<i→ls[j]?=some x→(x.c.n==n)=false}) (fun i=>⟨[(1,S (str n)),(9,.pv (.sl 3 (z0s ls))),(10,I (ls.length:Int)),(11,I (i.1:Int))],[],[],[]⟩) (fun i=>ls.length-i.1) ⟨0,Nat.zero_le _,fun j x hj=>by omega⟩ ?_ ?_
 ·exact lwA
 rintro⟨i,hi,hno⟩;by_cases hlt:i<ls.length
 ·have d1:(i:Int)<(ls.length:Int):=by omega
  obtain⟨x,ex⟩:∃x,ls[i]?=some x:=⟨_,gE hlt⟩
  have w1:=wS i;cases hp:(x.c.n==n)
  ·have hp':¬x.c.n=n:=by simpa using hp
   simp only[vW,seval,d1,z2G,ex,lnR,hp,hp',w1];refine zc ⟨i+1,by omega,fun j y hj hy=> ?_⟩ (by show ls.length-(i+1)<ls.length-i;omega) lwA;by_cases hji:j=i
   ·subst hji;rw[ex]at hy;cases hy;exact hp
   ·exact hno j y (by omega) hy
  ·have hp':x.c.n=n:=by simpa using hp
   simp only[vW,seval,d1,z2G,ex,lnR,hp,hp',w1];rw[←hR,zbx ex hp hno]
 ·have d1:¬(i:Int)<(ls.length:Int):=by omega
  simp only[vW,seval,d1];rw[←hR,zcb (fun x hx=>by
   obtain⟨j,hj⟩:=List.getElem?_of_mem hx;exact hno j x (by have:=(gJ hj).1;omega) hj)]
  rfl
def z6Q(m:Nat)(ls:List Ln):Prop:=∀l∈ls,ClsOk l.c∧∀h∈l.hs,ChOk m h
theorem z4Q(m:Nat)(ls:List Ln)(hl:ls.length≤1000)(hs:z6Q m ls):zC (glE m) 21 [scT ls] [] (.tuple [I (z54 ls).1,I (z54 ls).2]) []:=by
 refine za tf_161 ?_;obtain⟨R,hR⟩:∃R,z54 ls=R:=⟨_,rfl⟩
 rw[hR];unfold z54 at hR;by_cases h8:8<ls.length
 ·rw[if_pos h8]at hR;have d0:(8:Int)<(ls.length:Int):=by omega
  unfold scT;simp only[vW,seval,z0k,d0];rw[←hR]
 rw[if_neg h8]at hR;have d0:¬(8:Int)<(ls.length:Int):=by omega
 unfold scT;simp only[vW,seval,z0k,d0];refine zk (σ:={i:Nat // i≤ls.length∧z8L ls i (ls.drop i)=R}) (fun i=>⟨[(1,.ptr 1 0),(13,.pv (.sl 3 (z0s ls))),(14,I (ls.length:Int)),(15,I (i.1:Int))],[(1,[.pv (.sl 3 (z0s ls))])],[],[]⟩) (fun i=>ls.length-i.1) ⟨0,Nat.zero_le _,hR⟩ ?_ ?_
 ·exact lwA
 rintro⟨i,hi,hg⟩;by_cases hlt:i<ls.length
 ·have d1:(i:Int)<(ls.length:Int):=by omega
  obtain⟨x,ex⟩:∃x,ls[i]?=some x:=⟨_,gE hlt⟩
  have w1:=wS i;have HF:=z3K (glE m) ls x.c.n hl;have HR:=zki m x (hs x (gM ex)).1 (hs x (gM ex)).2;rw[zdy ls i ex]at hg;unfold zap at hg;unfold scT B at HF;unfold lnC B at HR;simp only[vW,seval,d1,z2G,ex,lnR];refine z8 HF ?_;by_cases hf:(z0y ls x.c.n).1<i
  ·have d2:((z0y ls x.c.n).1:Int)<(i:Int):=by omega
   simp only[vW,seval,d2,false_imp_iff,and_true,true_and,forall_const];simp only[hf,decide_true,Bool.true_or,if_true]at hg;rw[←hg]
  ·have d2:¬((z0y ls x.c.n).1:Int)<(i:Int):=by omega
   simp only[vW,seval,d2,false_imp_iff,and_true,true_and,forall_const];refine z8 HR ?_;cases hr:zY x
   ·simp only[vW,seval];simp only[hr,Bool.not_false,Bool.or_true,if_true]at hg;rw[←hg]
   ·simp only[vW,seval,w1];simp only[hf,hr,decide_false,Bool.not_true,Bool.or_false,Bool.false_eq_true,if_false]at hg;refine zc ⟨i+1,by omega,hg⟩ (by show ls.length-(i+1)<ls.length-i;omega) lwA
 ·have d1:¬(i:Int)<(ls.length:Int):=by omega
  rw[List.drop_eq_nil_of_le (by omega)]at hg;simp only[vW,seval,d1];rw[←hg];rfl
theorem zm8(g:Sh.Glob)(c n:Int)(hc:I64 c)(hn:0<n):zC g 7 [I c,I n] [] (I (Go.Mor.pick c n)) []:=by
 obtain⟨h0,h1⟩:=hc;refine za tf_122 ?_;have hne:¬n=0:=by omega
 unfold Go.Mor.pick;by_cases hneg:c<0
 ·rw[if_pos hneg];have w1:IntKind.i64.wrap (c+1)=c+1:=wrap64 (by omega) (by omega);have w2:IntKind.i64.wrap (0-(c+1))= -(c+1):=wG;have hm:(-(c+1)).tmod n=(-(c+1))%n:=Int.tmod_eq_emod_of_nonneg (by omega);simp only[vW,seval,hneg,hne,w1,w2,hm]
 ·rw[if_neg hneg];have hm:c.tmod n=c%n:=Int.tmod_eq_emod_of_nonneg (by omega);simp only[vW,seval,hneg,hne,hm]
end
theorem z3M(g:Sh.Glob)(c n:Int)(hc:I64 c)(hn:0<n):zC g 27 [I c,I n] [] (I (Go.Mor.pick c n)) []:=by
 obtain⟨h0,h1⟩:=hc;refine za tf_116 ?_;have hne:¬n=0:=by omega
 unfold Go.Mor.pick;by_cases hneg:c<0
 ·rw[if_pos hneg];have w1:IntKind.i64.wrap (c+1)=c+1:=wrap64 (by omega) (by omega);have w2:IntKind.i64.wrap (0-(c+1))= -(c+1):=wG;have hm:(-(c+1)).tmod n=(-(c+1))%n:=Int.tmod_eq_emod_of_nonneg (by omega);simp only[vW,seval,hneg,hne,w1,w2,hm]
 ·rw[if_neg hneg];have hm:c.tmod n=c%n:=Int.tmod_eq_emod_of_nonneg (by omega);simp only[vW,seval,hneg,hne,hm]
def z79(r:Option (zB)):TV:=match r with|some s=> .tuple [S (str s),B true]|none=> .tuple [S (str []),B false]
theorem z7Q(g:Sh.Glob)(c:Cls)(n:Int)(t:Ty)(hn:I64 n)(hl:c.fs.length≤1000):zC g 56 [clT c,I n,tyT t] [] (z79 (z3v c n t)) []:=by
 have PN:=z3M g n 100 hn (by decide);have hb:=z05 n 100 (by decide);obtain⟨j,hj⟩:=Int.eq_ofNat_of_zero_le hb.1;rw[hj]at PN;have e0:=bS [];obtain⟨R,hR⟩:∃R,z3v c n t=R:=⟨_,rfl⟩
 rw[hR];unfold z3v at hR;rw[hj,Int.toNat_natCast]at hR;obtain⟨tk,ot⟩:=t;refine za tf_115 ?_;unfold clT tyT;simp only[vW,seval,e0];refine zk (σ:={i:Nat // i≤c.fs.length∧z78 c.fs j ⟨tk,ot⟩ (c.fs.length-i) i=R}) (fun i=>⟨[(1,I n),(3,.ptr 3 0),(5,.ptr 5 0),(8,I (i.1:Int))],[(3,[S (str c.n),.pv (.sl 4 (flR c.fs))]),(5,[I tk,I ot])],[],[]⟩) (fun i=>c.fs.length-i.1) ⟨0,Nat.zero_le _,hR⟩ ?_ ?_
 ·exact lwA
 rintro⟨i,hi,hT⟩;by_cases hlt:i<c.fs.length
 ·have d1:(i:Int)<(c.fs.length:Int):=by omega
  have w0:IntKind.i64.wrap ((j:Int)+(i:Int))=((j+i:Nat):Int):=wG;have w1:=wS i;have m0:Int.tmod ((j+i:Nat):Int) (c.fs.length:Int)=(((j+i)%c.fs.length:Nat):Int):=(Int.ofNat_tmod _ _).symm;have z0:¬(c.fs.length:Int)=0:=by omega
  have hq:=Nat.mod_lt (j+i) (show 0<c.fs.length by omega);obtain⟨f,ef⟩:∃f,c.fs[(j+i)%c.fs.length]?=some f:=⟨_,gE hq⟩
  obtain⟨k,hk⟩:∃k,c.fs.length-i=k+1:=⟨c.fs.length-i-1,by omega⟩
  rw[hk,z78,List.getD_eq_getElem?_getD,ef]at hT;simp only[Option.getD_some]at hT;generalize(j+i)%c.fs.length=q at*;cases he:z0f f.t ⟨tk,ot⟩
  ·rw[he]at hT;simp only[Bool.false_eq_true,if_false]at hT;have he':z0f ⟨f.t.k,f.t.o⟩ ⟨tk,ot⟩=false:=he;simp only[vW,seval,d1,clV];refine z7 PN ?_;simp only[vW,seval,clV,w0,m0,z0,ef,z4K,he',w1];refine zc ⟨i+1,hlt,by rw[show c.fs.length-(i+1)=k by omega];exact hT⟩ (by show c.fs.length-(i+1)<c.fs.length-i;omega) ?_;exact lwA
  ·rw[he]at hT;simp only[if_true]at hT;subst hT;have he':z0f ⟨f.t.k,f.t.o⟩ ⟨tk,ot⟩=true:=he;unfold z79 B;simp only[vW,seval,d1,clV];refine z7 PN ?_;simp only[vW,seval,clV,w0,m0,z0,ef,z4K,he',w1]
 ·have d1:¬(i:Int)<(c.fs.length:Int):=by omega
  rw[show c.fs.length-i=0 by omega,z78]at hT;subst hT;unfold z79 B;simp only[vW,seval,d1,clV,e0]
theorem zlW{a:zB}(h:a∈numL):a.length≤9:=by
 have:numL.all (fun a=>decide (a.length≤9))=true:=by decide
 simpa using List.all_eq_true.1 this a h
theorem zmF{a:zB}(h:a∈txtL):a.length≤9:=by
 have:txtL.all (fun a=>decide (a.length≤9))=true:=by decide
 simpa using List.all_eq_true.1 this a h
theorem zdK(g:Sh.Glob)(n:Int)(t:Ty)(c:Cls)(hn:I64 n)(hl:c.fs.length≤1000)(hc:∀f∈c.fs,f.n∈nmL):zC g 28 [I n,tyT t,clT c] [] (S (str (z4L n t c))) []:=by
 have F1:=z7Q g c n ⟨1,0⟩ hn hl;have hn2:I64 (n.tdiv 2):=by
  obtain⟨h0,h1⟩:=hn;unfold I64;rcases Int.le_total 0 n with h|h
  ·rw[Int.tdiv_eq_ediv_of_nonneg h];omega
  ·have e:n= -(-n):=by omega
   rw[e,Int.neg_tdiv,Int.tdiv_eq_ediv_of_nonneg (by omega)];omega
 have F2:=z7Q g c (n.tdiv 2) ⟨2,0⟩ hn2 hl;have F3:=z7Q g c n t hn hl;have P8:=z3M g n 8 hn (by decide);have P3:=z3M g n 3 hn (by decide);have b8:=z05 n 8 (by decide);obtain⟨j,hj⟩:=Int.eq_ofNat_of_zero_le b8.1;have la:=zlW (za4 hc n);have lb:=zmF (zai hc n);have w2:IntKind.i64.wrap (n.tdiv 2)=n.tdiv 2:=wrap64 hn2.1 hn2.2;obtain⟨E,hE⟩:∃E,z4L n t c=E:=⟨_,rfl⟩
 rw[hE];unfold z4L at hE;rw[hj,Int.toNat_natCast]at hE;rw[hj]at P8;have hj8:j=0∨j=1∨j=2∨j=3∨j=4∨j=5∨j=6∨j=7:=by omega
 have q0:=bS [32,42,32,50,32,45,32,49];have q1:=bS [108,101,110,40];have q2:=bS [41];have q3:=bS [105,102,40];have q4:=bS [32,62,32,50,44,32];have q5:=bS [44,32,48,32,45,32];have q6:=bS [102,105,110,100,40,34,98,34,44,32];have q7:=bS [32,47,32];have q8:=bS [32,38,32,34,45,34,32,38,32];have q9:=bS [116,101,120,116,40];have q10:=bS [108,101,102,116,40];have q11:=bS [44,32,50,41];have q12:=bS [102,114,111,109,40];have q13:=bS [44,32,51,41];have q14:=bS [32,61,32,49,44,32];have q15:=bS [44,32,34,110,111,34,41];have q16:=bS [51];have q17:=bS [34,120,34];have q18:=bS [55];have q19:=bS [34,97,32,98,34];have q20:=bS [];obtain⟨tk,ot⟩:=t
 dsimp only at hE
 have hA:z8b c n=(z3v c n ⟨1,0⟩).getD [55]:=rfl;have hB:z8E c n=(z3v c (n.tdiv 2) ⟨2,0⟩).getD [34,97,32,98,34]:=rfl;generalize z8b c n=a at*;generalize z8E c n=b at*;refine z6W ze tf_114 rfl ?_;unfold clT tyT at*
 dsimp only at*
 generalize z3v c n ⟨1,0⟩=x at*;generalize z3v c (n.tdiv 2) ⟨2,0⟩=y at*;generalize z3v c n ⟨tk,ot⟩=z at*;have main:∀(sx sy:zB) (bx by_:Bool),z79 x=.tuple [S (str sx),.pv (.v (.bool bx))]→z79 y=.tuple [S (str sy),.pv (.v (.bool by_))]→a=(if bx then sx else [55])→b=(if by_ then sy else [34,97,32,98,34])→swp Tryz.prog g F_114.code (Post0 F_114.res (S (str E))) (startE [I n,.agg [I tk,I ot],.agg [S (str c.n),.pv (.sl 4 (flR c.fs))]] []):=by
  intro sx sy bx by_ hx hy ha hb;rw[hx]at F1;rw[hy]at F2;have zD:True:=trivial;cases bx<;>cases by_
  all_goals(
   simp only[if_true,Bool.false_eq_true,if_false]at ha hb;subst ha;subst hb;simp only[vW,seval];refine z7 F1 ?_;simp only[vW,seval,w2];refine z7 F2 ?_;by_cases t1:tk=1
   ·rw[if_pos t1]at hE;simp only[vW,seval,t1,q0,q1,q2,q3,q4,q5,q6,q7,q8,q9,q10,q11,q12,q13,q14,q15,q16,q17,q18,q19,q20];repeat(with_reducible refine And.intro (by omega) ?_)
    refine z7 P8 ?_;rcases hj8 with rfl|rfl|rfl|rfl|rfl|rfl|rfl|rfl
    all_goals(
     simp only[vW,seval];subst hE;first|rfl|simp[zeh])
   rw[if_neg t1]at hE;by_cases t2:tk=2
   ·rw[if_pos t2]at hE;simp only[vW,seval,t1,t2,q0,q1,q2,q3,q4,q5,q6,q7,q8,q9,q10,q11,q12,q13,q14,q15,q16,q17,q18,q19,q20];repeat(with_reducible refine And.intro (by omega) ?_)
    refine z7 P8 ?_;rcases hj8 with rfl|rfl|rfl|rfl|rfl|rfl|rfl|rfl
    all_goals(
     simp only[vW,seval];subst hE;first|rfl|simp[zf3])
   rw[if_neg t2]at hE;simp only[vW,seval,t1,t2,q0,q1,q2,q3,q4,q5,q6,q7,q8,q9,q10,q11,q12,q13,q14,q15,q16,q17,q18,q19,q20];cases z with
   |none=>
    unfold z79 B at F3
    dsimp only at F3 hE
    subst hE;refine z7 F3 ?_;simp only[vW,seval,q0,q1,q2,q3,q4,q5,q6,q7,q8,q9,q10,q11,q12,q13,q14,q15,q16,q17,q18,q19,q20]
   |some s=>
    unfold z79 B at F3
    dsimp only at F3 hE
    refine z8 F3 ?_;refine z7 P3 ?_;by_cases p0:0<Go.Mor.pick n 3
    ·rw[if_pos p0]at hE;subst hE;simp only[vW,seval,p0]
    ·rw[if_neg p0]at hE;subst hE;simp only[vW,seval,p0,q0,q1,q2,q3,q4,q5,q6,q7,q8,q9,q10,q11,q12,q13,q14,q15,q16,q17,q18,q19,q20])
 cases x with
 |none=>cases y with
  |none=>exact main [] [] false false rfl rfl hA hB
  |some s2=>exact main [] s2 false true rfl rfl hA hB
 |some s1=>cases y with
  |none=>exact main s1 [] true false rfl rfl hA hB
  |some s2=>exact main s1 s2 true true rfl rfl hA hB
theorem zdB{c:Cls}(h:zd c=true):ClsOk c∧c.fs.length≤8:=by
 have hr:=(z16 c).1 h;have key:∀s,zb s=true→z0D s:=fun s hs=>by
  unfold zb at hs;simp only[Bool.and_eq_true,decide_eq_true_eq]at hs;have:=hs.1.1.2;unfold z0D;omega
 refine⟨⟨key _ hr.1,fun f hf=>key _ ?_,by omega⟩,hr.2.1⟩;have:=hr.2.2.1 f hf;unfold zE at this;simp only[Bool.and_eq_true]at this;exact this.1.1
theorem zn9:I64 0:=⟨by decide,by decide⟩
theorem zjT{i:Nat}(h:i<6):([[PV.v (.string ⟨#[110,101,119,95,49]⟩)],[.v (.string ⟨#[109,111,114,101]⟩)],[.v (.string ⟨#[122,57]⟩)],[.v (.string ⟨#[97]⟩)],[.v (.string ⟨#[110,97,109,101]⟩)],[.v (.string ⟨#[107,105,100,115]⟩)]]:List (List PV))[i]?=some [.v (.string (str (nmH (i:Int))))]:=by
 have:i=0∨i=1∨i=2∨i=3∨i=4∨i=5:=by omega
 rcases this with rfl|rfl|rfl|rfl|rfl|rfl<;>rfl
theorem zeL{s:zB}(h:s=[]∨s∈exL):RTx s:=by
 rcases h with rfl|h
 ·exact⟨⟨(V.nil,0,50),by kernel_rfl⟩,fun h=>absurd rfl h⟩
 ·obtain⟨_,h2,r,hr,_⟩:=zgd h;exact⟨⟨r,hr⟩,(z9j 0 hr (by omega)).sm⟩
theorem zdx(g:Sh.Glob)(x:RawH)(c:Cls)(hx:RawHOk x)(hg:zd c=true)(hn:∀f∈c.fs,f.n∈nmL):zC g 8 [z5m x,clT c] [] (.tuple [chT (z2W x c),B (okV c (z2W x c))]) []:=by
 have hc6:=(zdB hg).2;have hcl:=(zdB hg).1;have hin:=z9O x hn;have sh:∀s:zB,s.length≤20→z0D s:=fun s h=>by unfold z0D;omega
 have HR:=z8o g c (z2W x c) hcl (sh _ hin.f) (sh _ hin.n) (sh _ hin.m) (zeL hin.x) (zeL hin.o);have HC:=z4J g ⟨0,[⟨0,x.t.k,x.t.o,false⟩]⟩ ⟨zn9,fun r hr=>by obtain rfl:=List.mem_singleton.1 hr;exact⟨zn9,hx.tk,hx.ot⟩,by simp⟩;have hcf:z0n ⟨0,[⟨0,x.t.k,x.t.o,false⟩]⟩=⟨nmC 0,[⟨nmF 0,tyH x.t,false⟩]⟩:=rfl;rw[hcf]at HC;have PK:=z3M g x.k 6 hx.k (by decide);have PN:=z3M g x.n 6 hx.n (by decide);have PM:=z3M g x.m 6 hx.m (by decide);have bk:=z05 x.k 6 (by decide);have bn:=z05 x.n 6 (by decide);have bm:=z05 x.m 6 (by decide);have E1:=zdK g x.x (tyH x.t) c hx.x (by omega) hn;have E2:=zdK g x.o (tyH x.t) c hx.o (by omega) hn;obtain⟨jn,hjn⟩:=Int.eq_ofNat_of_zero_le bn.1;obtain⟨jm,hjm⟩:=Int.eq_ofNat_of_zero_le bm.1;have en:=zjT (i:=jn) (by omega);have em:=zjT (i:=jm) (by omega);have e0:=bS [];obtain⟨h,hh⟩:∃h,z2W x c=h:=⟨_,rfl⟩
 rw[hh]at HR ⊢;unfold z2W at hh;rw[hjn,hjm]at hh;rw[hjn]at PN;rw[hjm]at PM;have wk:IntKind.i64.wrap (1+Go.Mor.pick x.k 6)=1+Go.Mor.pick x.k 6:=wrap64 (by omega) (by omega);clear hin
 dsimp only at hh
 generalize Go.Mor.pick x.k 6=k at*;generalize nmH (jn:Int)=nn at*;generalize nmH (jm:Int)=mm at*;generalize z4L x.x (tyH x.t) c=xx at*;generalize z4L x.o (tyH x.t) c=oo at*;generalize tyH x.t=t at*;obtain⟨tk,ot⟩:=t;generalize hfn:(if c.fs=[] then [] else(c.fs.getD (Go.Mor.pick x.f c.fs.length).toNat z4a).n)=fn at hh;generalize hR:okV c h=R at*;have hk:k=0∨k=1∨k=2∨k=3∨k=4∨k=5:=by omega
 refine za tf_113 ?_;unfold z5m clT tyT B z5K at*;simp only[vW,seval];refine z7 HC ?_;simp only[vW,seval,clV];refine z7 PK ?_;simp only[vW,seval,wk];refine z7 PN ?_;simp only[vW,seval,en];refine z7 PM ?_;simp only[vW,seval,em];refine z8 E1 ?_;refine z7 E2 ?_;have hfs:(c.fs=[]∧fn=[]∧¬(0:Int)<(c.fs.length:Int))∨(∃(j:Nat) (y:Fld),(0:Int)<(c.fs.length:Int)∧zC g 27 [I x.f,I (c.fs.length:Int)] [] (I (j:Int)) []∧c.fs[j]?=some y∧fn=y.n):=by
  by_cases h0:c.fs=[]
  ·rw[if_pos h0]at hfn;exact .inl ⟨h0,hfn.symm,by rw[h0];decide⟩
  ·have hlp:0<c.fs.length:=List.length_pos_iff.2 h0;have d0:(0:Int)<(c.fs.length:Int):=by omega
   have PF:=z3M g x.f (c.fs.length:Int) hx.f d0;have bf:=z05 x.f (c.fs.length:Int) d0;obtain⟨j,hj⟩:=Int.eq_ofNat_of_zero_le bf.1;rw[hj]at PF;obtain⟨y,ey⟩:∃y,c.fs[j]?=some y:=⟨_,gE (by omega)⟩
   rw[if_neg h0,hj,Int.toNat_natCast,Go.Mor.getD_of ey]at hfn;exact .inr ⟨j,y,d0,PF,ey,hfn.symm⟩
 clear hfn;rcases hk with rfl|rfl|rfl|rfl|rfl|rfl
 ·obtain rfl:h=⟨1,[],nn,[],⟨tk,ot⟩,xx,[]⟩:=by rw[←hh];rfl
  clear hh;rcases hfs with⟨h0,rfl,d0⟩|⟨j,y,d0,PF,ey,rfl⟩
  ·unfold chT at*;try unfold ty0 at*
   simp only[vW,seval,d0,e0,clV];refine z8 HR ?_;try trivial
  ·unfold chT at*;try unfold ty0 at*
   simp only[vW,seval,d0,clV];refine z7 PF ?_;simp only[vW,seval,clV,ey,e0];refine z8 HR ?_;try trivial
 ·obtain rfl:h=⟨2,fn,[],[],ty0,[],[]⟩:=by rw[←hh];rfl
  clear hh;rcases hfs with⟨h0,rfl,d0⟩|⟨j,y,d0,PF,ey,rfl⟩
  ·unfold chT at*;try unfold ty0 at*
   simp only[vW,seval,d0,e0,clV];refine z8 HR ?_;try trivial
  ·unfold chT at*;try unfold ty0 at*
   simp only[vW,seval,d0,clV];refine z7 PF ?_;simp only[vW,seval,clV,ey,e0];refine z8 HR ?_;try trivial
 ·obtain rfl:h=⟨3,fn,nn,[],ty0,[],[]⟩:=by rw[←hh];rfl
  clear hh;rcases hfs with⟨h0,rfl,d0⟩|⟨j,y,d0,PF,ey,rfl⟩
  ·unfold chT at*;try unfold ty0 at*
   simp only[vW,seval,d0,e0,clV];refine z8 HR ?_;try trivial
  ·unfold chT at*;try unfold ty0 at*
   simp only[vW,seval,d0,clV];refine z7 PF ?_;simp only[vW,seval,clV,ey,e0];refine z8 HR ?_;try trivial
 ·obtain rfl:h=⟨4,fn,[],[],⟨tk,ot⟩,xx,[]⟩:=by rw[←hh];rfl
  clear hh;rcases hfs with⟨h0,rfl,d0⟩|⟨j,y,d0,PF,ey,rfl⟩
  ·unfold chT at*;try unfold ty0 at*
   simp only[vW,seval,d0,e0,clV];refine z8 HR ?_;try trivial
  ·unfold chT at*;try unfold ty0 at*
   simp only[vW,seval,d0,clV];refine z7 PF ?_;simp only[vW,seval,clV,ey,e0];refine z8 HR ?_;try trivial
 ·obtain rfl:h=⟨5,fn,nn,mm,⟨tk,ot⟩,xx,oo⟩:=by rw[←hh];rfl
  clear hh;rcases hfs with⟨h0,rfl,d0⟩|⟨j,y,d0,PF,ey,rfl⟩
  ·unfold chT at*;try unfold ty0 at*
   simp only[vW,seval,d0,e0,clV];refine z8 HR ?_;try trivial
  ·unfold chT at*;try unfold ty0 at*
   simp only[vW,seval,d0,clV];refine z7 PF ?_;simp only[vW,seval,clV,ey,e0];refine z8 HR ?_;try trivial
 ·obtain rfl:h=⟨6,fn,[],[],ty0,[],[]⟩:=by rw[←hh];rfl
  clear hh;rcases hfs with⟨h0,rfl,d0⟩|⟨j,y,d0,PF,ey,rfl⟩
  ·unfold chT at*;try unfold ty0 at*
   simp only[vW,seval,d0,e0,clV];refine z8 HR ?_;try trivial
  ·unfold chT at*;try unfold ty0 at*
   simp only[vW,seval,d0,clV];refine z7 PF ?_;simp only[vW,seval,clV,ey,e0];refine z8 HR ?_;try trivial
section
open Go.Sh.Cd10
theorem zkf{s:zB}(h:zdk s):RTx s:=by
 rcases h with rfl|⟨h2,r,hr⟩
 ·exact zeL (.inl rfl)
 ·exact⟨⟨r,hr⟩,(z9j 0 hr (by omega)).sm⟩
theorem zoi(g:Sh.Glob){c:Cls}{h:Chg}(ho:okV c h=true)(hi:ChRd h):zC g 30 [clT c,chT h] [] (.tuple [clT ⟨c.n,z0q c h⟩,I 0]) []:=by
 have sh:∀s:zB,s.length≤20→z0D s:=fun s h=>by unfold z0D;omega
 have hk:1≤h.k∧h.k≤6:=by
  unfold okV z0c z0A at ho;simp only[Bool.and_eq_true]at ho
  grind
 exact zfF g c h ho hk (sh _ hi.f) (sh _ hi.n) (sh _ hi.m) (zkf hi.x) (zkf hi.o)
theorem zco(g:Sh.Glob)(l:Ln)(hg:GoodL l):zC g 9 [.agg (lnC l)] [] (clT (z0H l)) []:=by
 refine za tf_118 ?_;have h12:l.hs.length≤12:=by
  have:=hg.r;unfold zY at this;simp only[Bool.and_eq_true]at this;exact Nat.le_of_ble_eq_true this.1
 have hz:=z2j l;unfold lnC;simp only[vW,seval];refine zk (σ:={x:Nat×Cls // x.1≤l.hs.length∧zn l x.1=(x.2,0)}) (fun x=>⟨[(1,.ptr 1 0),(2,.ptr 2 0),(3,.ptr 3 0),(4,I (x.1.1:Int))],[(1,[S (str l.c.n),.pv (.sl 4 (flR l.c.fs)),.pv (.sl 8 (z0P l.hs))]),(2,[S ⟨#[]⟩,.pv (.v (.slice none 0 0))]),(3,[S (str x.1.2.n),.pv (.sl 4 (flR x.1.2.fs))])],[],[]⟩) (fun x=>l.hs.length-x.1.1) ⟨(0,l.c),Nat.zero_le _,by
  have:=z0h hg.r (Nat.zero_le _);rw[hz]at this ⊢;unfold z2s at*;exact Prod.ext rfl this⟩ ?_ ?_
 ·exact lwA
 rintro⟨⟨i,c⟩,hi,hv⟩;have hi:i≤l.hs.length:=hi;have hv:zn l i=(c,0):=hv;by_cases hlt:i<l.hs.length
 ·have d1:(i:Int)<(l.hs.length:Int):=by omega
  obtain⟨h,ex⟩:∃h,l.hs[i]?=some h:=⟨_,gE hlt⟩
  have hn:=z3b ex;rw[hv,z3P h rfl]at hn;have h0:=z0h hg.r (k:=i+1) (by omega);rw[hn]at h0;have ho:=(z3x h0).2.1;have HA:=zoi g ho (hg.h h (gM ex));have hn2:zn l (i+1)=(⟨c.n,z0q c h⟩,0):=by
   rw[hn];unfold z03;rw[(z3x h0).1,ho];rfl
  have w1:=wS i;unfold clT chT at HA;simp only[vW,seval,d1,z0z,z4I,ex,chR];refine z8 HA ?_;simp only[vW,seval,w1];exact zc ⟨(i+1,⟨c.n,z0q c h⟩),hlt,hn2⟩ (by show l.hs.length-(i+1)<l.hs.length-i;omega) lwA
 ·have d1:¬(i:Int)<(l.hs.length:Int):=by omega
  obtain rfl:i=l.hs.length:=by omega
  have e:z0H l=c:=by unfold z0H;rw[hv]
  rw[e];unfold clT;simp only[vW,seval,d1,z0z]
def zi7(x:RawH):List PV:=[.v (.int .i64 x.k),.v (.int .i64 x.f),.v (.int .i64 x.n),.v (.int .i64 x.m),.v (.int .i64 x.t.k),.v (.int .i64 x.t.o),.v (.int .i64 x.x),.v (.int .i64 x.o)]
def rhR(l:List RawH):List (List PV):=l.map zi7
def rlC(x:RawL):List TV:=[I x.c.n,.pv (.sl 4 (rfR x.c.fs)),.pv (.sl 8 (rhR x.hs))]
structure RawLOk(x:RawL):Prop where
 c:RawOk x.c
 h:∀r∈x.hs,RawHOk r
 len:x.hs.length≤9223372036854775807
theorem zqw(l:List RawH)(k:Nat):(rhR l)[k]?=(l[k]?).map zi7:=by unfold rhR;rw[List.getElem?_map]
theorem zi6(l:List RawH):(rhR l).length=l.length:=by unfold rhR;rw[List.length_map]
theorem ziD(x:RawL){i:Nat}{r:RawH}(h:x.hs[i]?=some r):(x.hs.take (i+1)).foldl z30 ⟨z0n x.c,[]⟩=z30 ((x.hs.take i).foldl z30 ⟨z0n x.c,[]⟩) r:=by
 rw[List.take_add_one,h];simp only[Option.toList_some,List.foldl_append,List.foldl_cons,List.foldl_nil]
theorem ziO(l:List Chg)(h:Chg):z0P (l++[h])=z0P l++[chR h]:=by unfold z0P;rw[List.map_append];rfl
theorem zjG(g:Sh.Glob)(x:RawL)(hx:RawLOk x):zC g 25 [.agg (rlC x)] [] (.agg (lnC (z2w x))) []:=by
 have HC:=z4J g x.c hx.c;have hlen:=hx.len;refine z2a tf_117 ?_;unfold rlC z5K clT at*;simp only[vW,seval];refine z8 HC ?_;refine zk (σ:={x':Nat×Ln // x'.1≤x.hs.length∧x'.1≤5∧x'.2=(x.hs.take x'.1).foldl z30 ⟨z0n x.c,[]⟩}) (fun x'=>⟨[(1,.ptr 1 0),(2,.ptr 2 0),(3,.ptr 3 0),(4,I (x'.1.1:Int))],[(1,[I x.c.n,.pv (.sl 4 (rfR x.c.fs)),.pv (.sl 8 (rhR x.hs))]),(2,[S ⟨#[]⟩,.pv (.v (.slice none 0 0)),.pv (.v (.slice none 0 0))]),(3,[S (str x'.1.2.c.n),.pv (.sl 4 (flR x'.1.2.c.fs)),.own 3000 8 (z0P x'.1.2.hs)])],[(3000,(37,8,x'.1.2.hs.length))],[]⟩) (fun x'=>5-x'.1.1) ⟨(0,⟨z0n x.c,[]⟩),Nat.zero_le _,Nat.zero_le _,rfl⟩ ?_ ?_
 ·refine ES.Lw.trans ?_ (z5y (x:=3) (j:=2) (d:=3000) (e:=37) (W:=8) (.inr (by decide)) (by decide) rfl (by simp only[vcA,seval]) rfl);exact z18 rfl
 rintro⟨⟨i,l⟩,hi,hi5,hl⟩;have hi:i≤x.hs.length:=hi;have hi5:i≤5:=hi5;have hl:l=(x.hs.take i).foldl z30 ⟨z0n x.c,[]⟩:=hl;have htl:=List.length_take_le i x.hs;obtain⟨hg,hgl,_⟩:=z7X (x.hs.take i) ⟨z0n x.c,[]⟩ (z9W x.c) (by simp;omega);rw[←hl]at hg hgl;simp only[List.length_nil,Nat.zero_add]at hgl;by_cases hlt:i<x.hs.length∧i<5
 ·obtain⟨hlt,hl5⟩:=hlt;have d1:(i:Int)<(x.hs.length:Int):=by omega
  have d2:(i:Int)<5:=by omega
  obtain⟨r,er⟩:∃r,x.hs[i]?=some r:=⟨_,gE hlt⟩
  have w1:=wS i;have HN:=zco g l hg;have hrc:zd (z0H l)=true:=z17 (z0h hg.r (Nat.le_refl _));have HG:=zdx g r (z0H l) (hx.h r (gM er)) hrc hg.n;have hst:=ziD x er;rw[←hl]at hst;unfold z30 at hst;generalize z2W r (z0H l)=h at*;generalize z0H l=c at*;unfold lnC clT at HN;unfold z5m clT chT B at HG;simp only[vW,seval,d1,d2,zi6,zqw,er,zi7];refine z7 HN ?_;refine z8 HG ?_;cases ho:okV c h
  ·rw[ho]at hst;simp only[Bool.false_eq_true,if_false]at hst;simp only[vW,seval,w1];exact zc ⟨(i+1,l),hlt,hl5,hst.symm⟩ (by show 5-(i+1)<5-i;omega) lwA
  ·rw[ho]at hst;simp only[if_true]at hst;simp only[vW,seval,w1,z0z];refine⟨⟨by omega,by unfold maxLen;omega⟩,zc ⟨(i+1,⟨l.c,l.hs++[h]⟩),hlt,hl5,hst.symm⟩ (by show 5-(i+1)<5-i;omega) ?_⟩;simp only[ziO,List.length_append,List.length_cons,List.length_nil,chR];exact lwA
 ·have he:(x.hs.take 5).foldl z30 ⟨z0n x.c,[]⟩=l:=by
   rw[hl];by_cases h5:i=5
   ·rw[h5]
   ·rw[List.take_of_length_le (by omega),List.take_of_length_le (by omega)]
  unfold z2w;rw[he];unfold lnC;by_cases h5:i=5
  ·have d2:¬(i:Int)<5:=by omega
   simp only[vW,seval,d2,zi6];exact⟨fun _=>trivial,fun _=>trivial⟩
  ·have d1:¬(i:Int)<(x.hs.length:Int):=by omega
   simp only[vW,seval,d1,zi6]
end
section
open Go.Sh.Cd10
def zee(e:Int):TV:=.tuple [.agg [S ⟨#[]⟩,zr,zr],I e]
theorem zlP(m:Nat)(ls:List Ln)(hl:ls.length≤1000)(hs:z6Q m ls)(n:Int)(he:(z54 ls).2=0)(hn:n<0∨(ls.length:Int)≤n):zC (glE m) 31 [scT ls,I n] [] (zee 2) []:=by
 have HC:=z4Q m ls hl hs;rw[he]at HC;refine za tf_169 ?_;unfold scT zee zr at*;simp only[vW,seval];refine z8 HC ?_;by_cases h0:n<0
 ·simp only[vW,seval,h0,z0k,false_imp_iff,and_true,true_and,forall_const]
 ·have h1:(ls.length:Int)≤n:=by omega
  simp only[vW,seval,h0,h1,z0k,false_imp_iff,and_true,true_and,forall_const]
theorem z6G(m:Nat)(ls:List Ln)(hl:ls.length≤1000)(hs:z6Q m ls)(he:(z54 ls).2=0){k:Nat}{l:Ln}(hk:ls[k]?=some l):zC (glE m) 31 [scT ls,I (k:Int)] [] (.tuple [.agg (lnC l),I 0]) []:=by
 have HC:=z4Q m ls hl hs;rw[he]at HC;have hkl:=(gJ hk).1;have h0:¬(k:Int)<0:=by omega
 have h1:¬(ls.length:Int)≤(k:Int):=by omega
 have h2:(k:Int)<(ls.length:Int):=by omega
 refine za tf_169 ?_;unfold scT lnC at*;simp only[vW,seval];refine z8 HC ?_;simp only[vW,seval,h0,h1,h2,z0k,z2G,hk,lnR,false_imp_iff,and_true,true_and,forall_const];refine⟨hkl,fun b hb=> ?_⟩;obtain rfl:=Option.some.inj hb;refine⟨Nat.le_refl 3,rfl,?_⟩;simp only[vW,seval,List.take_succ_cons,List.take_zero,List.drop_succ_cons,List.drop_zero]
section
variable{m:Nat}{ls:List Ln}{n:Int}{e:Int}
theorem zlM(he:e≠0)(HL:zC (glE m) 31 [scT ls,I n] [] (zee e) []):zC (glE m) 11 [scT ls,I n] [] (.tuple [I 0,I e]) []:=by
 refine za tf_163 ?_;unfold scT zee zr at*;simp only[vW,seval];refine z8 HL ?_;simp only[vW,seval,he];exact fun h=>h.elim
end
section
variable{m:Nat}{ls:List Ln}{k:Nat}{l:Ln}
theorem zgi(HL:zC (glE m) 31 [scT ls,I (k:Int)] [] (.tuple [.agg (lnC l),I 0]) []):zC (glE m) 11 [scT ls,I (k:Int)] [] (.tuple [I (l.hs.length:Int),I 0]) []:=by
 refine za tf_163 ?_;unfold scT lnC at*;simp only[vW,seval];refine z8 HL ?_;simp only[vW,seval,z0z]
theorem zoM(HL:zC (glE m) 31 [scT ls,I (k:Int)] [] (.tuple [.agg (lnC l),I 0]) [])(v:Int)(hv:v<0∨(l.hs.length:Int)<v):zC (glE m) 15 [scT ls,I (k:Int),I v] [] (.tuple [.agg [S ⟨#[]⟩,zr],I 81]) []:=by
 refine za tf_159 ?_;unfold scT lnC zr at*;simp only[vW,seval];refine z8 HL ?_;by_cases h0:v<0
 ·simp only[vW,seval,h0,z0z,false_imp_iff,and_true,true_and,forall_const]
 ·have h1:(l.hs.length:Int)<v:=by omega
  simp only[vW,seval,h0,h1,z0z,false_imp_iff,and_true,true_and,forall_const]
theorem zh1(hl:LnOk m l)(HL:zC (glE m) 31 [scT ls,I (k:Int)] [] (.tuple [.agg (lnC l),I 0]) []){v:Nat}(hv:v≤l.hs.length):zC (glE m) 15 [scT ls,I (k:Int),I (v:Int)] [] (.tuple [clT (zn l v).1,I 0]) []:=by
 have HM:=z92 m l hl v hv;have HF:=z2P (glE m) (zn l v).1 (by have:=(z1h (z17 (z0h hl.r hv))).2;omega);have h0:¬(v:Int)<0:=by omega
 have h1:¬(l.hs.length:Int)<(v:Int):=by omega
 refine za tf_159 ?_;unfold scT lnC clT at*;simp only[vW,seval];refine z8 HL ?_;simp only[vW,seval,h0,h1,z0z,false_imp_iff,and_true,true_and,forall_const];refine z7 HM ?_;refine z8 HF ?_;trivial
theorem ziM(HL:zC (glE m) 31 [scT ls,I (k:Int)] [] (.tuple [.agg (lnC l),I 0]) [])(v w:Int)(hv:v<0∨(l.hs.length:Int)<w∨w<v)(x:TV):zC (glE m) 23 [scT ls,I (k:Int),I v,I w,x] [] (.tuple [zr,I 81]) []:=by
 refine za tf_160 ?_;unfold scT lnC zr at*;simp only[vW,seval];refine z8 HL ?_;by_cases h0:v<0
 ·simp only[vW,seval,h0,z0z,false_imp_iff,and_true,true_and,forall_const]
 ·by_cases h1:(l.hs.length:Int)<w
  ·simp only[vW,seval,h0,h1,z0z,false_imp_iff,and_true,true_and,forall_const]
  ·have h2:w<v:=by omega
   simp only[vW,seval,h0,h1,h2,z0z,false_imp_iff,and_true,true_and,forall_const]
theorem zkS(hl:LnOk m l)(HL:zC (glE m) 31 [scT ls,I (k:Int)] [] (.tuple [.agg (lnC l),I 0]) []){fr tt:Nat}(hft:fr≤tt)(hto:tt≤l.hs.length)(vals:List V)(hf:FitC (zn l fr).1 vals):zC (glE m) 23 [scT ls,I (k:Int),I (fr:Int),I (tt:Int),.pv (.sl 4 (V.rows vals))] [] (.tuple [.pv (.sl 4 (V.rows (z7L l fr vals (tt-fr)))),I 0]) []:=by
 have HC:=zl9 m l hl fr tt hft hto vals hf;have h0:¬(fr:Int)<0:=by omega
 have h1:¬(l.hs.length:Int)<(tt:Int):=by omega
 have h2:¬(tt:Int)<(fr:Int):=by omega
 refine za tf_160 ?_;unfold scT lnC at*;simp only[vW,seval];refine z8 HL ?_;simp only[vW,seval,h0,h1,h2,z0z,false_imp_iff,and_true,true_and,forall_const];refine z8 HC ?_;trivial
end
end
section
open Go.Sh.Cd10
theorem zgv{s:ES}{x j d W:Nat}{cs:List TV}{es:List (List PV)}(hk:lk s.b x=some cs)(hj:cs[j]?=some (.own d W es)):(⟨s.t,sv s.b x (cs.set j (.pv (.sl W es))),s.r,s.i⟩:ES).Lw s:=by
 intro B a w E _ _ hS;refine⟨E,?_⟩;have:=hS.reB (k:=x) (cs:=cs) (ds:=cs.set j (.pv (.sl W es))) hk (fun i y hi=>by
  by_cases hij:j=i
  ·subst hij;have hl:j<cs.length:=(gJ hj).1;rw[List.getElem?_set_self hl]at hi;cases hi;exact⟨_,hj,fun v hv=>zcF (PWk.refl _) _ _ _ _ hv⟩
  ·rw[List.getElem?_set_ne hij]at hi;exact⟨y,hi,fun v hv=>hv⟩)
 have he:(⟨s.t,sv s.b x (cs.set j (.pv (.sl W es))),s.r,s.i⟩:ES).fs=FS.setB s.fs x (cs.set j (.pv (.sl W es))):=by
  simp only[ES.fs,FS.setB,z1r]
 rw[he];exact this
theorem zj7(g:Sh.Glob)(f:Nat):zC g 63 [.pv (.sl 3 []),.pv (.v (.func (.func f) #[] #[]))] [] zr []:=by
 refine za tf_105 ?_;unfold zr;simp only[vW,seval]
theorem zj4(g:Sh.Glob)(f:Nat):zC g 92 [.pv (.sl 8 []),.pv (.v (.func (.func f) #[] #[]))] [] zr []:=by
 refine za tf_103 ?_;unfold zr;simp only[vW,seval]
theorem zil(g:Sh.Glob):zC g 34 [scT []] [] (.agg [zr]) []:=by
 have HE:=zj7 g 64;refine za tf_100 ?_;unfold scT zr at*;simp only[vW,seval];refine z8 HE ?_;trivial
def z6n(c:Cls):List PV:=[.v (.string (str c.n)),.sl 4 (flR c.fs),.v (.slice none 0 0)]
theorem zeA(es:List (List PV))(c:Cls):PWk (.sl 3 (es++[z6n c])) (.sl 3 (es++[lnR ⟨c,[]⟩])):=
 zmc rfl fun j a b ha hb=>by
  match j with
  |0=>cases ha;cases hb;exact PWk.refl _
  |1=>cases ha;cases hb;exact PWk.refl _
  |2=>cases ha;cases hb;exact zob 8
  |j+3=>cases ha
theorem znq{e e':List (List PV)}{x:Int}(h:PWk (.sl 3 e) (.sl 3 e')):Wk (.tuple [.agg [.pv (.sl 3 e)],I x]) (.tuple [.agg [.pv (.sl 3 e')],I x]):=
 z5U (z5T rfl fun j a b ha hb=>by
  match j with
  |0=>cases ha;cases hb;exact ziB h
  |j+1=>cases ha) (ziB (PWk.refl _))
theorem znv(m:Nat)(c:Cls)(hc:zd c=true):zC (glE m) 13 [scT [],clT c] [] (.tuple [scT [⟨c,[]⟩],I 0]) []:=by
 have hk:=z1h hc;have HC:zC (glE m) 21 [scT []] [] (.tuple [I 0,I 0]) []:=z4Q m [] (by simp) (fun l hl=>by cases hl);have HR:=z0t (glE m) c hk.1;have HN:zC (glE m) 14 [scT [],S (str c.n)] [] (.tuple [I 0,B false]) []:=z3K (glE m) [] c.n (by simp);have HS:=zil (glE m);have HF:=z2P (glE m) c (by omega);rw[hc]at HR;refine SCalls.out (y:=.tuple [.agg [.pv (.sl 3 [z6n c])],I 0]) ?_ (znq (zeA [] c));refine z2a tf_158 ?_;unfold scT clT B zr at*;simp only[vW,seval];refine z8 HC ?_;refine z8 HR ?_;refine z8 HN ?_;simp only[vW,seval,z0k,List.length_nil,Int.natCast_zero,false_imp_iff,true_and];refine z8 HS ?_;right;refine z8 HF ?_;exact⟨by decide,rfl⟩
theorem zj5(g:Sh.Glob)(f:Nat)(es rs:List (List PV))(hW:∀cs∈es,cs.length=3)(hR:∀cs∈rs,cs.length=3)(he:es.length=rs.length)(h0:es≠[])(hl:es.length≤1000)(H:∀(i:Nat) r r',es[i]?=some r→rs[i]?=some r'→zC g f [.agg (pvC r)] [] (.agg (pvC r')) []):
  zC g 63 [.pv (.sl 3 es),.pv (.v (.func (.func f) #[] #[]))] [] (.bs 1000 0 es.length 0) [.box (pvC rs.flatten)]:=by
 refine zj tf_105 ?_;have d0:¬(es.length:Int)=0:=by have:=List.length_pos_iff.2 h0;omega
 have z0:=z5Z (es:=rs) (zs:=[.string ⟨#[]⟩,.slice none 0 0,.slice none 0 0]) rfl;simp only[List.map_cons,List.map_nil]at z0;generalize hz:[PV.v (Value.string ⟨#[]⟩),PV.v (Value.slice none 0 0),PV.v (Value.slice none 0 0)]=z at z0;have hzl:z.length=3:=by rw[←hz];rfl
 rw[←he]at z0;simp only[vW,seval,d0,z0];refine⟨⟨by omega,by unfold maxLen;omega⟩,?_⟩;refine zk (σ:={i:Nat // i≤es.length}) (fun i=>⟨[(1,.pv (.v (.func (.func f) #[] #[]))),(5,.bs 13 0 es.length 0),(14,.pv (.sl 3 es)),(15,I (es.length:Int)),(16,I (i.1:Int))],[(13,pvC (z1q rs z i.1).flatten)],[],[]⟩) (fun i=>es.length-i.1) ⟨0,Nat.zero_le _⟩ ?_ ?_
 ·exact lwA
 rintro⟨i,hi⟩;by_cases hlt:i<es.length
 ·have d1:(i:Int)<(es.length:Int):=by omega
  obtain⟨cs,ex⟩:∃x,es[i]?=some x:=⟨_,gE hlt⟩
  obtain⟨cs',ex'⟩:∃x,rs[i]?=some x:=⟨_,gE (by omega)⟩
  have HC:=H i cs cs' ex ex';have hp:=fun t ht=>z72 hR hzl ex' (t:=t) ht;have hfl:(z1q rs z i).flatten.length=es.length*3:=by rw[z2g (z5D hR hzl),z5C (by omega),he]
  obtain⟨a,b,c,rfl⟩:=zlO (hW cs (gM ex));obtain⟨a',b',c',rfl⟩:=zlO (hR cs' (gM ex'));have hp:=hp _ rfl;have w1:=wS i;unfold pvC at HC;simp only[List.map_cons,List.map_nil]at hp HC;simp only[vW,seval,d1,ex];(with_reducible apply zw);exact kv;exact HC;rfl;exact kv;simp only[vW,seval,d1,hp,w1];refine⟨by omega,zc ⟨i+1,by omega⟩ (by show es.length-(i+1)<es.length-i;omega) lwA⟩
 ·have d1:¬(i:Int)<(es.length:Int):=by omega
  obtain rfl:i=es.length:=by omega
  simp only[vW,seval,d1];rw[he,z71]
theorem zcN(g:Sh.Glob)(c:Cls)(hl:c.fs.length≤1000):zC g 64 [.agg (pvC (lnR ⟨c,[]⟩))] [] (.agg (pvC (z6n c))) []:=by
 have HE:=zj4 g 93;have HC:=z2P g c hl;refine za tf_107 ?_;unfold clT at HC;unfold zr at HE;unfold lnR z6n pvC;simp only[vW,seval];refine z8 HC ?_;refine z8 HE ?_;trivial
theorem zim(g:Sh.Glob)(c:Cls)(hl:c.fs.length≤1000):zC g 34 [scT [⟨c,[]⟩]] [] (.agg [.bs 1000 0 1 0]) [.box (pvC (z6n c))]:=by
 have HE:=zj5 g 64 [lnR ⟨c,[]⟩] [z6n c] (by simp[lnR]) (by simp[z6n]) rfl (by simp) (by simp) (fun i r r' h h'=>by
  match i with
  |0=>cases h;cases h';exact zcN g c hl
  |i+1=>cases h)
 refine zj tf_100 ?_;unfold scT;simp only[vW,seval];refine z8 HE ?_;rfl
theorem zmC(m:Nat)(c:Cls)(h:Chg)(hc:zd c=true)(hh:ChOk m h)(ha:(z03 c h).2=0):zC (glE m) 10 [scT [⟨c,[]⟩],I 0,chT h] [] (.tuple [scT [⟨c,[h]⟩],I 0]) []:=by
 have hk:=z1h hc;have hlr:zY ⟨c,[]⟩=true:=by simp[zY,zn,z2s,hc]
 have hl0:LnOk m ⟨c,[]⟩:=⟨hlr,fun x hx=>by cases hx⟩
 have hR:RightS [⟨c,[]⟩]:=⟨by simp,fun l hl=>by simp at hl;subst hl;exact hlr,fun i j a b hi hj _=>by
  have h1:=(gJ hi).1;have h2:=(gJ hj).1;simp at h1 h2;omega⟩
 have HL:=z6G (l:=⟨c,[]⟩) m [⟨c,[]⟩] (by simp) (fun l hl=>by simp at hl;subst hl;exact⟨hk.1,fun x hx=>by cases hx⟩) (by rw[hR.check]) (k:=0) rfl;have HM:zC (glE m) 33 [.agg (lnC ⟨c,[]⟩),I 0] [] (clT c) []:=by
  have:=z92 m _ hl0 0 (Nat.zero_le _);rw[z2j]at this;exact this
 have HA:=z4p m c h hk.1 hh (by omega);rw[show z03 c h=((z03 c h).1,0) from by rw[←ha]]at HA;have HS:=zim (glE m) c (by omega);generalize(z03 c h).1=d at*;refine z1z ze tf_166 rfl ?_
 conv in SFunc.code _=>reduce
 unfold scT lnC z4P clT chT at*;refine zq ze ?_;simp only[vW,seval];refine zq ze ?_;simp only[vW,seval];refine z8 HL ?_;refine zq ze ?_;simp only[vW,seval];refine zq ze ?_;simp only[vW,seval,List.length_nil,z0z,Int.natCast_zero];refine zq ze ?_;simp only[vW,seval,List.length_nil,z0z,Int.natCast_zero];refine z7 HM ?_;simp only[vW,seval];refine z8 HA ?_;refine zq ze ?_;simp only[vW,seval];refine z8 HS ?_;refine zq ze ?_;simp only[vW,seval,z6n,pvC,List.map_cons,List.map_nil];refine⟨by decide,?_⟩;refine z1P (zgv (x:=2172) (j:=2) (d:=55) (W:=8) rfl rfl) ?_;refine z1P (zjn (x:=12) (j:=0) (d:=2172) (W:=3) (c:=0) (es:=[lnR ⟨c,[h]⟩]) rfl (by simp[lnR]) (by decide) rfl rfl) ?_;refine z1I ze ?_;simp only[vW,seval];rfl
end
end Go.Proofs.YtpmlapgbmgbilaaGreatDoor
end
