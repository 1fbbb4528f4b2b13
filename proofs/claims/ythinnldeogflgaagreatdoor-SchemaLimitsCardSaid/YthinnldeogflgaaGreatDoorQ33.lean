/- Merged texts: Zy5 Pk3 Zx0 Ya5 Ya6 Yp Yc2 Ya7 Ya8 WrapE WrapG Ln5 Lp1. No statement of the program is proved here. -/
import Derived.Test.YthinnldeogflgaaGreatDoorQ30
import Derived.Test.YthinnldeogflgaaGreatDoorQ32
set_option linter.unusedSimpArgs false
set_option linter.unusedVariables false
set_option maxRecDepth 100000
set_option maxHeartbeats 8000000
section
namespace Go.Proofs.YthinnldeogflgaaGreatDoor
open Go Go.RowKit Go.Mor Go.Sh Go.Sh.Cd1
theorem zfw{x:V}(h:z1G x=true):x=.mk 0 0 [] []∨(∃n, -1000000000000000≤n∧n≤1000000000000000∧x=.mk 1 n [] [])∨(∃s,zi s=true∧x=.mk 2 0 s [])∨(∃k n,(k=3∨k=4)∧z3P n=true∧x=.mk k n [] []):=by
 unfold z1G bare at h;have e:=V.eta x;by_cases h0:x.k=0
 ·rw[if_pos h0]at h;simp at h;obtain⟨⟨h1,h2⟩,h3⟩:=h;exact .inl (by rw[←e,h0,h1,h2,h3])
 rw[if_neg h0]at h;by_cases h0:x.k=1
 ·rw[if_pos h0]at h;simp at h;obtain⟨⟨⟨h1,h2⟩,h3⟩,h4⟩:=h;exact .inr (.inl ⟨x.n,h3,h4,by rw[←e,h0,h1,h2];rfl⟩)
 rw[if_neg h0]at h;by_cases h0:x.k=2
 ·rw[if_pos h0]at h;simp at h;obtain⟨⟨h1,h2⟩,h3⟩:=h;exact .inr (.inr (.inl ⟨x.s,h3,by rw[←e,h0,h1,h2];rfl⟩))
 rw[if_neg h0]at h;by_cases h0:x.k=3∨x.k=4
 ·rw[if_pos h0]at h;simp at h;obtain⟨⟨h1,h2⟩,h3⟩:=h;exact .inr (.inr (.inr ⟨x.k,x.n,h0,h3,by rw[←e,h1,h2];rfl⟩))
 ·rw[if_neg h0]at h;cases h
theorem zbj{s:zB}(h:zi s=true):s.length≤60:=by unfold zi at h;simp at h;exact h.1
theorem zdq{n:Int}(h:z3P n=true):(1≤n∧n≤100000)∨(-20≤n∧n≤ -1):=by unfold z3P at h;simpa using h
theorem z49{x:V}(h:z1G x=true):zl5 x∧x.k≠5∧x.l=[]:=by
 unfold zl5 I64;rcases zfw h with rfl|⟨n,h1,h2,rfl⟩|⟨s,h1,rfl⟩|⟨k,n,h1,h2,rfl⟩
 ·refine⟨⟨⟨?_,?_⟩,⟨?_,?_⟩,?_⟩,?_,rfl⟩<;>simp[V.k,V.n,V.s]
 ·refine⟨⟨⟨?_,?_⟩,⟨?_,?_⟩,?_⟩,?_,rfl⟩<;>simp[V.k,V.n,V.s]<;>omega
 ·have:=zbj h1;refine⟨⟨⟨?_,?_⟩,⟨?_,?_⟩,?_⟩,?_,rfl⟩<;>simp[V.k,V.n,V.s]<;>omega
 ·have:=zdq h2;refine⟨⟨⟨?_,?_⟩,⟨?_,?_⟩,?_⟩,?_,rfl⟩<;>simp[V.k,V.n,V.s]<;>omega
theorem z9z{x:V}(h:z0O x=true)(h5:x.k=5):x.n=0∧x.s=[]∧x.l.length≤12∧∀y∈x.l,y.k≠5∧z1G y=true:=by
 unfold z0O at h;rw[if_pos h5]at h;simp only[Bool.and_eq_true,beq_iff_eq,decide_eq_true_eq,Bool.not_eq_true',List.any_eq_false]at h;obtain⟨⟨⟨h1,h2⟩,h3⟩,h4⟩:=h;refine⟨h1,h2,h3,fun y hy=> ?_⟩;have:=h4 y hy;unfold z2M at this;simp at this;exact this
theorem z9B{x:V}(h:z0O x=true)(h5:x.k≠5):z1G x=true:=by unfold z0O at h;rwa [if_neg h5]at h
theorem zfy{x:V}(h:z0O x=true):VOk x∧VSmall x∧x.s.length≤60∧x.l.length≤12:=by
 have hm:maxLen=9223372036854775807:=rfl;by_cases h5:x.k=5
 ·obtain⟨h1,h2,h3,h4⟩:=z9z h h5;refine⟨⟨by unfold z1S;rw[h2];simp,fun y hy=> ?_⟩,?_,by rw[h2];simp,h3⟩
  ·have:=(z49 (h4 y hy).2).1.2.2;unfold z1S;omega
  ·obtain⟨k,n,s,l⟩:=x;simp only[Vl]at h3 h4;refine .mk (by omega) (fun y hy=> ?_);have:=(z49 (h4 y hy).2).2.2;obtain⟨k',n',s',l'⟩:=y;simp only[Vl]at this;subst this;exact .mk (by simp) (by simp)
 ·have h0:=z49 (z9B h h5);refine⟨⟨by have:=h0.1.2.2;unfold z1S;omega,by rw[h0.2.2];simp⟩,?_,h0.1.2.2,by rw[h0.2.2];simp⟩;obtain⟨k,n,s,l⟩:=x;have:=h0.2.2;simp only[Vl]at this;subst this;exact .mk (by simp) (by simp)
end Go.Proofs.YthinnldeogflgaaGreatDoor
end

section
namespace Go.Mor
open Go
structure Step(c:Cls)(vals:List V)(h:Chg)(d:Cls)(u:List V):Prop where
 ap:z09 c h=(d,0)
 va:z5o c h vals=(u,0)
 fit:FitC d u
end Go.Mor
end

section
namespace Go.Proofs.YthinnldeogflgaaGreatDoor
open Go Go.RowKit Go.Mor Go.Sh Go.Sh.Cd1 Go.Sh.Cd7
theorem zgr{x:V}(h:z0O x=true):VFew x∧VOk x:=by
 have hv:=zfy h;refine⟨?_,hv.1⟩;by_cases h5:x.k=5
 ·obtain⟨_,_,h3,h4⟩:=z9z h h5;obtain⟨k,n,s,l⟩:=x;simp only[Vl]at h3 h4;exact .mk (by omega) (fun y hy=>zc3 (z49 (h4 y hy).2).2.2)
 ·exact zc3 (z49 (z9B h h5)).2.2
theorem zdS{c:Cls}{vals:List V}(h:FitC c vals):∀v∈vals,VFew v∧VOk v:=fun v hv=>by
 obtain⟨i,hi⟩:=List.getElem?_of_mem hv;have hl:=h.len;have hlt:=(gJ hi).1;have:=h.fit i _ v (gE (show i<c.fs.length by omega)) hi;unfold zA at this;simp only[Bool.and_eq_true]at this;exact zgr this.1.1.1
section
open Go.Sh.Cd10
def z2j(l:Ln)(fr tt:Nat)(vals:List V)(i:Nat):List V:=z6B l fr vals (min i tt-fr)
theorem zgE{l:Ln}{fr tt:Nat}(h:fr≤tt)(vals:List V){i:Nat}(hi:i≤tt):(if fr≤i∧i<tt then z0Z (zo l i).1 (l.hs.getD i ch0) (z2j l fr tt vals i)else z2j l fr tt vals i)=z2j l fr tt vals (i+1):=by
 unfold z2j;by_cases h1:fr≤i∧i<tt
 ·rw[if_pos h1,show min (i+1) tt-fr=(min i tt-fr)+1 by omega];show _=z0Z _ _ _;rw[show fr+(min i tt-fr)=i by omega]
 ·rw[if_neg h1,show min (i+1) tt-fr=min i tt-fr by omega]
theorem ziv{l:Ln}(hr:zZ l=true){fr tt:Nat}{vals:List V}(hf:FitC (zo l fr).1 vals)(ht:tt≤l.hs.length)(hft:fr≤tt){i:Nat}(hi:i≤tt):FitC (zo l (if fr≤i then i else fr)).1 (z2j l fr tt vals i):=by
 unfold z2j;have:=zbR hr hf (min i tt-fr) (by omega);by_cases h:fr≤i
 ·rw[if_pos h];rwa [show fr+(min i tt-fr)=i by omega]at this
 ·rw[if_neg h];rwa [show fr+(min i tt-fr)=fr by omega]at this
theorem zaD{c:Cls}{vals:List V}(h:FitC c vals):vals.length≤1000:=by
 have:=(z1e h.r).2;rw[h.len];omega
theorem zce(m:Nat)(l:Ln)(hl:LnOk m l)(i fr tt:Nat)(hft:fr≤tt)(hto:tt≤l.hs.length)(hi:i≤tt)(vals:List V)(hf:FitC (zo l fr).1 vals){c:Cls}(hc:zo l i=(c,0)):
  zC (glE m) 80 [clT c,.ptr 1000 0,.ptr 1001 0,.ptr 1002 0,.ptr 1003 0,.ptr 1004 0,.ptr 1005 0] (osK l i fr tt (z2j l fr tt vals i) 0) (B (decide (i+1≤tt))) (osK l (i+1) fr tt (z2j l fr tt vals (i+1)) 0):=by
 have h0:=ziv hl.r hf hto hft hi;have:=zi7 m l hl i fr tt hft hto hi (z2j l fr tt vals i) (zdS h0) (zaD h0) (fun h=>by rwa [if_pos h]at h0);rw[zgE hft vals hi,hc]at this;exact this
theorem zi4(m:Nat)(l:Ln)(hl:LnOk m l)(fr tt:Nat)(hft:fr≤tt)(hto:tt≤l.hs.length)(vals:List V)(hf:FitC (zo l fr).1 vals):
  zC (glE m) 55 [.agg (lnC l),I (fr:Int),I (tt:Int),.pv (.sl 4 (V.rows vals))] [] (.tuple [.pv (.sl 4 (V.rows (z6B l fr vals (tt-fr)))),I 0]) []:=by
 refine z8 tf_121 ?_ (hc:=rfl);have HV:=z5D (glE m) l;have HC:=z06 (glE m) l.c (z1e hl.c).1;have HF:=zc9 (glE m) vals (zaD hf) (fun v hv=>(zdS hf v hv).1);have hz:=z1N l;rw[show z2n l=(l.c,0) by simp[z2n,hl.c]]at hz;have H0:=zce m l hl 0 fr tt hft hto (Nat.zero_le _) vals hf hz;have h12:=hl.len;rw[hl.c]at HC;have hh0:z2j l fr tt vals 0=vals:=by unfold z2j;rw[show min 0 tt-fr=0 by omega];rfl
 rw[hh0]at H0;have hhe:z2j l fr tt vals (tt+1)=z6B l fr vals (tt-fr):=by unfold z2j;rw[show min (tt+1) tt-fr=tt-fr by omega]
 unfold osK lnC B clT at*;simp only[vcY,seval];refine z1B HF ?_;refine z1B HV ?_;refine z9t (H:=z2S [(24,1)]) (Fp:=fpT []) (Kk:=z2T []) (lug:=[13]) tf_127 ?_;intro yv;refine z1B HC ?_;refine z5p ?_;(with_reducible apply zl);simp only[vcY,seval];rfl;exact H0;rfl;simp only[vcY,seval];rfl;simp only[vcY,seval];refine⟨fun h1=> ?_,fun h1=> ?_⟩
 ·refine z9P (σ:={x:Nat×Cls // x.1<tt∧zo l x.1=(x.2,0)}) (fun x=>yV yv l x.1.1 x.1.2 [(1001,[.fn (.func 80) [] [.ptr 1002 0,.ptr 1003 0,.ptr 1004 0,.ptr 1005 0,.ptr 1006 0,.ptr 1007 0]]),(1002,[I ((x.1.1+1:Nat):Int)]),(1003,[I (fr:Int)]),(1004,[.pv (.sl 4 (V.rows (z2j l fr tt vals (x.1.1+1))))]),(1005,[I 0]),(1006,[I (tt:Int)]),(1007,lnC l)]) (fun x=>l.hs.length-x.1.1) ⟨(0,l.c),by show 0<tt;omega,hz⟩ ?_ ?_
  ·unfold yV lnC;exact lwA
  rintro⟨⟨i,c⟩,hi,hv'⟩;have hi:i<tt:=hi;have hv':zo l i=(c,0):=hv';unfold yV lnC;obtain⟨h,ex⟩:∃h,l.hs[i]?=some h:=⟨_,gE (by omega)⟩
  obtain⟨n1,n2,n3⟩:=z8R hl ex;rw[hv']at n1 n2 n3;have HA:=z4D m c h n2 (hl.h h (gM ex)) (by have:c.fs.length≤8:=n3;omega);have n1:z09 c h=((zo l (i+1)).1,0):=n1;rw[n1]at HA;have hv1:zo l (i+1)=((zo l (i+1)).1,0):=by rw[←z0i hl.r (show i+1≤l.hs.length by omega)]
  have HS:=zce m l hl (i+1) fr tt hft hto (by omega) vals hf hv1;unfold osK lnC B clT at HS;unfold z4C clT chT at HA;have d2:(i:Int)<((z0I l.hs).length:Int):=by rw[z0u];omega
  have w2:=wS i;simp only[vcY,seval,d2,z4o,ex,chR];refine z1B HA ?_;refine z5p ?_;(with_reducible apply zl);simp only[vcY,seval];rfl;exact HS;rfl;simp only[vcY,seval];rfl;simp only[vcY,seval];refine⟨fun e=>zb ⟨(i+1,(zo l (i+1)).1),by show i+1<tt;omega,hv1⟩ (by show l.hs.length-(i+1)<l.hs.length-i;omega) ?_,fun e=> ?_⟩
  ·simp only[w2];exact lwA
  ·obtain rfl:tt=i+1:=by omega
   rw[hhe]
 ·obtain rfl:tt=0:=by omega
  rw[hhe]
def scT(ls:List Ln):TV:=.agg [.pv (.sl 3 (z0k ls))]
theorem z66(ls:List Ln)(k:Nat):(z0k ls)[k]?=(ls[k]?).map lnR:=by unfold z0k;rw[List.getElem?_map]
theorem z1k(ls:List Ln):(z0k ls).length=ls.length:=by unfold z0k;rw[List.length_map]
theorem z3I(g:Sh.Glob)(ls:List Ln)(n:zB)(hl:ls.length≤1000):zC g 15 [scT ls,S (str n)] [] (.tuple [I ((z0V ls n).1:Int),B (z0V ls n).2]) []:=by
 refine z8 tf_116 ?_;obtain⟨R,hR⟩:∃R,z0V ls n=R:=⟨_,rfl⟩
 rw[hR];unfold scT B;simp only[vW,seval,z1k];refine zz (σ:={i:Nat // i≤ls.length∧∀(j:Nat) x,j<i→ls[j]?=some x→(x.c.n==n)=false}) (fun i=>⟨[(1,S (str n)),(9,.pv (.sl 3 (z0k ls))),(10,I (ls.length:Int)),(11,I (i.1:Int))],[],[],[]⟩) (fun i=>ls.length-i.1) ⟨0,Nat.zero_le _,fun j x hj=>by omega⟩ ?_ ?_
 ·exact lwA
 rintro⟨i,hi,hno⟩;by_cases hlt:i<ls.length
 ·have d1:(i:Int)<(ls.length:Int):=by omega
  obtain⟨x,ex⟩:∃x,ls[i]?=some x:=⟨_,gE hlt⟩
  have w1:=wS i;cases hp:(x.c.n==n)
  ·have hp':¬x.c.n=n:=by simpa using hp
   simp only[vW,seval,d1,z66,ex,lnR,hp,hp',w1];refine zb ⟨i+1,by omega,fun j y hj hy=> ?_⟩ (by show ls.length-(i+1)<ls.length-i;omega) lwA;by_cases hji:j=i
   ·subst hji;rw[ex]at hy;cases hy;exact hp
   ·exact hno j y (by omega) hy
  ·have hp':x.c.n=n:=by simpa using hp
   simp only[vW,seval,d1,z66,ex,lnR,hp,hp',w1];rw[←hR,zdR ex hp hno]
 ·have d1:¬(i:Int)<(ls.length:Int):=by omega
  simp only[vW,seval,d1];rw[←hR,zgx (fun x hx=>by
   obtain⟨j,hj⟩:=List.getElem?_of_mem hx;exact hno j x (by have:=(gJ hj).1;omega) hj)]
  rfl
def z5q(m:Nat)(ls:List Ln):Prop:=∀l∈ls,ClsOk l.c∧∀h∈l.hs,ChOk m h
theorem z2o(m:Nat)(ls:List Ln)(hl:ls.length≤1000)(hs:z5q m ls):zC (glE m) 18 [scT ls] [] (.tuple [I (z3E ls).1,I (z3E ls).2]) []:=by
 refine z8 tf_115 ?_;obtain⟨R,hR⟩:∃R,z3E ls=R:=⟨_,rfl⟩
 rw[hR];unfold z3E at hR;by_cases h8:8<ls.length
 ·rw[if_pos h8]at hR;have d0:(8:Int)<(ls.length:Int):=by omega
  unfold scT;simp only[vW,seval,z1k,d0];rw[←hR]
 rw[if_neg h8]at hR;have d0:¬(8:Int)<(ls.length:Int):=by omega
 unfold scT;simp only[vW,seval,z1k,d0];refine zz (σ:={i:Nat // i≤ls.length∧z7p ls i (ls.drop i)=R}) (fun i=>⟨[(1,.ptr 1 0),(13,.pv (.sl 3 (z0k ls))),(14,I (ls.length:Int)),(15,I (i.1:Int))],[(1,[.pv (.sl 3 (z0k ls))])],[],[]⟩) (fun i=>ls.length-i.1) ⟨0,Nat.zero_le _,hR⟩ ?_ ?_
 ·exact lwA
 rintro⟨i,hi,hg⟩;by_cases hlt:i<ls.length
 ·have d1:(i:Int)<(ls.length:Int):=by omega
  obtain⟨x,ex⟩:∃x,ls[i]?=some x:=⟨_,gE hlt⟩
  have w1:=wS i;have HF:=z3I (glE m) ls x.c.n hl;have HR:=zhc m x (hs x (gM ex)).1 (hs x (gM ex)).2;rw[zbT ls i ex]at hg;unfold z8T at hg;unfold scT B at HF;unfold lnC B at HR;simp only[vW,seval,d1,z66,ex,lnR];refine z6 HF ?_;by_cases hf:(z0V ls x.c.n).1<i
  ·have d2:((z0V ls x.c.n).1:Int)<(i:Int):=by omega
   simp only[vW,seval,d2,false_imp_iff,and_true,true_and,forall_const];simp only[hf,decide_true,Bool.true_or,if_true]at hg;rw[←hg]
  ·have d2:¬((z0V ls x.c.n).1:Int)<(i:Int):=by omega
   simp only[vW,seval,d2,false_imp_iff,and_true,true_and,forall_const];refine z6 HR ?_;cases hr:zZ x
   ·simp only[vW,seval];simp only[hr,Bool.not_false,Bool.or_true,if_true]at hg;rw[←hg]
   ·simp only[vW,seval,w1];simp only[hf,hr,decide_false,Bool.not_true,Bool.or_false,Bool.false_eq_true,if_false]at hg;refine zb ⟨i+1,by omega,hg⟩ (by show ls.length-(i+1)<ls.length-i;omega) lwA
 ·have d1:¬(i:Int)<(ls.length:Int):=by omega
  rw[List.drop_eq_nil_of_le (by omega)]at hg;simp only[vW,seval,d1];rw[←hg];rfl
theorem zcz(g:Sh.Glob)(c n:Int)(hc:I64 c)(hn:0<n):zC g 8 [I c,I n] [] (I (Go.Mor.pick c n)) []:=by
 obtain⟨h0,h1⟩:=hc;refine z8 tf_107 ?_;have hne:¬n=0:=by omega
 unfold Go.Mor.pick;by_cases hneg:c<0
 ·rw[if_pos hneg];have w1:IntKind.i64.wrap (c+1)=c+1:=wrap64 (by omega) (by omega);have w2:IntKind.i64.wrap (0-(c+1))= -(c+1):=wG;have hm:(-(c+1)).tmod n=(-(c+1))%n:=Int.tmod_eq_emod_of_nonneg (by omega);simp only[vW,seval,hneg,hne,w1,w2,hm]
 ·rw[if_neg hneg];have hm:c.tmod n=c%n:=Int.tmod_eq_emod_of_nonneg (by omega);simp only[vW,seval,hneg,hne,hm]
structure RawLOk(x:RawL):Prop where
 c:RawOk x.c
 h:∀r∈x.hs,RawHOk r
 len:x.hs.length≤9223372036854775807
end
section
open Go.Sh.Cd10
def zcn(e:Int):TV:=.tuple [.agg [S ⟨#[]⟩,zH,zH],I e]
theorem ziG(m:Nat)(ls:List Ln)(hl:ls.length≤1000)(hs:z5q m ls)(n:Int)(he:(z3E ls).2=0)(hn:n<0∨(ls.length:Int)≤n):zC (glE m) 32 [scT ls,I n] [] (zcn 2) []:=by
 have HC:=z2o m ls hl hs;rw[he]at HC;refine z8 tf_123 ?_;unfold scT zcn zH at*;simp only[vW,seval];refine z6 HC ?_;by_cases h0:n<0
 ·simp only[vW,seval,h0,z1k,false_imp_iff,and_true,true_and,forall_const]
 ·have h1:(ls.length:Int)≤n:=by omega
  simp only[vW,seval,h0,h1,z1k,false_imp_iff,and_true,true_and,forall_const]
theorem z5K(m:Nat)(ls:List Ln)(hl:ls.length≤1000)(hs:z5q m ls)(he:(z3E ls).2=0){k:Nat}{l:Ln}(hk:ls[k]?=some l):zC (glE m) 32 [scT ls,I (k:Int)] [] (.tuple [.agg (lnC l),I 0]) []:=by
 have HC:=z2o m ls hl hs;rw[he]at HC;have hkl:=(gJ hk).1;have h0:¬(k:Int)<0:=by omega
 have h1:¬(ls.length:Int)≤(k:Int):=by omega
 have h2:(k:Int)<(ls.length:Int):=by omega
 refine z8 tf_123 ?_;unfold scT lnC at*;simp only[vW,seval];refine z6 HC ?_;simp only[vW,seval,h0,h1,h2,z1k,z66,hk,lnR,false_imp_iff,and_true,true_and,forall_const];refine⟨hkl,fun b hb=> ?_⟩;obtain rfl:=Option.some.inj hb;refine⟨Nat.le_refl 3,rfl,?_⟩;simp only[vW,seval,List.take_succ_cons,List.take_zero,List.drop_succ_cons,List.drop_zero]
section
variable{m:Nat}{ls:List Ln}{n:Int}{e:Int}
theorem ziD(he:e≠0)(HL:zC (glE m) 32 [scT ls,I n] [] (zcn e) []):zC (glE m) 12 [scT ls,I n] [] (.tuple [I 0,I e]) []:=by
 refine z8 tf_117 ?_;unfold scT zcn zH at*;simp only[vW,seval];refine z6 HL ?_;simp only[vW,seval,he];exact fun h=>h.elim
end
section
variable{m:Nat}{ls:List Ln}{k:Nat}{l:Ln}
theorem zdW(HL:zC (glE m) 32 [scT ls,I (k:Int)] [] (.tuple [.agg (lnC l),I 0]) []):zC (glE m) 12 [scT ls,I (k:Int)] [] (.tuple [I (l.hs.length:Int),I 0]) []:=by
 refine z8 tf_117 ?_;unfold scT lnC at*;simp only[vW,seval];refine z6 HL ?_;simp only[vW,seval,z0u]
theorem zla(HL:zC (glE m) 32 [scT ls,I (k:Int)] [] (.tuple [.agg (lnC l),I 0]) [])(v:Int)(hv:v<0∨(l.hs.length:Int)<v):zC (glE m) 16 [scT ls,I (k:Int),I v] [] (.tuple [.agg [S ⟨#[]⟩,zH],I 81]) []:=by
 refine z8 tf_113 ?_;unfold scT lnC zH at*;simp only[vW,seval];refine z6 HL ?_;by_cases h0:v<0
 ·simp only[vW,seval,h0,z0u,false_imp_iff,and_true,true_and,forall_const]
 ·have h1:(l.hs.length:Int)<v:=by omega
  simp only[vW,seval,h0,h1,z0u,false_imp_iff,and_true,true_and,forall_const]
theorem zjr(hl:LnOk m l)(HL:zC (glE m) 32 [scT ls,I (k:Int)] [] (.tuple [.agg (lnC l),I 0]) []){v:Nat}(hv:v≤l.hs.length):zC (glE m) 16 [scT ls,I (k:Int),I (v:Int)] [] (.tuple [clT (zo l v).1,I 0]) []:=by
 have HM:=za9 m l hl v hv;have HF:=z2d (glE m) (zo l v).1 (by have:=(z1e (z23 (z0i hl.r hv))).2;omega);have h0:¬(v:Int)<0:=by omega
 have h1:¬(l.hs.length:Int)<(v:Int):=by omega
 refine z8 tf_113 ?_;unfold scT lnC clT at*;simp only[vW,seval];refine z6 HL ?_;simp only[vW,seval,h0,h1,z0u,false_imp_iff,and_true,true_and,forall_const];refine z7 HM ?_;refine z6 HF ?_;trivial
theorem zg2(HL:zC (glE m) 32 [scT ls,I (k:Int)] [] (.tuple [.agg (lnC l),I 0]) [])(v w:Int)(hv:v<0∨(l.hs.length:Int)<w∨w<v)(x:TV):zC (glE m) 24 [scT ls,I (k:Int),I v,I w,x] [] (.tuple [zH,I 81]) []:=by
 refine z8 tf_114 ?_;unfold scT lnC zH at*;simp only[vW,seval];refine z6 HL ?_;by_cases h0:v<0
 ·simp only[vW,seval,h0,z0u,false_imp_iff,and_true,true_and,forall_const]
 ·by_cases h1:(l.hs.length:Int)<w
  ·simp only[vW,seval,h0,h1,z0u,false_imp_iff,and_true,true_and,forall_const]
  ·have h2:w<v:=by omega
   simp only[vW,seval,h0,h1,h2,z0u,false_imp_iff,and_true,true_and,forall_const]
theorem zhL(hl:LnOk m l)(HL:zC (glE m) 32 [scT ls,I (k:Int)] [] (.tuple [.agg (lnC l),I 0]) []){fr tt:Nat}(hft:fr≤tt)(hto:tt≤l.hs.length)(vals:List V)(hf:FitC (zo l fr).1 vals):zC (glE m) 24 [scT ls,I (k:Int),I (fr:Int),I (tt:Int),.pv (.sl 4 (V.rows vals))] [] (.tuple [.pv (.sl 4 (V.rows (z6B l fr vals (tt-fr)))),I 0]) []:=by
 have HC:=zi4 m l hl fr tt hft hto vals hf;have h0:¬(fr:Int)<0:=by omega
 have h1:¬(l.hs.length:Int)<(tt:Int):=by omega
 have h2:¬(tt:Int)<(fr:Int):=by omega
 refine z8 tf_114 ?_;unfold scT lnC at*;simp only[vW,seval];refine z6 HL ?_;simp only[vW,seval,h0,h1,h2,z0u,false_imp_iff,and_true,true_and,forall_const];refine z6 HC ?_;trivial
end
end
section
open Go.Sh.Cd10
theorem ze6{s:ES}{x j d W:Nat}{cs:List TV}{es:List (List PV)}(hk:lk s.b x=some cs)(hj:cs[j]?=some (.own d W es)):(⟨s.t,sv s.b x (cs.set j (.pv (.sl W es))),s.r,s.i⟩:ES).Lw s:=by
 intro B a w E _ _ hS;refine⟨E,?_⟩;have:=hS.reB (k:=x) (cs:=cs) (ds:=cs.set j (.pv (.sl W es))) hk (fun i y hi=>by
  by_cases hij:j=i
  ·subst hij;have hl:j<cs.length:=(gJ hj).1;rw[List.getElem?_set_self hl]at hi;cases hi;exact⟨_,hj,fun v hv=>zb4 (PWk.refl _) _ _ _ _ hv⟩
  ·rw[List.getElem?_set_ne hij]at hi;exact⟨y,hi,fun v hv=>hv⟩)
 have he:(⟨s.t,sv s.b x (cs.set j (.pv (.sl W es))),s.r,s.i⟩:ES).fs=FS.setB s.fs x (cs.set j (.pv (.sl W es))):=by
  simp only[ES.fs,FS.setB,z0W]
 rw[he];exact this
theorem zgl(g:Sh.Glob)(f:Nat):zC g 64 [.pv (.sl 3 []),.pv (.v (.func (.func f) #[] #[]))] [] zH []:=by
 refine z8 tf_99 ?_;unfold zH;simp only[vW,seval]
theorem zgi(g:Sh.Glob)(f:Nat):zC g 93 [.pv (.sl 8 []),.pv (.v (.func (.func f) #[] #[]))] [] zH []:=by
 refine z8 tf_97 ?_;unfold zH;simp only[vW,seval]
theorem zfG(g:Sh.Glob):zC g 35 [scT []] [] (.agg [zH]) []:=by
 have HE:=zgl g 65;refine z8 tf_94 ?_;unfold scT zH at*;simp only[vW,seval];refine z6 HE ?_;trivial
def z67(c:Cls):List PV:=[.v (.string (str c.n)),.sl 4 (flR c.fs),.v (.slice none 0 0)]
theorem zgZ(es:List (List PV))(c:Cls):PWk (.sl 3 (es++[z67 c])) (.sl 3 (es++[lnR ⟨c,[]⟩])):=
 ziV rfl fun j a b ha hb=>by
  match j with
  |0=>cases ha;cases hb;exact PWk.refl _
  |1=>cases ha;cases hb;exact PWk.refl _
  |2=>cases ha;cases hb;exact zkA 8
  |j+3=>cases ha
theorem zjW{e e':List (List PV)}{x:Int}(h:PWk (.sl 3 e) (.sl 3 e')):Wk (.tuple [.agg [.pv (.sl 3 e)],I x]) (.tuple [.agg [.pv (.sl 3 e')],I x]):=
 z52 (z7l rfl fun j a b ha hb=>by
  match j with
  |0=>cases ha;cases hb;exact zjV h
  |j+1=>cases ha) (zjV (PWk.refl _))
theorem zdw(m:Nat)(c:Cls)(hc:zd c=true):zC (glE m) 14 [scT [],clT c] [] (.tuple [scT [⟨c,[]⟩],I 0]) []:=by
 have hk:=z1e hc;have HC:zC (glE m) 18 [scT []] [] (.tuple [I 0,I 0]) []:=z2o m [] (by simp) (fun l hl=>by cases hl);have HR:=z06 (glE m) c hk.1;have HN:zC (glE m) 15 [scT [],S (str c.n)] [] (.tuple [I 0,B false]) []:=z3I (glE m) [] c.n (by simp);have HS:=zfG (glE m);have HF:=z2d (glE m) c (by omega);rw[hc]at HR;refine SCalls.out (y:=.tuple [.agg [.pv (.sl 3 [z67 c])],I 0]) ?_ (zjW (zgZ [] c));refine z3T tf_112 ?_;unfold scT clT B zH at*;simp only[vW,seval];refine z6 HC ?_;refine z6 HR ?_;refine z6 HN ?_;simp only[vW,seval,z1k,List.length_nil,Int.natCast_zero,false_imp_iff,true_and];refine z6 HS ?_;right;refine z6 HF ?_;exact⟨by decide,rfl⟩
theorem zgj(g:Sh.Glob)(f:Nat)(es rs:List (List PV))(hW:∀cs∈es,cs.length=3)(hR:∀cs∈rs,cs.length=3)(he:es.length=rs.length)(h0:es≠[])(hl:es.length≤1000)(H:∀(i:Nat) r r',es[i]?=some r→rs[i]?=some r'→zC g f [.agg (pvC r)] [] (.agg (pvC r')) []):
  zC g 64 [.pv (.sl 3 es),.pv (.v (.func (.func f) #[] #[]))] [] (.bs 1000 0 es.length 0) [.box (pvC rs.flatten)]:=by
 refine zp tf_99 ?_;have d0:¬(es.length:Int)=0:=by have:=List.length_pos_iff.2 h0;omega
 have z0:=z58 (es:=rs) (zs:=[.string ⟨#[]⟩,.slice none 0 0,.slice none 0 0]) rfl;simp only[List.map_cons,List.map_nil]at z0;generalize hz:[PV.v (Value.string ⟨#[]⟩),PV.v (Value.slice none 0 0),PV.v (Value.slice none 0 0)]=z at z0;have hzl:z.length=3:=by rw[←hz];rfl
 rw[←he]at z0;simp only[vW,seval,d0,z0];refine⟨⟨by omega,by unfold maxLen;omega⟩,?_⟩;refine zz (σ:={i:Nat // i≤es.length}) (fun i=>⟨[(1,.pv (.v (.func (.func f) #[] #[]))),(5,.bs 13 0 es.length 0),(14,.pv (.sl 3 es)),(15,I (es.length:Int)),(16,I (i.1:Int))],[(13,pvC (z0U rs z i.1).flatten)],[],[]⟩) (fun i=>es.length-i.1) ⟨0,Nat.zero_le _⟩ ?_ ?_
 ·exact lwA
 rintro⟨i,hi⟩;by_cases hlt:i<es.length
 ·have d1:(i:Int)<(es.length:Int):=by omega
  obtain⟨cs,ex⟩:∃x,es[i]?=some x:=⟨_,gE hlt⟩
  obtain⟨cs',ex'⟩:∃x,rs[i]?=some x:=⟨_,gE (by omega)⟩
  have HC:=H i cs cs' ex ex';have hp:=fun t ht=>z5Z hR hzl ex' (t:=t) ht;have hfl:(z0U rs z i).flatten.length=es.length*3:=by rw[z1J (z4J hR hzl),z4I (by omega),he]
  obtain⟨a,b,c,rfl⟩:=zlE (hW cs (gM ex));obtain⟨a',b',c',rfl⟩:=zlE (hR cs' (gM ex'));have hp:=hp _ rfl;have w1:=wS i;unfold pvC at HC;simp only[List.map_cons,List.map_nil]at hp HC;simp only[vW,seval,d1,ex];(with_reducible apply zl);exact kv;exact HC;rfl;exact kv;simp only[vW,seval,d1,hp,w1];refine⟨by omega,zb ⟨i+1,by omega⟩ (by show es.length-(i+1)<es.length-i;omega) lwA⟩
 ·have d1:¬(i:Int)<(es.length:Int):=by omega
  obtain rfl:i=es.length:=by omega
  simp only[vW,seval,d1];rw[he,z5Y]
theorem zbb(g:Sh.Glob)(c:Cls)(hl:c.fs.length≤1000):zC g 65 [.agg (pvC (lnR ⟨c,[]⟩))] [] (.agg (pvC (z67 c))) []:=by
 have HE:=zgi g 94;have HC:=z2d g c hl;refine z8 tf_101 ?_;unfold clT at HC;unfold zH at HE;unfold lnR z67 pvC;simp only[vW,seval];refine z6 HC ?_;refine z6 HE ?_;trivial
theorem zfH(g:Sh.Glob)(c:Cls)(hl:c.fs.length≤1000):zC g 35 [scT [⟨c,[]⟩]] [] (.agg [.bs 1000 0 1 0]) [.box (pvC (z67 c))]:=by
 have HE:=zgj g 65 [lnR ⟨c,[]⟩] [z67 c] (by simp[lnR]) (by simp[z67]) rfl (by simp) (by simp) (fun i r r' h h'=>by
  match i with
  |0=>cases h;cases h';exact zbb g c hl
  |i+1=>cases h)
 refine zp tf_94 ?_;unfold scT;simp only[vW,seval];refine z6 HE ?_;rfl
theorem zje(m:Nat)(c:Cls)(h:Chg)(hc:zd c=true)(hh:ChOk m h)(ha:(z09 c h).2=0):zC (glE m) 11 [scT [⟨c,[]⟩],I 0,chT h] [] (.tuple [scT [⟨c,[h]⟩],I 0]) []:=by
 have hk:=z1e hc;have hlr:zZ ⟨c,[]⟩=true:=by simp[zZ,zo,z2n,hc]
 have hl0:LnOk m ⟨c,[]⟩:=⟨hlr,fun x hx=>by cases hx⟩
 have hR:RightS [⟨c,[]⟩]:=⟨by simp,fun l hl=>by simp at hl;subst hl;exact hlr,fun i j a b hi hj _=>by
  have h1:=(gJ hi).1;have h2:=(gJ hj).1;simp at h1 h2;omega⟩
 have HL:=z5K (l:=⟨c,[]⟩) m [⟨c,[]⟩] (by simp) (fun l hl=>by simp at hl;subst hl;exact⟨hk.1,fun x hx=>by cases hx⟩) (by rw[hR.check]) (k:=0) rfl;have HM:zC (glE m) 34 [.agg (lnC ⟨c,[]⟩),I 0] [] (clT c) []:=by
  have:=za9 m _ hl0 0 (Nat.zero_le _);rw[z1N]at this;exact this
 have HA:=z4D m c h hk.1 hh (by omega);rw[show z09 c h=((z09 c h).1,0) from by rw[←ha]]at HA;have HS:=zfH (glE m) c (by omega);generalize(z09 c h).1=d at*;refine z11 za tf_120 rfl ?_
 conv in SFunc.code _=>reduce
 unfold scT lnC z4C clT chT at*;refine zh za ?_;simp only[vW,seval];refine zh za ?_;simp only[vW,seval];refine z6 HL ?_;refine zh za ?_;simp only[vW,seval];refine zh za ?_;simp only[vW,seval,List.length_nil,z0u,Int.natCast_zero];refine zh za ?_;simp only[vW,seval,List.length_nil,z0u,Int.natCast_zero];refine z7 HM ?_;simp only[vW,seval];refine z6 HA ?_;refine zh za ?_;simp only[vW,seval];refine z6 HS ?_;refine zh za ?_;simp only[vW,seval,z67,pvC,List.map_cons,List.map_nil];refine⟨by decide,?_⟩;refine z1g (ze6 (x:=2172) (j:=2) (d:=55) (W:=8) rfl rfl) ?_;refine z1g (zgy (x:=12) (j:=0) (d:=2172) (W:=3) (c:=0) (es:=[lnR ⟨c,[h]⟩]) rfl (by simp[lnR]) (by decide) rfl rfl) ?_;refine z1a za ?_;simp only[vW,seval];rfl
end
end Go.Proofs.YthinnldeogflgaaGreatDoor
end

section
namespace Go.Proofs.YthinnldeogflgaaGreatDoor
open Go.ChangeShapes Go.WideShapes Go.ChangeAt Go.RowKit Go.Lib Go.Mor Go.Deep
open Go.ChangeMaps (open_string shut_string)
abbrev z8v:List (String×DataW Unit):=[("math/bits.deBruijn32tab",Rows.laid_math_bits_deBruijn32tab),("math/bits.deBruijn64tab",Rows.laid_math_bits_deBruijn64tab),("internal/strconv.uint64pow10",Rows.laid_internal_strconv_uint64pow10),("unicode/utf8.acceptRanges",Rows.laid_unicode_utf8_acceptRanges),("strconv.ErrRange",Rows.laid_strconv_ErrRange),("strconv.ErrSyntax",Rows.laid_strconv_ErrSyntax),("unicode/utf8.first",Rows.laid_unicode_utf8_first)]
theorem zlP:(Rows.laid_internal_strconv_uint64pow10:DataW Unit)=Lib.tabData .u64 Lib.pow10Tab:=by kernel_rfl
theorem zmA{W:World}(h:W.ShapedOpen Tryz.prog):∃k,W.cell? ⟨4,0,none⟩=some (.int .i64 k):=
 cell_of_shapedOpen_int (zero:= #[.int .i64 0]) (t:=3) h (of_decide_eq_true (by kernel_rfl)) (by kernel_rfl) rfl (by kernel_rfl) (by kernel_rfl) Tryz.underlying3
theorem zm1: "*" ++ "errors.errorString" = "*errors.errorString" :=by decide
theorem zlW(u:TypeId)(h:Tryz.prog.typeName? 3 u=some "*errors.errorString"):u=334:=
 typeName_ptr_named (nm:= "errors.errorString") (by rw[zm1];kernel_rfl) (by kernel_rfl) (by decide) u (by rw[zm1];exact h)
theorem z9b{W:World}(hL:laidMetH Tryz.prog z8v W)(hsh:W.ShapedOpen Tryz.prog):(glE W.heap.size).G W:=by
 have hL':laidMet Tryz.prog z8v W:=hL;have hU:=zis hL' (.tail _ (.tail _ (.tail _ (.tail _ (.tail _ (.tail _ (.head _))))))) (.tail _ (.tail _ (.tail _ (.head _))));have hv:=zmw hsh;have hT:GlobT W:=⟨Lib.tabIs_of_head z8b (t:=323) (by kernel_rfl) Tryz.underlying323 Tryz.underlying174 (by kernel_rfl) (by kernel_rfl) (by have h:=hL'.tail.tail;rw[zlP]at h;exact h),zmA hsh⟩
 obtain⟨p0,p1,_,_,_,_,_,_,pv0,pv1,_⟩:=laid_sentinels2 (g0:=7) (g1:=6) (ti:=179) (tp:=334) (te:=336) (ts:=9) hL'.tail.tail.tail.tail (by kernel_rfl) (by kernel_rfl) (by kernel_rfl) (by kernel_rfl)
  Tryz.underlying179 zlW Tryz.underlying334 Tryz.underlying336 rfl rfl Tryz.underlying9 (by kernel_rfl) (by kernel_rfl)
 have hE:GlobE W:=by
  refine⟨⟨334,.pointer (some p1),?_⟩,⟨334,.pointer (some p0),?_⟩⟩
  ·have:=World.var?_cell (g:=6) (by kernel_rfl) pv1 0;simpa using this
  ·have:=World.var?_cell (g:=7) (by kernel_rfl) pv0 0;simpa using this
 have hN:GlobN0 W.heap.size W:=⟨hU,Nat.le_refl _,hv⟩
 exact(⟨⟨hN,hT⟩,hE⟩:GlobNE W.heap.size W)
theorem zdj(os:Os)(args:Array Value):laidMet Tryz.prog z8v ((z5b os).forCall (fun _ _=>0) ⟨#[],args,[]⟩).memory:=
 (LaidIn.of_run [8,9,5,3,7,N0+2,6,N0+3,2] 8 (by kernel_rfl) (by kernel_rfl) (by kernel_rfl) (by kernel_rfl)).met
end Go.Proofs.YthinnldeogflgaaGreatDoor
end

section
namespace Go.Proofs.YthinnldeogflgaaGreatDoor
open Go
theorem zmC:Tryz.prog.funcs.any Func.goes=false:=by kernel_rfl
theorem zkt(f:FuncId):Tryz.prog.goes f=false:=by
 have h:=zmC;have key:∀g:Nat,(Tryz.prog.funcs[g]?).any Func.goes=false:=fun g=>by
  cases hg:Tryz.prog.funcs[g]? with
  |none=>rfl
  |some fn=>
   obtain⟨hl,rfl⟩:=gA hg;rw[Array.any_eq_false]at h;simpa using h g hl
 unfold Program.goes;rw[h,Bool.and_false,Bool.or_false];rw[←Bool.not_eq_true];intro hx;obtain⟨g,_,hg⟩:=by simpa using hx
 have:=key g;simp_all
theorem zkl(c:OpenClaim)(hs:c.start=.entering):false=c.goesBy Tryz.prog:=by
 unfold OpenClaim.goesBy Program.goesAt Program.goesFrom;rw[hs];cases Tryz.prog.funcNamed c.func with
 |none=>rfl
 |some f=>simp[zkt f]
end Go.Proofs.YthinnldeogflgaaGreatDoor
end

section
namespace Go.Mor
open Go
theorem zcA(x:Int){n:Nat}(h:0<n):∃k:Nat,pick x (n:Int)=(k:Int)∧k<n:=by
 have:=zfo x (n:Int) (by omega);obtain⟨k,hk⟩:=Int.eq_ofNat_of_zero_le this.1;exact⟨k,hk,by omega⟩
theorem zfA{s:List Ln}(h:RightS s)(h8:s.length<8){x:Ln}(hx:zZ x=true)(hn:(z0V s x.c.n).2=false):RightS (s++[x]):=by
 have hno:=ziF hn;refine⟨by simp;omega,fun l hm=> ?_,fun i j a b ha hb he=> ?_⟩
 ·rcases List.mem_append.1 hm with hm|hm
  ·exact h.line l hm
  ·obtain rfl:=List.mem_singleton.1 hm;exact hx
 ·have key:∀(i:Nat) a,(s++[x])[i]?=some a→(i<s.length∧s[i]?=some a)∨(i=s.length∧a=x):=fun i a ha=>by
   rw[List.getElem?_append]at ha;split at ha
   ·exact .inl ⟨by assumption,ha⟩
   ·rename_i hi;obtain⟨h1,h2⟩:=gJ ha;simp at h1;exact .inr ⟨by omega,by simp at h2;exact h2.symm⟩
  rcases key i a ha with⟨h1,h2⟩|⟨h1,rfl⟩<;>rcases key j b hb with⟨h3,h4⟩|⟨h3,rfl⟩
  ·exact h.own i j a b h2 h4 he
  ·exact absurd he (hno a (gM h2))
  ·exact absurd he.symm (hno b (gM h4))
  ·omega
theorem zcM{α:Type}{s:List α}{k i:Nat}{x a:α}(h:(s.set k x)[i]?=some a):(i=k∧a=x)∨(i≠k∧s[i]?=some a):=by
 by_cases hi:k=i
 ·subst hi;have hl:=(gJ h).1;rw[List.length_set]at hl;rw[List.getElem?_set_self hl]at h;cases h;exact .inl ⟨rfl,rfl⟩
 ·rw[List.getElem?_set_ne hi]at h;exact .inr ⟨fun e=>hi e.symm,h⟩
theorem zh6{s:List Ln}(h:RightS s){k:Nat}{l l':Ln}(hk:s[k]?=some l)(hr:zZ l'=true)(hc:l'.c.n=l.c.n):RightS (s.set k l'):=by
 refine⟨by rw[List.length_set];exact h.len,fun x hx=> ?_,fun i j a b ha hb he=> ?_⟩
 ·obtain⟨i,hi⟩:=List.getElem?_of_mem hx;rcases zcM hi with⟨_,rfl⟩|⟨_,h2⟩
  ·exact hr
  ·exact h.line x (gM h2)
 ·rcases zcM ha with⟨h1,rfl⟩|⟨h1,h2⟩<;>rcases zcM hb with⟨h3,rfl⟩|⟨h3,h4⟩
  ·omega
  ·exact h1.trans (h.own k j l b hk h4 (hc▸he))
  ·exact(h.own i k a l h2 hk (hc▸he)).trans h3.symm
  ·exact h.own i j a b h2 h4 he
def zjT(s:List Ln)(k:Nat)(l:Ln)(h:Chg):List Ln:=s.set k ⟨l.c,l.hs++[h]⟩
theorem zgS{l:Ln}(hr:zZ l=true)(h:Chg):(z09 (z8B l) h).2=if okV (z8B l) h then 0 else 70:=by
 have hc:zd (z8B l)=true:=z23 (z0i hr (Nat.le_refl _));unfold z09;rw[hc];cases okV (z8B l) h<;>rfl
def Kept(s t:List Ln):Prop:=∀(i:Nat) l,s[i]?=some l→∃l',t[i]?=some l'∧l'.c=l.c∧l.hs.length≤l'.hs.length∧∀v,v≤l.hs.length→zo l' v=zo l v
theorem Kept.refl(s:List Ln):Kept s s:=fun i l h=>⟨l,h,rfl,Nat.le_refl _,fun _ _=>rfl⟩
theorem Kept.trans{s t u:List Ln}(h:Kept s t)(h':Kept t u):Kept s u:=fun i l hi=>by
 obtain⟨a,a1,a2,a3,a4⟩:=h i l hi;obtain⟨b,b1,b2,b3,b4⟩:=h' i a a1;exact⟨b,b1,b2.trans a2,by omega,fun v hv=>(b4 v (by omega)).trans (a4 v hv)⟩
def z4f(i:Nat):Cls:=⟨[99,UInt8.ofNat (48+i)],[⟨[97],⟨1,0⟩,false⟩]⟩
def z2r:Chg:=⟨6,[97],[],[],⟨0,0⟩,[],[]⟩
def z1j(t:Nat):Ln:=⟨z4f 0,List.replicate t z2r⟩
def z0J(n t:Nat):List Ln:=z1j t::(List.range (n-1)).map fun i=>⟨z4f (i+1),[]⟩
theorem z8X:∀i,i<10→zd (z4f i)=true:=by decide
theorem z2D:∀t,t≤12→zZ (z1j t)=true:=by decide
theorem zaW(n t:Nat)(hn:1≤n):z0J (n+1) t=z0J n t++[⟨z4f n,[]⟩]:=by
 unfold z0J;obtain⟨k,rfl⟩:∃k,n=k+1:=⟨n-1,by omega⟩
 rw[Nat.add_sub_cancel,Nat.add_sub_cancel,List.range_succ,List.map_append,List.cons_append];rfl
theorem zaX(n t:Nat):z0J n (t+1)=zjT (z0J n t) 0 (z1j t) z2r:=by
 unfold z0J zjT z1j;rw[List.set_cons_zero,List.replicate_succ']
theorem z4X(n t:Nat)(hn:1≤n):(z0J n t).length=n:=by unfold z0J;simp;omega
theorem zed:∀n,n<9→(z0V (z0J n 0) (z4f n).n)=if n=0 then(0,true)else(0,false):=by decide
theorem z8f:∀n,n<8→RightS (z0J (n+1) 0)
 |0,_=>⟨by decide,fun l hl=>by
   obtain rfl:=List.mem_singleton.1 hl;exact z2D 0 (by decide),fun i j a b hi hj _=>by
   have h1:=(gJ hi).1;have h2:=(gJ hj).1;simp[z0J]at h1 h2;omega⟩
 |n+1,h=>by
  rw[zaW (n+1) 0 (by omega)];have hno:=zed (n+1) (by omega);rw[if_neg (by omega)]at hno;refine zfA (z8f n (by omega)) (by rw[z4X _ _ (by omega)];omega) ?_ (by rw[hno]);have:=z8X (n+1) (by omega);simp[zZ,zo,z2n,this]
theorem z3w(n:Nat)(hn:1≤n)(h8:n≤8):∀t,t≤12→RightS (z0J n t)
 |0,_=>by
  obtain⟨k,rfl⟩:∃k,n=k+1:=⟨n-1,by omega⟩
  exact z8f k (by omega)
 |t+1,h=>by
  rw[zaX];exact zh6 (z3w n hn h8 t (by omega)) (l:=z1j t) rfl (by
   have:=z2D (t+1) h;unfold z1j at this ⊢
   rwa [List.replicate_succ']at this) rfl
theorem zgJ(t:Nat)(h:t<12):okV (z8B (z1j t)) z2r=true:=by
 have:=z2D (t+1) (by omega);have h1:=z0i this (k:=t+1) (by simp[z1j]);have hx:(z1j (t+1)).hs[t]?=some z2r:=by simp[z1j]
 rw[z3W hx]at h1;have e:zo (z1j (t+1)) t=zo (z1j t) t:=by
  have:=zkX (z4f 0) (List.replicate t z2r) z2r (k:=t) (by simp);rw[←List.replicate_succ']at this;exact this
 have h0:=z0i (z2D t (by omega)) (k:=t) (by simp[z1j]);rw[e,z50 _ h0]at h1;have:=(z5r h1).2.1;unfold z8B;rw[show(z1j t).hs.length=t by simp[z1j]];exact this
end Go.Mor
end
