/- Merged texts: Zy5 Zx1 Ya5 Ya6 Yc2 Ya7 Ya8 Op8 Op9 WrapE WrapG Ln5 Ln6. No statement of the program is proved here. -/
import Derived.Test.YtbkgnekfigknhaaGreatDoorR38
import Derived.Laws.IdiomArrays
set_option linter.unusedSimpArgs false
set_option linter.unusedVariables false
set_option maxRecDepth 100000
set_option maxHeartbeats 8000000
section
namespace Go.Proofs.YtbkgnekfigknhaaGreatDoor
open Go Go.RowKit Go.Mor Go.Sh Go.Sh.Cd1
theorem zjz{x:V}(h:z15 x=true):x=.mk 0 0 [] []∨(∃n, -1000000000000000≤n∧n≤1000000000000000∧x=.mk 1 n [] [])∨(∃s,zi s=true∧x=.mk 2 0 s [])∨(∃k n,(k=3∨k=4)∧z2J n=true∧x=.mk k n [] []):=by
 unfold z15 bare at h;have e:=V.eta x;by_cases h0:x.k=0
 ·rw[if_pos h0]at h;simp at h;obtain⟨⟨h1,h2⟩,h3⟩:=h;exact .inl (by rw[←e,h0,h1,h2,h3])
 rw[if_neg h0]at h;by_cases h0:x.k=1
 ·rw[if_pos h0]at h;simp at h;obtain⟨⟨⟨h1,h2⟩,h3⟩,h4⟩:=h;exact .inr (.inl ⟨x.n,h3,h4,by rw[←e,h0,h1,h2];rfl⟩)
 rw[if_neg h0]at h;by_cases h0:x.k=2
 ·rw[if_pos h0]at h;simp at h;obtain⟨⟨h1,h2⟩,h3⟩:=h;exact .inr (.inr (.inl ⟨x.s,h3,by rw[←e,h0,h1,h2];rfl⟩))
 rw[if_neg h0]at h;by_cases h0:x.k=3∨x.k=4
 ·rw[if_pos h0]at h;simp at h;obtain⟨⟨h1,h2⟩,h3⟩:=h;exact .inr (.inr (.inr ⟨x.k,x.n,h0,h3,by rw[←e,h1,h2];rfl⟩))
 ·rw[if_neg h0]at h;cases h
theorem zea{s:zB}(h:zi s=true):s.length≤60:=by unfold zi at h;simp at h;exact h.1
theorem zh3{n:Int}(h:z2J n=true):(1≤n∧n≤100000)∨(-20≤n∧n≤ -1):=by unfold z2J at h;simpa using h
theorem z5s{x:V}(h:z15 x=true):zqL x∧x.k≠5∧x.l=[]:=by
 unfold zqL I64;rcases zjz h with rfl|⟨n,h1,h2,rfl⟩|⟨s,h1,rfl⟩|⟨k,n,h1,h2,rfl⟩
 ·refine⟨⟨⟨?_,?_⟩,⟨?_,?_⟩,?_⟩,?_,rfl⟩<;>simp[V.k,V.n,V.s]
 ·refine⟨⟨⟨?_,?_⟩,⟨?_,?_⟩,?_⟩,?_,rfl⟩<;>simp[V.k,V.n,V.s]<;>omega
 ·have:=zea h1;refine⟨⟨⟨?_,?_⟩,⟨?_,?_⟩,?_⟩,?_,rfl⟩<;>simp[V.k,V.n,V.s]<;>omega
 ·have:=zh3 h2;refine⟨⟨⟨?_,?_⟩,⟨?_,?_⟩,?_⟩,?_,rfl⟩<;>simp[V.k,V.n,V.s]<;>omega
theorem zbY{x:V}(h:z1f x=true)(h5:x.k=5):x.n=0∧x.s=[]∧x.l.length≤12∧∀y∈x.l,y.k≠5∧z15 y=true:=by
 unfold z1f at h;rw[if_pos h5]at h;simp only[Bool.and_eq_true,beq_iff_eq,decide_eq_true_eq,Bool.not_eq_true',List.any_eq_false]at h;obtain⟨⟨⟨h1,h2⟩,h3⟩,h4⟩:=h;refine⟨h1,h2,h3,fun y hy=> ?_⟩;have:=h4 y hy;unfold z36 at this;simp at this;exact this
theorem zc0{x:V}(h:z1f x=true)(h5:x.k≠5):z15 x=true:=by unfold z1f at h;rwa [if_neg h5]at h
theorem zjC{x:V}(h:z1f x=true):VOk x∧VSmall x∧x.s.length≤60∧x.l.length≤12:=by
 have hm:maxLen=9223372036854775807:=rfl;by_cases h5:x.k=5
 ·obtain⟨h1,h2,h3,h4⟩:=zbY h h5;refine⟨⟨by unfold z1w;rw[h2];simp,fun y hy=> ?_⟩,?_,by rw[h2];simp,h3⟩
  ·have:=(z5s (h4 y hy).2).1.2.2;unfold z1w;omega
  ·obtain⟨k,n,s,l⟩:=x;simp only[Vl]at h3 h4;refine .mk (by omega) (fun y hy=> ?_);have:=(z5s (h4 y hy).2).2.2;obtain⟨k',n',s',l'⟩:=y;simp only[Vl]at this;subst this;exact .mk (by simp) (by simp)
 ·have h0:=z5s (zc0 h h5);refine⟨⟨by have:=h0.1.2.2;unfold z1w;omega,by rw[h0.2.2];simp⟩,?_,h0.1.2.2,by rw[h0.2.2];simp⟩;obtain⟨k,n,s,l⟩:=x;have:=h0.2.2;simp only[Vl]at this;subst this;exact .mk (by simp) (by simp)
section
open Go.Sh.Cd7
theorem zkB{x:V}(h:z1f x=true):VFew x∧VOk x:=by
 have hv:=zjC h;refine⟨?_,hv.1⟩;by_cases h5:x.k=5
 ·obtain⟨_,_,h3,h4⟩:=zbY h h5;obtain⟨k,n,s,l⟩:=x;simp only[Vl]at h3 h4;exact .mk (by omega) (fun y hy=>zaD (z5s (h4 y hy).2).2.2)
 ·exact zaD (z5s (zc0 h h5)).2.2
theorem zcv{c:Cls}{vals:List V}(h:FitC c vals):∀v∈vals,VFew v∧VOk v:=fun v hv=>by
 obtain⟨i,hi⟩:=List.getElem?_of_mem hv;have hl:=h.len;have hlt:=(gJ hi).1;have:=h.fit i _ v (gE (show i<c.fs.length by omega)) hi;unfold zI at this;simp only[Bool.and_eq_true]at this;exact zkB this.1.1.1
end
section
open Go.Sh.Cd7 Go.Sh.Cd10
def z3g(l:Ln)(fr tt:Nat)(vals:List V)(i:Nat):List V:=z3T l fr vals (min i tt-fr)
theorem zkN{l:Ln}{fr tt:Nat}(h:fr≤tt)(vals:List V){i:Nat}(hi:i≤tt):(if fr≤i∧i<tt then z0K (zq l i).1 (l.hs.getD i ch0) (z3g l fr tt vals i)else z3g l fr tt vals i)=z3g l fr tt vals (i+1):=by
 unfold z3g;by_cases h1:fr≤i∧i<tt
 ·rw[if_pos h1,show min (i+1) tt-fr=(min i tt-fr)+1 by omega];show _=z0K _ _ _;rw[show fr+(min i tt-fr)=i by omega]
 ·rw[if_neg h1,show min (i+1) tt-fr=min i tt-fr by omega]
theorem zng{l:Ln}(hr:z09 l=true){fr tt:Nat}{vals:List V}(hf:FitC (zq l fr).1 vals)(ht:tt≤l.hs.length)(hft:fr≤tt){i:Nat}(hi:i≤tt):FitC (zq l (if fr≤i then i else fr)).1 (z3g l fr tt vals i):=by
 unfold z3g;have:=z7w hr hf (min i tt-fr) (by omega);by_cases h:fr≤i
 ·rw[if_pos h];rwa [show fr+(min i tt-fr)=i by omega]at this
 ·rw[if_neg h];rwa [show fr+(min i tt-fr)=fr by omega]at this
theorem zdf{c:Cls}{vals:List V}(h:FitC c vals):vals.length≤1000:=by
 have:=(z2g h.r).2;rw[h.len];omega
theorem zfg(m:Nat)(l:Ln)(hl:LnOk m l)(i fr tt:Nat)(hft:fr≤tt)(hto:tt≤l.hs.length)(hi:i≤tt)(vals:List V)(hf:FitC (zq l fr).1 vals){c:Cls}(hc:zq l i=(c,0)):
  zC (glE m) 71 [clT c,.ptr 1000 0,.ptr 1001 0,.ptr 1002 0,.ptr 1003 0,.ptr 1004 0,.ptr 1005 0] (osK l i fr tt (z3g l fr tt vals i) 0) (B (decide (i+1≤tt))) (osK l (i+1) fr tt (z3g l fr tt vals (i+1)) 0):=by
 have h0:=zng hl.r hf hto hft hi;have:=zmL m l hl i fr tt hft hto hi (z3g l fr tt vals i) (zcv h0) (zdf h0) (fun h=>by rwa [if_pos h]at h0);rw[zkN hft vals hi,hc]at this;exact this
theorem zmF(m:Nat)(l:Ln)(hl:LnOk m l)(fr tt:Nat)(hft:fr≤tt)(hto:tt≤l.hs.length)(vals:List V)(hf:FitC (zq l fr).1 vals):
  zC (glE m) 37 [.agg (lnC l),I (fr:Int),I (tt:Int),.pv (.sl 4 (V.rows vals))] [] (.tuple [.pv (.sl 4 (V.rows (z3T l fr vals (tt-fr)))),I 0]) []:=by
 refine za tf_173 ?_ (hc:=rfl);have HV:=z78 (glE m) l;have HC:=z0E (glE m) l.c (z2g hl.c).1;have HF:=zfa (glE m) vals (zdf hf) (fun v hv=>(zcv hf v hv).1);have hz:=z28 l;rw[show z1R l=(l.c,0) by simp[z1R,hl.c]]at hz;have H0:=zfg m l hl 0 fr tt hft hto (Nat.zero_le _) vals hf hz;have h12:=hl.len;rw[hl.c]at HC;have hh0:z3g l fr tt vals 0=vals:=by unfold z3g;rw[show min 0 tt-fr=0 by omega];rfl
 rw[hh0]at H0;have hhe:z3g l fr tt vals (tt+1)=z3T l fr vals (tt-fr):=by unfold z3g;rw[show min (tt+1) tt-fr=tt-fr by omega]
 unfold osK lnC B clT at*;simp only[vcY,seval];refine z2f HF ?_;refine z2f HV ?_;refine zbT (H:=z3J [(24,1)]) (Fp:=fpT []) (Kk:=z3K []) (lug:=[13]) tf_179 ?_;intro yv;refine z2f HC ?_;refine z6N ?_;(with_reducible apply zG);simp only[vcY,seval];rfl;exact H0;rfl;simp only[vcY,seval];rfl;simp only[vcY,seval];refine⟨fun h1=> ?_,fun h1=> ?_⟩
 ·refine zce (σ:={x:Nat×Cls // x.1<tt∧zq l x.1=(x.2,0)}) (fun x=>yV yv l x.1.1 x.1.2 [(1001,[.fn (.func 71) [] [.ptr 1002 0,.ptr 1003 0,.ptr 1004 0,.ptr 1005 0,.ptr 1006 0,.ptr 1007 0]]),(1002,[I ((x.1.1+1:Nat):Int)]),(1003,[I (fr:Int)]),(1004,[.pv (.sl 4 (V.rows (z3g l fr tt vals (x.1.1+1))))]),(1005,[I 0]),(1006,[I (tt:Int)]),(1007,lnC l)]) (fun x=>l.hs.length-x.1.1) ⟨(0,l.c),by show 0<tt;omega,hz⟩ ?_ ?_
  ·unfold yV lnC;exact lwA
  rintro⟨⟨i,c⟩,hi,hv'⟩;have hi:i<tt:=hi;have hv':zq l i=(c,0):=hv';unfold yV lnC;obtain⟨h,ex⟩:∃h,l.hs[i]?=some h:=⟨_,gE (by omega)⟩
  obtain⟨n1,n2,n3⟩:=zb9 hl ex;rw[hv']at n1 n2 n3;have HA:=z7s m c h n2 (hl.h h (gM ex)) (by have:c.fs.length≤8:=n3;omega);have n1:z0D c h=((zq l (i+1)).1,0):=n1;rw[n1]at HA;have hv1:zq l (i+1)=((zq l (i+1)).1,0):=by rw[←z0Z hl.r (show i+1≤l.hs.length by omega)]
  have HS:=zfg m l hl (i+1) fr tt hft hto (by omega) vals hf hv1;unfold osK lnC B clT at HS;unfold z7c clT chT at HA;have d2:(i:Int)<((z2b l.hs).length:Int):=by rw[z1h];omega
  have w2:=wS i;simp only[vcY,seval,d2,z5c,ex,chR];refine z2f HA ?_;refine z6N ?_;(with_reducible apply zG);simp only[vcY,seval];rfl;exact HS;rfl;simp only[vcY,seval];rfl;simp only[vcY,seval];refine⟨fun e=>zc ⟨(i+1,(zq l (i+1)).1),by show i+1<tt;omega,hv1⟩ (by show l.hs.length-(i+1)<l.hs.length-i;omega) ?_,fun e=> ?_⟩
  ·simp only[w2];exact lwA
  ·obtain rfl:tt=i+1:=by omega
   rw[hhe]
 ·obtain rfl:tt=0:=by omega
  rw[hhe]
def scT(ls:List Ln):TV:=.agg [.pv (.sl 3 (z3W ls))]
theorem zbI(ls:List Ln)(k:Nat):(z3W ls)[k]?=(ls[k]?).map lnR:=by unfold z3W;rw[List.getElem?_map]
theorem z5N(ls:List Ln):(z3W ls).length=ls.length:=by unfold z3W;rw[List.length_map]
theorem z7J(g:Sh.Glob)(ls:List Ln)(n:zB)(hl:ls.length≤1000):zC g 29 [scT ls,S (str n)] [] (.tuple [I ((z3h ls n).1:Int),B (z3h ls n).2]) []:=by
 refine za tf_168 ?_;obtain⟨R,hR⟩:∃R,z3h ls n=R:=⟨_,rfl⟩
 rw[hR];unfold scT B;simp only[vW,seval,z5N];refine zp (σ:={i:Nat // i≤ls.length∧∀(j:Nat) x,j<i→ls[j]?=some x→(x.c.n==n)=false}) (fun i=>⟨[(1,S (str n)),(9,.pv (.sl 3 (z3W ls))),(10,I (ls.length:Int)),(11,I (i.1:Int))],[],[],[]⟩) (fun i=>ls.length-i.1) ⟨0,Nat.zero_le _,fun j x hj=>by omega⟩ ?_ ?_
 ·exact lwA
 rintro⟨i,hi,hno⟩;by_cases hlt:i<ls.length
 ·have d1:(i:Int)<(ls.length:Int):=by omega
  obtain⟨x,ex⟩:∃x,ls[i]?=some x:=⟨_,gE hlt⟩
  have w1:=wS i;cases hp:(x.c.n==n)
  ·have hp':¬x.c.n=n:=by simpa using hp
   simp only[vW,seval,d1,zbI,ex,lnR,hp,hp',w1];refine zc ⟨i+1,by omega,fun j y hj hy=> ?_⟩ (by show ls.length-(i+1)<ls.length-i;omega) lwA;by_cases hji:j=i
   ·subst hji;rw[ex]at hy;cases hy;exact hp
   ·exact hno j y (by omega) hy
  ·have hp':x.c.n=n:=by simpa using hp
   simp only[vW,seval,d1,zbI,ex,lnR,hp,hp',w1];rw[←hR,z9w ex hp hno]
 ·have d1:¬(i:Int)<(ls.length:Int):=by omega
  simp only[vW,seval,d1];rw[←hR,zkG (fun x hx=>by
   obtain⟨j,hj⟩:=List.getElem?_of_mem hx;exact hno j x (by have:=(gJ hj).1;omega) hj)]
  rfl
def zeA(m:Nat)(ls:List Ln):Prop:=∀l∈ls,ClsOk l.c∧∀h∈l.hs,ChOk m h
theorem z6u(m:Nat)(ls:List Ln)(hl:ls.length≤1000)(hs:zeA m ls):zC (glE m) 61 [scT ls] [] (.tuple [I (z7y ls).1,I (z7y ls).2]) []:=by
 refine za tf_167 ?_;obtain⟨R,hR⟩:∃R,z7y ls=R:=⟨_,rfl⟩
 rw[hR];unfold z7y at hR;by_cases h8:8<ls.length
 ·rw[if_pos h8]at hR;have d0:(8:Int)<(ls.length:Int):=by omega
  unfold scT;simp only[vW,seval,z5N,d0];rw[←hR]
 rw[if_neg h8]at hR;have d0:¬(8:Int)<(ls.length:Int):=by omega
 unfold scT;simp only[vW,seval,z5N,d0];refine zp (σ:={i:Nat // i≤ls.length∧z9s ls i (ls.drop i)=R}) (fun i=>⟨[(1,.ptr 1 0),(13,.pv (.sl 3 (z3W ls))),(14,I (ls.length:Int)),(15,I (i.1:Int))],[(1,[.pv (.sl 3 (z3W ls))])],[],[]⟩) (fun i=>ls.length-i.1) ⟨0,Nat.zero_le _,hR⟩ ?_ ?_
 ·exact lwA
 rintro⟨i,hi,hg⟩;by_cases hlt:i<ls.length
 ·have d1:(i:Int)<(ls.length:Int):=by omega
  obtain⟨x,ex⟩:∃x,ls[i]?=some x:=⟨_,gE hlt⟩
  have w1:=wS i;have HF:=z7J (glE m) ls x.c.n hl;have HR:=zlF m x (hs x (gM ex)).1 (hs x (gM ex)).2;rw[zeN ls i ex]at hg;unfold zbc at hg;unfold scT B at HF;unfold lnC B at HR;simp only[vW,seval,d1,zbI,ex,lnR];refine z8 HF ?_;by_cases hf:(z3h ls x.c.n).1<i
  ·have d2:((z3h ls x.c.n).1:Int)<(i:Int):=by omega
   simp only[vW,seval,d2,false_imp_iff,and_true,true_and,forall_const];simp only[hf,decide_true,Bool.true_or,if_true]at hg;rw[←hg]
  ·have d2:¬((z3h ls x.c.n).1:Int)<(i:Int):=by omega
   simp only[vW,seval,d2,false_imp_iff,and_true,true_and,forall_const];refine z8 HR ?_;cases hr:z09 x
   ·simp only[vW,seval];simp only[hr,Bool.not_false,Bool.or_true,if_true]at hg;rw[←hg]
   ·simp only[vW,seval,w1];simp only[hf,hr,decide_false,Bool.not_true,Bool.or_false,Bool.false_eq_true,if_false]at hg;refine zc ⟨i+1,by omega,hg⟩ (by show ls.length-(i+1)<ls.length-i;omega) lwA
 ·have d1:¬(i:Int)<(ls.length:Int):=by omega
  rw[List.drop_eq_nil_of_le (by omega)]at hg;simp only[vW,seval,d1];rw[←hg];rfl
theorem zlC{s:zB}(h:zeB s):RTx s:=by
 rcases h with rfl|⟨h2,r,hr⟩
 ·exact zg3 (.inl rfl)
 ·exact⟨⟨r,hr⟩,(z9X 0 hr (by omega)).sm⟩
theorem zqk(g:Sh.Glob){c:Cls}{h:Chg}(ho:okV c h=true)(hi:ChRd h):zC g 57 [clT c,chT h] [] (.tuple [clT ⟨c.n,z07 c h⟩,I 0]) []:=by
 have sh:∀s:zB,s.length≤20→z0t s:=fun s h=>by unfold z0t;omega
 have hk:1≤h.k∧h.k≤6:=by
  unfold okV z0g z0J at ho;simp only[Bool.and_eq_true]at ho
  grind
 exact zgY g c h ho hk (sh _ hi.f) (sh _ hi.n) (sh _ hi.m) (zlC hi.x) (zlC hi.o)
theorem zl6(g:Sh.Glob)(l:Ln)(hg:GoodL l):zC g 24 [.agg (lnC l)] [] (clT (z0N l)) []:=by
 refine za tf_127 ?_;have h12:l.hs.length≤12:=by
  have:=hg.r;unfold z09 at this;simp only[Bool.and_eq_true]at this;exact Nat.le_of_ble_eq_true this.1
 have hz:=z28 l;unfold lnC;simp only[vW,seval];refine zp (σ:={x:Nat×Cls // x.1≤l.hs.length∧zq l x.1=(x.2,0)}) (fun x=>⟨[(1,.ptr 1 0),(2,.ptr 2 0),(3,.ptr 3 0),(4,I (x.1.1:Int))],[(1,[S (str l.c.n),.pv (.sl 4 (flR l.c.fs)),.pv (.sl 8 (z2b l.hs))]),(2,[S ⟨#[]⟩,.pv (.v (.slice none 0 0))]),(3,[S (str x.1.2.n),.pv (.sl 4 (flR x.1.2.fs))])],[],[]⟩) (fun x=>l.hs.length-x.1.1) ⟨(0,l.c),Nat.zero_le _,by
  have:=z0Z hg.r (Nat.zero_le _);rw[hz]at this ⊢;unfold z1R at*;exact Prod.ext rfl this⟩ ?_ ?_
 ·exact lwA
 rintro⟨⟨i,c⟩,hi,hv⟩;have hi:i≤l.hs.length:=hi;have hv:zq l i=(c,0):=hv;by_cases hlt:i<l.hs.length
 ·have d1:(i:Int)<(l.hs.length:Int):=by omega
  obtain⟨h,ex⟩:∃h,l.hs[i]?=some h:=⟨_,gE hlt⟩
  have hn:=z34 ex;rw[hv,z3v h rfl]at hn;have h0:=z0Z hg.r (k:=i+1) (by omega);rw[hn]at h0;have ho:=(z5a h0).2.1;have HA:=zqk g ho (hg.h h (gM ex));have hn2:zq l (i+1)=(⟨c.n,z07 c h⟩,0):=by
   rw[hn];unfold z0D;rw[(z5a h0).1,ho];rfl
  have w1:=wS i;unfold clT chT at HA;simp only[vW,seval,d1,z1h,z5c,ex,chR];refine z8 HA ?_;simp only[vW,seval,w1];exact zc ⟨(i+1,⟨c.n,z07 c h⟩),hlt,hn2⟩ (by show l.hs.length-(i+1)<l.hs.length-i;omega) lwA
 ·have d1:¬(i:Int)<(l.hs.length:Int):=by omega
  obtain rfl:i=l.hs.length:=by omega
  have e:z0N l=c:=by unfold z0N;rw[hv]
  rw[e];unfold clT;simp only[vW,seval,d1,z1h]
def zjx(x:RawH):List PV:=[.v (.int .i64 x.k),.v (.int .i64 x.f),.v (.int .i64 x.n),.v (.int .i64 x.m),.v (.int .i64 x.t.k),.v (.int .i64 x.t.o),.v (.int .i64 x.x),.v (.int .i64 x.o)]
def rhR(l:List RawH):List (List PV):=l.map zjx
structure RawLOk(x:RawL):Prop where
 c:RawOk x.c
 h:∀r∈x.hs,RawHOk r
 len:x.hs.length≤9223372036854775807
theorem zsX(l:List RawH)(k:Nat):(rhR l)[k]?=(l[k]?).map zjx:=by unfold rhR;rw[List.getElem?_map]
theorem zp9(l:List RawH):(rhR l).length=l.length:=by unfold rhR;rw[List.length_map]
theorem zkd(l:List Chg)(h:Chg):z2b (l++[h])=z2b l++[chR h]:=by unfold z2b;rw[List.map_append];rfl
end
section
open Go.Sh.Cd7 Go.Sh.Cd10
def zfx(e:Int):TV:=.tuple [.agg [S ⟨#[]⟩,zD,zD],I e]
theorem znr(m:Nat)(ls:List Ln)(hl:ls.length≤1000)(hs:zeA m ls)(n:Int)(he:(z7y ls).2=0)(hn:n<0∨(ls.length:Int)≤n):zC (glE m) 33 [scT ls,I n] [] (zfx 2) []:=by
 have HC:=z6u m ls hl hs;rw[he]at HC;refine za tf_175 ?_;unfold scT zfx zD at*;simp only[vW,seval];refine z8 HC ?_;by_cases h0:n<0
 ·simp only[vW,seval,h0,z5N,false_imp_iff,and_true,true_and,forall_const]
 ·have h1:(ls.length:Int)≤n:=by omega
  simp only[vW,seval,h0,h1,z5N,false_imp_iff,and_true,true_and,forall_const]
theorem zcD(m:Nat)(ls:List Ln)(hl:ls.length≤1000)(hs:zeA m ls)(he:(z7y ls).2=0){k:Nat}{l:Ln}(hk:ls[k]?=some l):zC (glE m) 33 [scT ls,I (k:Int)] [] (.tuple [.agg (lnC l),I 0]) []:=by
 have HC:=z6u m ls hl hs;rw[he]at HC;have hkl:=(gJ hk).1;have h0:¬(k:Int)<0:=by omega
 have h1:¬(ls.length:Int)≤(k:Int):=by omega
 have h2:(k:Int)<(ls.length:Int):=by omega
 refine za tf_175 ?_;unfold scT lnC at*;simp only[vW,seval];refine z8 HC ?_;simp only[vW,seval,h0,h1,h2,z5N,zbI,hk,lnR,false_imp_iff,and_true,true_and,forall_const];refine⟨hkl,fun b hb=> ?_⟩;obtain rfl:=Option.some.inj hb;refine⟨Nat.le_refl 3,rfl,?_⟩;simp only[vW,seval,List.take_succ_cons,List.take_zero,List.drop_succ_cons,List.drop_zero]
section
variable{m:Nat}{ls:List Ln}{n:Int}{e:Int}
theorem zno(he:e≠0)(HL:zC (glE m) 33 [scT ls,I n] [] (zfx e) []):zC (glE m) 28 [scT ls,I n] [] (.tuple [I 0,I e]) []:=by
 refine za tf_169 ?_;unfold scT zfx zD at*;simp only[vW,seval];refine z8 HL ?_;simp only[vW,seval,he];exact fun h=>h.elim
end
section
variable{m:Nat}{ls:List Ln}{k:Nat}{l:Ln}
theorem zpT(HL:zC (glE m) 33 [scT ls,I (k:Int)] [] (.tuple [.agg (lnC l),I 0]) []):zC (glE m) 28 [scT ls,I (k:Int)] [] (.tuple [I (l.hs.length:Int),I 0]) []:=by
 refine za tf_169 ?_;unfold scT lnC at*;simp only[vW,seval];refine z8 HL ?_;simp only[vW,seval,z1h]
theorem zqO(HL:zC (glE m) 33 [scT ls,I (k:Int)] [] (.tuple [.agg (lnC l),I 0]) [])(v:Int)(hv:v<0∨(l.hs.length:Int)<v):zC (glE m) 10 [scT ls,I (k:Int),I v] [] (.tuple [.agg [S ⟨#[]⟩,zD],I 81]) []:=by
 refine za tf_165 ?_;unfold scT lnC zD at*;simp only[vW,seval];refine z8 HL ?_;by_cases h0:v<0
 ·simp only[vW,seval,h0,z1h,false_imp_iff,and_true,true_and,forall_const]
 ·have h1:(l.hs.length:Int)<v:=by omega
  simp only[vW,seval,h0,h1,z1h,false_imp_iff,and_true,true_and,forall_const]
theorem zin(hl:LnOk m l)(HL:zC (glE m) 33 [scT ls,I (k:Int)] [] (.tuple [.agg (lnC l),I 0]) []){v:Nat}(hv:v≤l.hs.length):zC (glE m) 10 [scT ls,I (k:Int),I (v:Int)] [] (.tuple [clT (zq l v).1,I 0]) []:=by
 have HM:=zhD m l hl v hv;have HF:=z5B (glE m) (zq l v).1 (by have:=(z2g (z2P (z0Z hl.r hv))).2;omega);have h0:¬(v:Int)<0:=by omega
 have h1:¬(l.hs.length:Int)<(v:Int):=by omega
 refine za tf_165 ?_;unfold scT lnC clT at*;simp only[vW,seval];refine z8 HL ?_;simp only[vW,seval,h0,h1,z1h,false_imp_iff,and_true,true_and,forall_const];refine z7 HM ?_;refine z8 HF ?_;trivial
theorem zkb(HL:zC (glE m) 33 [scT ls,I (k:Int)] [] (.tuple [.agg (lnC l),I 0]) [])(v w:Int)(hv:v<0∨(l.hs.length:Int)<w∨w<v)(x:TV):zC (glE m) 12 [scT ls,I (k:Int),I v,I w,x] [] (.tuple [zD,I 81]) []:=by
 refine za tf_166 ?_;unfold scT lnC zD at*;simp only[vW,seval];refine z8 HL ?_;by_cases h0:v<0
 ·simp only[vW,seval,h0,z1h,false_imp_iff,and_true,true_and,forall_const]
 ·by_cases h1:(l.hs.length:Int)<w
  ·simp only[vW,seval,h0,h1,z1h,false_imp_iff,and_true,true_and,forall_const]
  ·have h2:w<v:=by omega
   simp only[vW,seval,h0,h1,h2,z1h,false_imp_iff,and_true,true_and,forall_const]
theorem zez(hl:LnOk m l)(HL:zC (glE m) 33 [scT ls,I (k:Int)] [] (.tuple [.agg (lnC l),I 0]) []){fr tt:Nat}(hft:fr≤tt)(hto:tt≤l.hs.length)(vals:List V)(hf:FitC (zq l fr).1 vals):zC (glE m) 12 [scT ls,I (k:Int),I (fr:Int),I (tt:Int),.pv (.sl 4 (V.rows vals))] [] (.tuple [.pv (.sl 4 (V.rows (z3T l fr vals (tt-fr)))),I 0]) []:=by
 have HC:=zmF m l hl fr tt hft hto vals hf;have h0:¬(fr:Int)<0:=by omega
 have h1:¬(l.hs.length:Int)<(tt:Int):=by omega
 have h2:¬(tt:Int)<(fr:Int):=by omega
 refine za tf_166 ?_;unfold scT lnC at*;simp only[vW,seval];refine z8 HL ?_;simp only[vW,seval,h0,h1,h2,z1h,false_imp_iff,and_true,true_and,forall_const];refine z8 HC ?_;trivial
end
end
section
open Go.Sh.Cd7 Go.Sh.Cd10
theorem zqa{s:ES}{x j d W:Nat}{cs:List TV}{es:List (List PV)}(hk:lk s.b x=some cs)(hj:cs[j]?=some (.own d W es)):(⟨s.t,sv s.b x (cs.set j (.pv (.sl W es))),s.r,s.i⟩:ES).Lw s:=by
 intro B a w E _ _ hS;refine⟨E,?_⟩;have:=hS.reB (k:=x) (cs:=cs) (ds:=cs.set j (.pv (.sl W es))) hk (fun i y hi=>by
  by_cases hij:j=i
  ·subst hij;have hl:j<cs.length:=(gJ hj).1;rw[List.getElem?_set_self hl]at hi;cases hi;exact⟨_,hj,fun v hv=>zmg (PWk.refl _) _ _ _ _ hv⟩
  ·rw[List.getElem?_set_ne hij]at hi;exact⟨y,hi,fun v hv=>hv⟩)
 have he:(⟨s.t,sv s.b x (cs.set j (.pv (.sl W es))),s.r,s.i⟩:ES).fs=FS.setB s.fs x (cs.set j (.pv (.sl W es))):=by
  simp only[ES.fs,FS.setB,z1V]
 rw[he];exact this
theorem zku(g:Sh.Glob)(f:Nat):zC g 122 [.pv (.sl 3 []),.pv (.v (.func (.func f) #[] #[]))] [] zD []:=by
 refine za tf_113 ?_;unfold zD;simp only[vW,seval]
theorem zks(g:Sh.Glob)(f:Nat):zC g 183 [.pv (.sl 8 []),.pv (.v (.func (.func f) #[] #[]))] [] zD []:=by
 refine za tf_111 ?_;unfold zD;simp only[vW,seval]
theorem zjJ(g:Sh.Glob):zC g 62 [scT []] [] (.agg [zD]) []:=by
 have HE:=zku g 123;refine za tf_108 ?_;unfold scT zD at*;simp only[vW,seval];refine z8 HE ?_;trivial
def z8E(c:Cls):List PV:=[.v (.string (str c.n)),.sl 4 (flR c.fs),.v (.slice none 0 0)]
theorem zrI(es:List (List PV))(c:Cls):PWk (.sl 3 (es++[z8E c])) (.sl 3 (es++[lnR ⟨c,[]⟩])):=
 znR rfl fun j a b ha hb=>by
  match j with
  |0=>cases ha;cases hb;exact PWk.refl _
  |1=>cases ha;cases hb;exact PWk.refl _
  |2=>cases ha;cases hb;exact zqe 8
  |j+3=>cases ha
theorem zt1{e e':List (List PV)}{x:Int}(h:PWk (.sl 3 e) (.sl 3 e')):Wk (.tuple [.agg [.pv (.sl 3 e)],I x]) (.tuple [.agg [.pv (.sl 3 e')],I x]):=
 z6p (z9m rfl fun j a b ha hb=>by
  match j with
  |0=>cases ha;cases hb;exact zph h
  |j+1=>cases ha) (zph (PWk.refl _))
theorem zpo(m:Nat)(c:Cls)(hc:ze c=true):zC (glE m) 26 [scT [],clT c] [] (.tuple [scT [⟨c,[]⟩],I 0]) []:=by
 have hk:=z2g hc;have HC:zC (glE m) 61 [scT []] [] (.tuple [I 0,I 0]) []:=z6u m [] (by simp) (fun l hl=>by cases hl);have HR:=z0E (glE m) c hk.1;have HN:zC (glE m) 29 [scT [],S (str c.n)] [] (.tuple [I 0,B false]) []:=z7J (glE m) [] c.n (by simp);have HS:=zjJ (glE m);have HF:=z5B (glE m) c (by omega);rw[hc]at HR;refine SCalls.out (y:=.tuple [.agg [.pv (.sl 3 [z8E c])],I 0]) ?_ (zt1 (zrI [] c));refine z2e tf_164 ?_;unfold scT clT B zD at*;simp only[vW,seval];refine z8 HC ?_;refine z8 HR ?_;refine z8 HN ?_;simp only[vW,seval,z5N,List.length_nil,Int.natCast_zero,false_imp_iff,true_and];refine z8 HS ?_;right;refine z8 HF ?_;exact⟨by decide,rfl⟩
theorem zkt(g:Sh.Glob)(f:Nat)(es rs:List (List PV))(hW:∀cs∈es,cs.length=3)(hR:∀cs∈rs,cs.length=3)(he:es.length=rs.length)(h0:es≠[])(hl:es.length≤1000)(H:∀(i:Nat) r r',es[i]?=some r→rs[i]?=some r'→zC g f [.agg (pvC r)] [] (.agg (pvC r')) []):
  zC g 122 [.pv (.sl 3 es),.pv (.v (.func (.func f) #[] #[]))] [] (.bs 1000 0 es.length 0) [.box (pvC rs.flatten)]:=by
 refine zo tf_113 ?_;have d0:¬(es.length:Int)=0:=by have:=List.length_pos_iff.2 h0;omega
 have z0:=z8t (es:=rs) (zs:=[.string ⟨#[]⟩,.slice none 0 0,.slice none 0 0]) rfl;simp only[List.map_cons,List.map_nil]at z0;generalize hz:[PV.v (Value.string ⟨#[]⟩),PV.v (Value.slice none 0 0),PV.v (Value.slice none 0 0)]=z at z0;have hzl:z.length=3:=by rw[←hz];rfl
 rw[←he]at z0;simp only[vW,seval,d0,z0];refine⟨⟨by omega,by unfold maxLen;omega⟩,?_⟩;refine zp (σ:={i:Nat // i≤es.length}) (fun i=>⟨[(1,.pv (.v (.func (.func f) #[] #[]))),(5,.bs 13 0 es.length 0),(14,.pv (.sl 3 es)),(15,I (es.length:Int)),(16,I (i.1:Int))],[(13,pvC (z1U rs z i.1).flatten)],[],[]⟩) (fun i=>es.length-i.1) ⟨0,Nat.zero_le _⟩ ?_ ?_
 ·exact lwA
 rintro⟨i,hi⟩;by_cases hlt:i<es.length
 ·have d1:(i:Int)<(es.length:Int):=by omega
  obtain⟨cs,ex⟩:∃x,es[i]?=some x:=⟨_,gE hlt⟩
  obtain⟨cs',ex'⟩:∃x,rs[i]?=some x:=⟨_,gE (by omega)⟩
  have HC:=H i cs cs' ex ex';have hp:=fun t ht=>zaF hR hzl ex' (t:=t) ht;have hfl:(z1U rs z i).flatten.length=es.length*3:=by rw[z2S (z7C hR hzl),z7B (by omega),he]
  obtain⟨a,b,c,rfl⟩:=zrl (hW cs (gM ex));obtain⟨a',b',c',rfl⟩:=zrl (hR cs' (gM ex'));have hp:=hp _ rfl;have w1:=wS i;unfold pvC at HC;simp only[List.map_cons,List.map_nil]at hp HC;simp only[vW,seval,d1,ex];(with_reducible apply zG);exact kv;exact HC;rfl;exact kv;simp only[vW,seval,d1,hp,w1];refine⟨by omega,zc ⟨i+1,by omega⟩ (by show es.length-(i+1)<es.length-i;omega) lwA⟩
 ·have d1:¬(i:Int)<(es.length:Int):=by omega
  obtain rfl:i=es.length:=by omega
  simp only[vW,seval,d1];rw[he,zaE]
theorem ze2(g:Sh.Glob)(c:Cls)(hl:c.fs.length≤1000):zC g 123 [.agg (pvC (lnR ⟨c,[]⟩))] [] (.agg (pvC (z8E c))) []:=by
 have HE:=zks g 184;have HC:=z5B g c hl;refine za tf_115 ?_;unfold clT at HC;unfold zD at HE;unfold lnR z8E pvC;simp only[vW,seval];refine z8 HC ?_;refine z8 HE ?_;trivial
theorem zjK(g:Sh.Glob)(c:Cls)(hl:c.fs.length≤1000):zC g 62 [scT [⟨c,[]⟩]] [] (.agg [.bs 1000 0 1 0]) [.box (pvC (z8E c))]:=by
 have HE:=zkt g 123 [lnR ⟨c,[]⟩] [z8E c] (by simp[lnR]) (by simp[z8E]) rfl (by simp) (by simp) (fun i r r' h h'=>by
  match i with
  |0=>cases h;cases h';exact ze2 g c hl
  |i+1=>cases h)
 refine zo tf_108 ?_;unfold scT;simp only[vW,seval];refine z8 HE ?_;rfl
theorem zom(m:Nat)(c:Cls)(h:Chg)(hc:ze c=true)(hh:ChOk m h)(ha:(z0D c h).2=0):zC (glE m) 27 [scT [⟨c,[]⟩],I 0,chT h] [] (.tuple [scT [⟨c,[h]⟩],I 0]) []:=by
 have hk:=z2g hc;have hlr:z09 ⟨c,[]⟩=true:=by simp[z09,zq,z1R,hc]
 have hl0:LnOk m ⟨c,[]⟩:=⟨hlr,fun x hx=>by cases hx⟩
 have hR:RightS [⟨c,[]⟩]:=⟨by simp,fun l hl=>by simp at hl;subst hl;exact hlr,fun i j a b hi hj _=>by
  have h1:=(gJ hi).1;have h2:=(gJ hj).1;simp at h1 h2;omega⟩
 have HL:=zcD (l:=⟨c,[]⟩) m [⟨c,[]⟩] (by simp) (fun l hl=>by simp at hl;subst hl;exact⟨hk.1,fun x hx=>by cases hx⟩) (by rw[hR.check]) (k:=0) rfl;have HM:zC (glE m) 35 [.agg (lnC ⟨c,[]⟩),I 0] [] (clT c) []:=by
  have:=zhD m _ hl0 0 (Nat.zero_le _);rw[z28]at this;exact this
 have HA:=z7s m c h hk.1 hh (by omega);rw[show z0D c h=((z0D c h).1,0) from by rw[←ha]]at HA;have HS:=zjK (glE m) c (by omega);generalize(z0D c h).1=d at*;refine z2M zk tf_172 rfl ?_
 conv in SFunc.code _=>reduce
 unfold scT lnC z7c clT chT at*;refine z02 zk ?_;simp only[vW,seval];refine z02 zk ?_;simp only[vW,seval];refine z8 HL ?_;refine z02 zk ?_;simp only[vW,seval];refine z02 zk ?_;simp only[vW,seval,List.length_nil,z1h,Int.natCast_zero];refine z02 zk ?_;simp only[vW,seval,List.length_nil,z1h,Int.natCast_zero];refine z7 HM ?_;simp only[vW,seval];refine z8 HA ?_;refine z02 zk ?_;simp only[vW,seval];refine z8 HS ?_;refine z02 zk ?_;simp only[vW,seval,z8E,pvC,List.map_cons,List.map_nil];refine⟨by decide,?_⟩;refine z42 (zqa (x:=2172) (j:=2) (d:=55) (W:=8) rfl rfl) ?_;refine z42 (zr6 (x:=12) (j:=0) (d:=2172) (W:=3) (c:=0) (es:=[lnR ⟨c,[h]⟩]) rfl (by simp[lnR]) (by decide) rfl rfl) ?_;refine z2K zk ?_;simp only[vW,seval];rfl
end
end Go.Proofs.YtbkgnekfigknhaaGreatDoor
end

section
namespace Go.Proofs.YtbkgnekfigknhaaGreatDoor
open Go.ChangeShapes Go.WideShapes Go.ChangeAt Go.RowKit Go.Lib Go.Mor Go.Deep Go.Joins
open Go.Sh (RelT RelV TV PV SCalls Env MSim z0k zx z1W Low)
open Go.Proofs.YtbkgnekfigknhaaGreatDoor.OpR
section
variable{H:Type}{enc:TypeId×Value→H}
theorem zlh{α:Type}(R:α→List PV)(Q:α→Prop){t e:TypeId}{Wd:Nat}(ht:Tryz.prog.underlying t=some (.slice e))(hC:Tryz.prog.cellsOf e=Wd)(hW:0<Wd)(hR:∀x,(R x).length=Wd)
  {W:World} {base:Nat} {spare:Nat→Bool} {held:Bool} {fuel:Nat} {c:Value} {y:DataW H×List MemPlace}
  (hel:∀n cs y,cs.length=Wd→DataW.trod enc Tryz.prog W base spare held n e cs=some y→∃x:α,Q x∧∀(j:Nat) q v,(R x)[j]?=some q→cs[j]?=some v→RelV W (z1e W).K q v∧Go.Sh.one v)
  (h:DataW.trod enc Tryz.prog W base spare held fuel t [c]=some y):∃l:List α,(∀x∈l,Q x)∧l.length≤9223372036854775807∧RelV W (z1e W).K (.sl Wd (l.map R)) c:=by
 rcases open_slice ht h with h0|⟨a,len,cap,m,n,D,Pl,hcs,hb,hl,hm,hmm,hx,hi⟩
 ·obtain rfl:c=.slice none 0 0:=by simpa using h0.1
  exact⟨[],by simp,by simp,.sl Wd [] 0 0 0 none (fun _ _=>undef) (by simp) (by simp) (by simp) (by simp) (by simp) (by simp)⟩
 obtain rfl:c=.slice (some a) len cap:=by simpa using hcs
 rw[hC]at hi;have key:∀i,i<len→∃x:α,Q x∧a=⟨a.block,a.off,none⟩∧∀(j:Nat) q,(R x)[j]?=some q→∃v,W.cell? ⟨a.block,a.off+i*Wd+j,none⟩=some v∧RelV W (z1e W).K q v∧Go.Sh.one v:=by
  intro i hlt;obtain⟨cs',hc,ht'⟩:=hi i (by rw[hmm];split<;>omega);obtain⟨_,hcl,hat⟩:=World.cells?_some hc;obtain⟨cs0,hc0,_⟩:=hi 0 (by rw[hmm];split<;>omega);obtain⟨_,hcl0,hat0⟩:=World.cells?_some hc0;have h00:=hat0 0 hW;rw[gE (by omega)]at h00;have ha:a=⟨a.block,a.off,none⟩:=(z7r (k:=0) (by simpa [Addr.add]using h00)).1;have hadd:∀k,a.add k=⟨a.block,a.off+k,none⟩:=fun k=>(z7r (k:=k) (by simpa [Addr.add]using h00)).2;obtain⟨x,hq,hrel⟩:=hel n cs' _ hcl ht';refine⟨x,hq,ha,fun j q hj=> ?_⟩;have hjl:j<Wd:=by have:=(gJ hj).1;rwa [hR]at this
  have hcell:=hat j hjl;have hv:cs'[j]?=some (cs'[j]'(by omega)):=gE (by omega);obtain⟨h1,h2⟩:=hrel j q _ hj hv;refine⟨_,?_,h1,h2⟩;rw[hv,Go.Deep.add_add,hadd]at hcell;rw[←Nat.add_assoc]at hcell;exact hcell
 obtain⟨l,hlen,hq⟩:=zhy key;refine⟨l,fun r hr=> ?_,by unfold maxLen at hm;omega,?_⟩
 ·obtain⟨i,hi⟩:=List.getElem?_of_mem hr;exact(hq i r hi).1
 have hL:(l.map R).length=len:=by rw[List.length_map,hlen]
 rw[←hL];have cell:∀(i j:Nat) cs q,(l.map R)[i]?=some cs→cs[j]?=some q→∃v,W.cell? ⟨a.block,a.off+i*Wd+j,none⟩=some v∧RelV W (z1e W).K q v∧Go.Sh.one v:=by
  intro i j cs q h1 h2;rw[List.getElem?_map,Option.map_eq_some_iff]at h1;obtain⟨r,hr,rfl⟩:=h1;exact(hq i r hr).2.2 j q h2
 refine .sl Wd (l.map R) a.block a.off cap (some a) (fun i j=>(W.cell? ⟨a.block,a.off+i*Wd+j,none⟩).getD undef) (fun hne=> ?_) (by omega) hm (fun cs hcs=> ?_) (fun i j cs q h1 h2=> ?_) (fun i j cs q h1 h2=> ?_)
 ·obtain⟨r,hr⟩:∃r,l[0]?=some r:=by
   cases l with
   |nil=>exact absurd rfl hne
   |cons r q=>exact⟨r,rfl⟩
  rw[(hq 0 r hr).2.1]
 ·obtain⟨r,_,rfl⟩:=List.mem_map.1 hcs;exact hR r
 ·obtain⟨u,hu,_,ho⟩:=cell i j cs q h1 h2;rw[hu];exact⟨z1d (a:=⟨a.block,a.off+i*Wd+j,none⟩) hu,rfl,ho⟩
 ·obtain⟨u,hu,hr,ho⟩:=cell i j cs q h1 h2;rw[hu];exact hr
theorem z4h{W:World}{K:Nat→Nat→Prop}(x:Value)(h:Go.Sh.one x):RelV W K (.v x) x∧Go.Sh.one x:=⟨.v x,h⟩
theorem znD{W:World}{base:Nat}{spare:Nat→Bool}{held:Bool}{fuel:Nat}{c:Value}{y:DataW H×List MemPlace}(h:DataW.trod enc Tryz.prog W base spare held fuel 67 [c]=some y):
  ∃l:List RawH,(∀x∈l,RawHOk x)∧l.length≤9223372036854775807∧RelV W (z1e W).K (.sl 8 (rhR l)) c:=by
 refine zlh zjx RawHOk Tryz.underlying67 (by kernel_rfl) (by decide) (fun _=>rfl) (fun n cs y hl hf=> ?_) h;obtain⟨c0,c1,c2,c3,c4,c5,c6,c7,rfl⟩:=zsH hl;obtain⟨xs,n',_,_,hlen,hxl,hf⟩:=DataW.trod_struct Tryz.underlying78 hf;obtain⟨x0,x1,x2,x3,x4,x5,x6,rfl⟩:=zsG hxl;have k0:Tryz.prog.cellsOf 3=1:=by kernel_rfl
 have k1:Tryz.prog.cellsOf 49=2:=by kernel_rfl
 have h0:DataW.trod enc Tryz.prog W base spare held n' 3 [c0]=some x0:=by have:=hf 0 _ rfl;simpa [k0,Value.cells]using this
 have h1:DataW.trod enc Tryz.prog W base spare held n' 3 [c1]=some x1:=by have:=hf 1 _ rfl;simpa [k0,Value.cells]using this
 have h2:DataW.trod enc Tryz.prog W base spare held n' 3 [c2]=some x2:=by have:=hf 2 _ rfl;simpa [k0,Value.cells]using this
 have h3:DataW.trod enc Tryz.prog W base spare held n' 3 [c3]=some x3:=by have:=hf 3 _ rfl;simpa [k0,Value.cells]using this
 have h4:DataW.trod enc Tryz.prog W base spare held n' 49 [c4,c5]=some x4:=by have:=hf 4 _ rfl;simpa [k1,Value.cells]using this
 have h5:DataW.trod enc Tryz.prog W base spare held n' 3 [c6]=some x5:=by have:=hf 5 _ rfl;simpa [k0,Value.cells]using this
 have h6:DataW.trod enc Tryz.prog W base spare held n' 3 [c7]=some x6:=by have:=hf 6 _ rfl;simpa [k0,Value.cells]using this
 obtain⟨z0,e0,_,w0⟩:=DataW.trod_int Tryz.underlying3 h0;obtain⟨z1,e1,_,w1⟩:=DataW.trod_int Tryz.underlying3 h1;obtain⟨z2,e2,_,w2⟩:=DataW.trod_int Tryz.underlying3 h2;obtain⟨z3,e3,_,w3⟩:=DataW.trod_int Tryz.underlying3 h3;obtain⟨t,e4,w4,w4'⟩:=znE h4;obtain⟨z5,e5,_,w5⟩:=DataW.trod_int Tryz.underlying3 h5;obtain⟨z6,e6,_,w6⟩:=DataW.trod_int Tryz.underlying3 h6;simp at e0 e1 e2 e3 e4 e5 e6;obtain⟨rfl,rfl⟩:=e4;subst e0 e1 e2 e3 e5 e6;refine⟨⟨z0,z1,z2,z3,t,z5,z6⟩,⟨bounds_i64 w0,bounds_i64 w1,bounds_i64 w2,bounds_i64 w3,w4,w4',bounds_i64 w5,bounds_i64 w6⟩,fun j q u hq hu=> ?_⟩
 match j with
 |0=>cases hq;cases hu;exact z4h _ rfl
 |1=>cases hq;cases hu;exact z4h _ rfl
 |2=>cases hq;cases hu;exact z4h _ rfl
 |3=>cases hq;cases hu;exact z4h _ rfl
 |4=>cases hq;cases hu;exact z4h _ rfl
 |5=>cases hq;cases hu;exact z4h _ rfl
 |6=>cases hq;cases hu;exact z4h _ rfl
 |7=>cases hq;cases hu;exact z4h _ rfl
 |j+8=>cases hq
end
end Go.Proofs.YtbkgnekfigknhaaGreatDoor
end

section
namespace Go.Proofs.YtbkgnekfigknhaaGreatDoor
open Go.ChangeShapes Go.WideShapes Go.ChangeAt Go.RowKit Go.Lib Go.Mor Go.Deep Go.Joins
open Go.Sh (RelT RelV TV PV SCalls Env MSim z0k zx z1W Low)
section
variable{H:Type}{enc:TypeId×Value→H}
theorem zj7{W:World}{b0 base:Nat}{spare:Nat→Bool}{held:Bool}{v:Value}{d:DataW H}{p:List MemPlace}(hok:Value.okWide Tryz.prog W .any b0 67 v)(h:DataW.Trod enc Tryz.prog W base spare held 67 v d p):
  ∃l:List RawH,(∀x∈l,RawHOk x)∧l.length≤9223372036854775807∧∀r,RelT W (z1e W) r (.pv (.sl 8 (rhR l))) v:=by
 obtain⟨a0,len,cap,rfl⟩:=okWide_slice Tryz.underlying67 hok;obtain⟨fuel,hf⟩:=h;obtain⟨l,h1,h2,h3⟩:=znD (c:=.slice a0 len cap) hf;exact⟨l,h1,h2,fun r=> .pv h3⟩
end
end Go.Proofs.YtbkgnekfigknhaaGreatDoor
end

section
namespace Go.Proofs.YtbkgnekfigknhaaGreatDoor
open Go.ChangeShapes Go.WideShapes Go.ChangeAt Go.RowKit Go.Lib Go.Mor Go.Deep
open Go.ChangeMaps (open_string shut_string)
abbrev zaK:List (String×DataW Unit):=[("math/bits.deBruijn32tab",Rows.laid_math_bits_deBruijn32tab),("math/bits.deBruijn64tab",Rows.laid_math_bits_deBruijn64tab),("internal/strconv.uint64pow10",Rows.laid_internal_strconv_uint64pow10),("unicode/utf8.acceptRanges",Rows.laid_unicode_utf8_acceptRanges),("strconv.ErrRange",Rows.laid_strconv_ErrRange),("strconv.ErrSyntax",Rows.laid_strconv_ErrSyntax),("unicode/utf8.first",Rows.laid_unicode_utf8_first)]
theorem zrG:(Rows.laid_internal_strconv_uint64pow10:DataW Unit)=Lib.tabData .u64 Lib.pow10Tab:=by kernel_rfl
theorem zsS{W:World}(h:W.ShapedOpen Tryz.prog):∃k,W.cell? ⟨2,0,none⟩=some (.int .i64 k):=
 cell_of_shapedOpen_int (zero:= #[.int .i64 0]) (t:=3) h (of_decide_eq_true (by kernel_rfl)) (by kernel_rfl) rfl (by kernel_rfl) (by kernel_rfl) Tryz.underlying3
theorem zs2: "*" ++ "errors.errorString" = "*errors.errorString" :=by decide
theorem zrP(u:TypeId)(h:Tryz.prog.typeName? 3 u=some "*errors.errorString"):u=311:=
 typeName_ptr_named (nm:= "errors.errorString") (by rw[zs2];kernel_rfl) (by kernel_rfl) (by decide) u (by rw[zs2];exact h)
theorem zbB{W:World}(hL:laidMetH Tryz.prog zaK W)(hsh:W.ShapedOpen Tryz.prog):(glE W.heap.size).G W:=by
 have hL':laidMet Tryz.prog zaK W:=hL;have hU:=znb hL' (.tail _ (.tail _ (.tail _ (.tail _ (.tail _ (.tail _ (.head _))))))) (.tail _ (.tail _ (.tail _ (.head _))));have hv:=zsC hsh;have hT:GlobT W:=⟨Lib.tabIs_of_head zag (t:=294) (by kernel_rfl) Tryz.underlying294 Tryz.underlying272 (by kernel_rfl) (by kernel_rfl) (by have h:=hL'.tail.tail;rw[zrG]at h;exact h),zsS hsh⟩
 obtain⟨p0,p1,_,_,_,_,_,_,pv0,pv1,_⟩:=laid_sentinels2 (g0:=5) (g1:=4) (ti:=210) (tp:=311) (te:=313) (ts:=9) hL'.tail.tail.tail.tail (by kernel_rfl) (by kernel_rfl) (by kernel_rfl) (by kernel_rfl)
  Tryz.underlying210 zrP Tryz.underlying311 Tryz.underlying313 rfl rfl Tryz.underlying9 (by kernel_rfl) (by kernel_rfl)
 have hE:GlobE W:=by
  refine⟨⟨311,.pointer (some p1),?_⟩,⟨311,.pointer (some p0),?_⟩⟩
  ·have:=World.var?_cell (g:=4) (by kernel_rfl) pv1 0;simpa using this
  ·have:=World.var?_cell (g:=5) (by kernel_rfl) pv0 0;simpa using this
 have hN:GlobN0 W.heap.size W:=⟨hU,Nat.le_refl _,hv⟩
 exact(⟨⟨hN,hT⟩,hE⟩:GlobNE W.heap.size W)
theorem zgM(os:Os)(args:Array Value):laidMet Tryz.prog zaK ((z6y os).forCall (fun _ _=>0) ⟨#[],args,[]⟩).memory:=
 (LaidIn.of_run [6,7,3,1,5,N0,4,N0+1,0] 8 (by kernel_rfl) (by kernel_rfl) (by kernel_rfl) (by kernel_rfl)).met
end Go.Proofs.YtbkgnekfigknhaaGreatDoor
end

section
namespace Go.Proofs.YtbkgnekfigknhaaGreatDoor
open Go
theorem zsT:Tryz.prog.funcs.any Func.goes=false:=by kernel_rfl
theorem zq2(f:FuncId):Tryz.prog.goes f=false:=by
 have h:=zsT;have key:∀g:Nat,(Tryz.prog.funcs[g]?).any Func.goes=false:=fun g=>by
  cases hg:Tryz.prog.funcs[g]? with
  |none=>rfl
  |some fn=>
   obtain⟨hl,rfl⟩:=gA hg;rw[Array.any_eq_false]at h;simpa using h g hl
 unfold Program.goes;rw[h,Bool.and_false,Bool.or_false];rw[←Bool.not_eq_true];intro hx;obtain⟨g,_,hg⟩:=by simpa using hx
 have:=key g;simp_all
theorem zpM(c:OpenClaim)(hs:c.start=.entering):false=c.goesBy Tryz.prog:=by
 unfold OpenClaim.goesBy Program.goesAt Program.goesFrom;rw[hs];cases Tryz.prog.funcNamed c.func with
 |none=>rfl
 |some f=>simp[zq2 f]
end Go.Proofs.YtbkgnekfigknhaaGreatDoor
end

section
namespace Go.Mor
open Go
theorem zc1{c:Cls}(h:ze c=true){f:Fld}(hf:f∈c.fs):zg f.t=true:=by
 have:=((z0Y c).1 h).2.2.1 f hf;unfold zF at this
 grind
theorem zl1{c:Cls}(h:ze c=true)(l:List Int){many:Int}(hm:many≤100000):FitC c (z2j c.fs l many):=
 ⟨h,z4B ..,fun i f v hf hv=>by
  rw[z8K hf]at hv;cases hv;exact(zbx f.t _ many (zc1 h (gM hf)) hm).1⟩
theorem zn3{c:Cls}{vals:List V}{h:Chg}(hf:FitC c vals)(ho:okV c h=true){j:Nat}{f:Fld}{v:V}(hj:c.fs[j]?=some f)(hv:vals[j]?=some v)(hk:h.k=1∨h.f≠f.n∨h.k=3∨h.k=6):
  ∃(j':Nat) (g:Fld),(z07 c h)[j']?=some g∧g.n=(if h.k=3∧h.f=f.n then h.n else f.n)∧(z0K c h vals)[j']?=some v:=by
 by_cases h1:h.k=1
 ·refine⟨j,f,?_,by simp[h1],?_⟩
  ·unfold z07;have:=(gJ hj).1;simp only[h1,if_true];rw[List.getElem?_append_left this,hj]
  ·unfold z0K;have:=(gJ hv).1;simp only[h1,if_true];rw[List.getElem?_append_left this,hv]
 by_cases hn:h.f=f.n
 ·have hk':h.k=3∨h.k=6:=by grind
  have hm:z0G c h=true:=by
   unfold okV at ho;simp only[Bool.and_eq_true]at ho;exact ho.2
  have hh:z0F c.fs h.f=true:=by
   cases hv:z0F c.fs h.f
   ·simp[z0G,h1,hv]at hm
   ·rfl
  obtain⟨f',hf',hn'⟩:=has_at hh;have hd:=((z0Y c).1 hf.r).2.2.2;have hi:atV c.fs h.f=j:=hd _ _ f' f hf' hj (by rw[hn',hn]);have hjl:=(gJ hj).1;have key:∀(x:Fld),(z0W c.fs j [x])[j]?=some x:=fun x=>by
   rw[z2X (by omega)];simp
  rcases hk' with hk'|hk'
  ·refine⟨j,⟨h.n,f.t,f.ix⟩,?_,by simp[hk',hn],?_⟩
   ·unfold z07;simp only[hk',hi,List.getD_eq_getElem?_getD,hj,Option.getD_some];simpa using key ⟨h.n,f.t,f.ix⟩
   ·unfold z0K;simp[hk',hv]
  ·refine⟨j,⟨f.n,f.t, !f.ix⟩,?_,by simp[hk'],?_⟩
   ·unfold z07;simp only[hk',hi,List.getD_eq_getElem?_getD,hj,Option.getD_some];simpa using key ⟨f.n,f.t, !f.ix⟩
   ·unfold z0K;simp[hk',hv]
 ·obtain⟨i,gs,ws,hp,_⟩:=zfQ hf ho;obtain⟨j',e1,e2⟩:=hp.keeps hf hj hv (fun e=>hn e.symm);exact⟨j',f,e1,by simp[hn],e2⟩
def Fol(l:Ln)(v0:List V)(x:V)(i:Nat)(nm:zB):Prop:=∃(j:Nat) (g:Fld),(zq l i).1.fs[j]?=some g∧g.n=nm∧(z3T l 0 v0 i)[j]?=some x
theorem zn2{l:Ln}(hr:z09 l=true){v0:List V}(hf:FitC (zq l 0).1 v0){i:Nat}{h:Chg}(hx:l.hs[i]?=some h){nm:zB}{x:V}(H:Fol l v0 x i nm)(hk:h.k=1∨h.f≠nm∨h.k=3∨h.k=6):
  Fol l v0 x (i+1) (if h.k=3∧h.f=nm then h.n else nm):=by
 obtain⟨j,g,h1,rfl,h2⟩:=H;have hi:=(gJ hx).1;have hfi:FitC (zq l i).1 (z3T l 0 v0 i):=by
  have:=z7w hr hf i (by omega)
  rwa [Nat.zero_add]at this
 obtain⟨s1,s2,_⟩:=zax hr hx hfi;obtain⟨j',g',e1,e2,e3⟩:=zn3 hfi s1 h1 h2 hk;have hv:(zq l (i+1)).1.fs=z07 (zq l i).1 h:=by
  have hn:=z34 hx;rw[z3v h (z0Z hr (by omega))]at hn;rw[hn];unfold z0D;rw[hfi.r,s1];rfl
 have hc:z3T l 0 v0 (i+1)=z0K (zq l i).1 h (z3T l 0 v0 i):=by
  show z0K (zq l (0+i)).1 (l.hs.getD (0+i) ch0) _=_;rw[Nat.zero_add,List.getD_eq_getElem?_getD,hx];rfl
 exact⟨j',g',by rw[hv];exact e1,e2,by rw[hc];exact e3⟩
end Go.Mor
end
