/- Merged texts: Zo3 Zo4 Zu3 Zu4. No statement of the program is proved here. -/
import Derived.Test.YtbkgnekfigknhaaGreatDoorR33
set_option linter.unusedSimpArgs false
set_option linter.unusedVariables false
set_option maxRecDepth 100000
set_option maxHeartbeats 8000000
section
namespace Go.Proofs.YtbkgnekfigknhaaGreatDoor
open Go Go.RowKit Go.Mor Go.Sh Go.Sh.Cd1 Go.Sh.Cd7
theorem znN(g:Sh.Glob)(c:Cls)(e:V)(r:Ty×Bool)(t:Ty)(HK:zC g 209 [tv e,clT c] [] (.tuple [tyT t,B r.2]) [])(ht:r.2=true→t=r.1):zC g 236 [tv e,clT c] [] (I (zS r)) []:=by
 obtain⟨⟨k,o⟩,b⟩:=r;unfold clT tyT B at*;cases b with
 |false=>
  rw[show zS (⟨k,o⟩,false)=0 by unfold zS;simp];refine z0w tf_154 ?_;exact zd HK
 |true=>
  obtain rfl:=ht rfl;refine za tf_154 ?_;by_cases h1:k=1
  ·rw[show zS (⟨k,o⟩,true)=k by unfold zS;simp[h1]];simp only[vW,seval];refine z7 HK ?_;simp only[vW,seval,h1]
  by_cases h2:k=2
  ·rw[show zS (⟨k,o⟩,true)=k by unfold zS;simp[h2]];simp only[vW,seval];refine z7 HK ?_;simp only[vW,seval,h1,h2]
  rw[show zS (⟨k,o⟩,true)=0 by unfold zS;simp[h1,h2]];simp only[vW,seval];refine z7 HK ?_;simp only[vW,seval,h1,h2]
def z2z(s:zB):zB:=if s=z4C∨s=z4D then [116] else if s=z1E∨s=z13∨s=z1D then [116,110] else if s=z2l then [116,116] else if s=z1l then [110] else if s=z4X∨s=z5D then [110,110] else []
theorem zov(g:Sh.Glob)(s:zB):zC g 261 [S (str s)] [] (S (str (z2z s))) []:=by
 refine za tf_155 ?_;have q0:=bS [108,101,110];have q1:=bS [116,101,120,116];have q2:=bS [110,117,109];have q3:=bS [108,101,102,116];have q4:=bS [114,105,103,104,116];have q5:=bS [102,114,111,109];have q6:=bS [102,105,110,100];have q7:=bS [109,105,110];have q8:=bS [109,97,120];have q9:=bS [116];have q10:=bS [116,110];have q11:=bS [116,116];have q12:=bS [110];have q13:=bS [110,110];have q14:=bS [];have hb:∀t:zB,(s==t)=decide (s=t):=fun t=>by rw[Bool.eq_iff_iff];simp
 unfold z2z z4C z1l z4D z1E z13 z1D z2l z4X z5D;simp only[vW,seval,q0,q1,q2,q3,q4,q5,q6,q7,q8,q9,q10,q11,q12,q13,q14,hb]
 repeat' (first|(apply And.intro)|(intro _))
 all_goals simp_all
def z3Z(w:zB):List Int:=w.map fun b=>if b=110 then 1 else 2
def z4x(s:zB):Int:=if s=z1E∨s=z13∨s=z1D∨s=z1l then 2 else 1
theorem zit{s:zB}(h:0<zm s)(hi:s≠nIf):z6s s=zK (z4x s) (z3Z (z2z s))∧((z2z s).length:Int)=zm s∧(∀b∈z2z s,b=110∨b=116)∧0<(z2z s).length:=by
 rcases z3b h with rfl|rfl|rfl|rfl|rfl|rfl|rfl|rfl|rfl|rfl
 all_goals first|exact absurd rfl hi|exact⟨by funext ps;simp[z6s,z2z,z4x,z3Z,z4C,z1l,z4D,z1E,z13,z1D,z2l,z4X,z5D,nIf],by decide,by decide,by decide⟩
def zey(g:Sh.Glob)(c:Cls)(e:V)(R:Ty×Bool):Prop:=∃t,zC g 237 [tv e,clT c] [] (.tuple [tyT t,B R.2]) []∧(R.2=true→t=R.1)
theorem zfV(g:Sh.Glob)(c:Cls)(n:Int)(a b d:V)(T:V→Ty×Bool)(hz:∀y∈[a,b,d],(T y).2=true→((T y).1.k=1∨(T y).1.k=2)→(T y).1.o=0)
  (HP:∀y∈[a,b,d],zC g 236 [tv y,clT c] [] (I (zS (T y))) []):zey g c (.mk 6 n nIf [a,b,d]) (z0y T [a,b,d] z2c):=by
 obtain⟨h1,h2⟩:=zeO T a b d hz;have HA:=HP a (by simp);have HB:=HP b (by simp);have HD:=HP d (by simp);refine⟨⟨zS (T b),0⟩,?_,fun h=>(h2 h).symm⟩;have hR:(z0y T [a,b,d] z2c).2=(decide (zS (T a)=1)&&(decide (0<zS (T b))&&decide (zS (T b)=zS (T d)))):=by rw[Bool.eq_iff_iff,h1];simp
 rw[hR];generalize zS (T a)=pa at*;generalize zS (T b)=pb at*;generalize zS (T d)=pd at*;have qi:(⟨#[105,102]⟩:ByteArray)=str nIf:=rfl;unfold clT tyT B at*;refine za tf_152 ?_;by_cases x1:pa=1<;>by_cases x2:0<pb<;>by_cases x3:pb=pd
 all_goals(
  simp only[vW,seval,qi];refine z8 HA ?_;refine z8 HB ?_;refine z7 HD ?_;simp only[vW,seval,x1,x2,x3];try(repeat' (first|(apply And.intro)|(intro _)))
  all_goals simp_all)
theorem zgZ(g:Sh.Glob)(c:Cls)(e:V)(hs:0<zm e.s)(hi:e.s≠nIf)(hl:(e.l.length:Int)=zm e.s)(T:V→Ty×Bool)
  (HP:∀y∈e.l,zC g 236 [tv y,clT c] [] (I (zS (T y))) []):zey g c e (z0y T e.l (z6s e.s)):=by
 obtain⟨k,n,s,l⟩:=e;simp only[Vs,Vl]at*;obtain⟨hk,hw,hb,hp⟩:=zit hs hi;have ht3:=z62 s;rw[hk];have hlen:l.length=(z3Z (z2z s)).length:=by unfold z3Z;rw[List.length_map];omega
 have hks:∀i∈z3Z (z2z s),i=1∨i=2:=fun i hi=>by
  unfold z3Z at hi;obtain⟨b,_,rfl⟩:=List.mem_map.1 hi;split<;>omega
 obtain⟨h1,h2⟩:=z83 T (z4x s) l (z3Z (z2z s)) hlen hks;generalize z0y T l (zK (z4x s) (z3Z (z2z s)))=R at*;have HW:=zov g s;have hif:(s==nIf)=false:=by simpa using hi
 have qi:(⟨#[105,102]⟩:ByteArray)=str nIf:=rfl;have e0:=bS [];have hgood:∀(j:Nat) b,(z2z s)[j]?=some b→(z3Z (z2z s))[j]?=some (if b=110 then 1 else 2):=fun j b hj=>by unfold z3Z;rw[List.getElem?_map,hj];rfl
 have hko:z4x s=if s=z1E∨s=z13∨s=z1D∨s=z1l then 2 else 1:=rfl
 have hw0:(z2z s==[])=false:=by
  cases h:z2z s with
  |nil=>rw[h]at hp;simp at hp
  |cons b r=>rfl
 generalize z2z s=w at*;refine⟨if R.2=true then⟨z4x s,0⟩ else⟨0,0⟩,?_,fun h=>by rw[if_pos h,h2 h]⟩;have d9:¬(w.length:Int)=0:=by omega
 have dl:(w.length:Int)=(l.length:Int):=by omega
 unfold clT tyT B at*;refine za tf_152 ?_;simp only[vW,seval,qi,hif];refine z7 HW ?_;simp only[vW,seval,e0,hw0,dl];refine zp (σ:={i:Nat // i≤w.length∧∀(j:Nat) y b,j<i→l[j]?=some y→w[j]?=some b→zS (T y)=(if b=110 then 1 else 2)}) (fun i=>⟨[(2,.ptr 2 0),(3,.ptr 3 0),(4,.ptr 4 0),(9,S (str w)),(10,I (i.1:Int))],[(2,[I k,I n,S (str s),.pv (.sl 4 (V.rows l))]),(3,[S (str c.n),.pv (.sl 4 (flR c.fs))]),(4,[I 0,I 0])],[],[]⟩) (fun i=>w.length-i.1) ⟨0,Nat.zero_le _,fun j y b hj=>by omega⟩ ?_ ?_
 ·exact lwA
 rintro⟨i,hi,hno⟩;by_cases hlt:i<w.length
 ·have d1:(i:Int)<(w.length:Int):=by omega
  obtain⟨b,eb⟩:∃b,w[i]?=some b:=⟨_,gE hlt⟩
  obtain⟨y,ey⟩:∃y,l[i]?=some y:=⟨_,gE (by omega)⟩
  have HY:=HP y (gM ey);have w1:=wS i;by_cases hm:zS (T y)=(if b=110 then 1 else 2)
  ·have hno2:∀(j:Nat) y b,j<i+1→l[j]?=some y→w[j]?=some b→zS (T y)=(if b=110 then 1 else 2):=fun j z b' hj hz hb'=>by
    by_cases hji:j=i
    ·subst hji;rw[ey]at hz;rw[eb]at hb';cases hz;cases hb';exact hm
    ·exact hno j z b' (by omega) hz hb'
   rcases hb b (gM eb)with rfl|rfl
   ·rw[if_pos rfl]at hm;rw[hm]at HY;simp only[vW,seval,d1,ey];refine z7 HY ?_;simp only[vW,seval,eb,w1];refine zc ⟨i+1,hlt,hno2⟩ (by show w.length-(i+1)<w.length-i;omega) ?_;exact lwA
   ·rw[if_neg (by decide)]at hm;rw[hm]at HY;simp only[vW,seval,d1,ey];refine z7 HY ?_;simp only[vW,seval,eb,w1];refine zc ⟨i+1,hlt,hno2⟩ (by show w.length-(i+1)<w.length-i;omega) ?_;exact lwA
  ·have hf:R.2=false:=by
    cases hR:R.2 with
    |false=>rfl
    |true=>exact absurd (h1.1 hR i y _ ey (hgood i b eb)) hm
   rw[hf];rw[if_neg (by simp)];rcases hb b (gM eb)with rfl|rfl
   ·rw[if_pos rfl]at hm;simp only[vW,seval,d1,ey];refine z7 HY ?_;simp only[vW,seval,eb,w1,hm]
   ·rw[if_neg (by decide)]at hm;simp only[vW,seval,d1,ey];refine z7 HY ?_;simp only[vW,seval,eb,w1,hm]
 ·have d1:¬(i:Int)<(w.length:Int):=by omega
  have ht:R.2=true:=h1.2 fun j y i' hj hi'=>by
   have hjl:j<w.length:=by have:=(gJ hj).1;omega
   have hb':=gE hjl;rw[hgood j _ hb']at hi';cases hi';exact hno j y _ (by omega) hj hb'
  rw[ht];rw[if_pos rfl];have q1:(⟨#[108,101,102,116]⟩:ByteArray)=str z1E:=rfl;have q2:(⟨#[114,105,103,104,116]⟩:ByteArray)=str z13:=rfl;have q3:(⟨#[102,114,111,109]⟩:ByteArray)=str z1D:=rfl;have q4:(⟨#[116,101,120,116]⟩:ByteArray)=str z1l:=rfl;by_cases s1:s=z1E
  ·have b1:(s==z1E)=true:=by simpa using s1
   rw[show z4x s=2 by rw[hko,if_pos (.inl s1)]];simp only[vW,seval,d1,q1,q2,q3,q4,b1]
  have b1:(s==z1E)=false:=by simpa using s1
  by_cases s2:s=z13
  ·have b2:(s==z13)=true:=by simpa using s2
   rw[show z4x s=2 by rw[hko,if_pos (.inr (.inl s2))]];simp only[vW,seval,d1,q1,q2,q3,q4,b1,b2]
  have b2:(s==z13)=false:=by simpa using s2
  by_cases s3:s=z1D
  ·have b3:(s==z1D)=true:=by simpa using s3
   rw[show z4x s=2 by rw[hko,if_pos (.inr (.inr (.inl s3)))]];simp only[vW,seval,d1,q1,q2,q3,q4,b1,b2,b3]
  have b3:(s==z1D)=false:=by simpa using s3
  by_cases s4:s=z1l
  ·have b4:(s==z1l)=true:=by simpa using s4
   rw[show z4x s=2 by rw[hko,if_pos (.inr (.inr (.inr s4)))]];simp only[vW,seval,d1,q1,q2,q3,q4,b1,b2,b3,b4]
  have b4:(s==z1l)=false:=by simpa using s4
  rw[show z4x s=1 by rw[hko,if_neg (by simp[s1,s2,s3,s4])]];simp only[vW,seval,d1,q1,q2,q3,q4,b1,b2,b3,b4]
theorem zgA{s:zB}(h:0<zf s):s=[38]∨(s=[43]∨s=[45]∨s=[42]∨s=[47]∨s=[37])∨(s=[61]∨s=[60,62]∨s=[60]∨s=[60,61]∨s=[62]∨s=[62,61]):=by
 unfold zf at h
 repeat' (split at h)
 all_goals first|(simp_all;done)|(rename_i h1;rcases h1 with h1|h1|h1|h1|h1|h1<;>simp[h1];done)|(rename_i h1;rcases h1 with h1|h1|h1<;>simp[h1];done)|(rename_i h1;rcases h1 with h1|h1<;>simp[h1];done)|omega
theorem zi6{T:V→Int}{x y:V}{i:Int}:(∀(j:Nat) z k,[x,y][j]?=some z→[i,i][j]?=some k→T z=k) ↔ T x=i∧T y=i:=by
 refine⟨fun h=>⟨h 0 x i rfl rfl,h 1 y i rfl rfl⟩,fun h j z k hz hk=> ?_⟩
 match j with
 |0=>cases hz;cases hk;exact h.1
 |1=>cases hz;cases hk;exact h.2
 |j+2=>simp at hz
theorem sgB:((([61]:zB)==[38])=false)∧((([61]:zB)==[61])=true)∧((([60,62]:zB)==[38])=false)∧((([60,62]:zB)==[61])=false)∧((([60,62]:zB)==[60,62])=true)∧((([60]:zB)==[38])=false)∧((([60]:zB)==[61])=false)∧((([60]:zB)==[60,62])=false)∧((([60]:zB)==[60])=true)∧((([60,61]:zB)==[38])=false)∧((([60,61]:zB)==[61])=false)∧((([60,61]:zB)==[60,62])=false)∧((([60,61]:zB)==[60])=false)∧((([60,61]:zB)==[60,61])=true)∧((([62]:zB)==[38])=false)∧((([62]:zB)==[61])=false)∧((([62]:zB)==[60,62])=false)∧((([62]:zB)==[60])=false)∧((([62]:zB)==[60,61])=false)∧((([62]:zB)==[62])=true)∧((([62,61]:zB)==[38])=false)∧((([62,61]:zB)==[61])=false)∧((([62,61]:zB)==[60,62])=false)∧((([62,61]:zB)==[60])=false)∧((([62,61]:zB)==[60,61])=false)∧((([62,61]:zB)==[62])=false)∧((([62,61]:zB)==[62,61])=true):=by decide
def zba(g:Sh.Glob)(c:Cls)(d:Nat)(e:V):Prop:=∃t,zC g 209 [tv e,clT c] [] (.tuple [tyT t,B (zl c.fs d e).2]) []∧((zl c.fs d e).2=true→t=(zl c.fs d e).1)
theorem ziU(g:Sh.Glob)(c:Cls)(hc:c.fs.length≤4611686018427387904)(hr:∀f∈c.fs,zg f.t=true)(d:Nat)(IH:∀e,okE d e=true→zba g c d e):∀e,okE (d+1) e=true→zba g c (d+1) e:=by
  intro e he
  obtain⟨hn,hk⟩:=z2G he
  have HP:∀y∈e.l,zC g 236 [tv y,clT c] [] (I (zS (zl c.fs d y))) []:=fun y hy=>by
    obtain⟨t,h1,h2⟩:=IH y (hk y hy)
    exact znN g c y _ t h1 h2
  have hz:∀y∈e.l,(zl c.fs d y).2=true→((zl c.fs d y).1.k=1∨(zl c.fs d y).1.k=2)→(zl c.fs d y).1.o=0:=fun y hy=>zoq hr (hk y hy)
  unfold zba
  rw[zjY]
  obtain⟨k,n,s,l⟩:=e
  simp only[Vk,Vn,Vs,Vl]at*
  rcases z23 hn with rfl|rfl|rfl|rfl|rfl|rfl
  · obtain⟨_,_,hs,hl⟩:=z6C hn rfl
    simp only[Vs,Vl]at hs hl
    subst hs;subst hl
    refine⟨⟨1,0⟩,?_,fun _=>rfl⟩
    rw[show(z0y (zl c.fs d) [] (z2m c.fs (.mk 1 n [] []))).2=true from rfl]
    unfold clT tyT B
    refine za tf_153 ?_
    simp only[vW,seval]
  · obtain⟨_,_,hl⟩:=z5g hn rfl
    simp only[Vl]at hl
    subst hl
    refine⟨⟨2,0⟩,?_,fun _=>rfl⟩
    rw[show(z0y (zl c.fs d) [] (z2m c.fs (.mk 2 n s []))).2=true from rfl]
    unfold clT tyT B
    refine za tf_153 ?_
    simp only[vW,seval]
  · obtain⟨_,_,hl⟩:=z7P hn rfl
    simp only[Vl]at hl
    subst hl
    have HA:=z41 g c s hc
    have hR:z0y (zl c.fs d) [] (z2m c.fs (.mk 3 n s []))=if fieldAt c.fs s<0 then(ty0,false)else((c.fs.getD (fieldAt c.fs s).toNat ⟨[],ty0,false⟩).t,true):=rfl
    rw[hR]
    unfold z1L at HA
    by_cases hf:fieldAt c.fs s<0
    · rw[if_pos hf]at HA ⊢
      refine⟨⟨0,0⟩,?_,fun h=>by cases h⟩
      unfold clT tyT B at*
      refine z0w tf_153 ?_
      exact zd HA
    · rw[if_neg hf]at HA ⊢
      obtain⟨q,hq⟩:∃q:Nat,fieldAt c.fs s=q:=⟨(fieldAt c.fs s).toNat,by omega⟩
      obtain⟨f,hf1,_⟩:=z2R _ _ q hq
      rw[hq]at HA
      refine⟨f.t,?_,fun _=>by rw[hq,Int.toNat_natCast,z4T hf1]⟩
      unfold clT tyT B at*
      refine z0w tf_153 ?_
      refine z7 HA ?_
      simp only[vW,seval,clV,hf1]
  · obtain⟨_,hb,x,y,hl⟩:=z3M hn rfl
    simp only[Vs,Vl]at hb hl
    subst hl
    have HX:=HP x (by simp)
    have HY:=HP y (by simp)
    have q0:=bS [38]
    have q1:=bS [61]
    have q2:=bS [60,62]
    have q3:=bS [60]
    have q4:=bS [60,61]
    have q5:=bS [62]
    have q6:=bS [62,61]
    rcases zgA hb with hs|hs|hs
    · obtain⟨h1,h2⟩:=z83 (zl c.fs d) 2 [x,y] [2,2] rfl (by simp)
      rw[show z0y (zl c.fs d) [x,y] (z2m c.fs (.mk 4 n s [x,y]))=z0y (zl c.fs d) [x,y] (zK 2 [2,2]) by subst hs;rfl]
      refine⟨⟨2,0⟩,?_,fun h=>(h2 h).symm⟩
      have hR:(z0y (zl c.fs d) [x,y] (zK 2 [2,2])).2=(decide (zS (zl c.fs d x)=2)&&decide (zS (zl c.fs d y)=2)):=by
        rw[Bool.eq_iff_iff,h1]
        simp only[Bool.and_eq_true,decide_eq_true_eq]
        exact zi6 (T:=fun z=>zS (zl c.fs d z))
      rw[hR]
      generalize zS (zl c.fs d x)=px at*
      generalize zS (zl c.fs d y)=py at*
      subst hs
      unfold clT tyT B at*
      refine z0w tf_153 ?_
      refine z8 HX ?_
      refine z7 HY ?_
      simp only[vW,seval,q0,q1,q2,q3,q4,q5,q6]
      try(repeat' (first|(apply And.intro)|(intro _)))
      all_goals simp_all
    · obtain⟨h1,h2⟩:=z83 (zl c.fs d) 1 [x,y] [1,1] rfl (by simp)
      rw[show z0y (zl c.fs d) [x,y] (z2m c.fs (.mk 4 n s [x,y]))=z0y (zl c.fs d) [x,y] (zK 1 [1,1]) by rcases hs with rfl|rfl|rfl|rfl|rfl<;>rfl]
      refine⟨⟨1,0⟩,?_,fun h=>(h2 h).symm⟩
      have hR:(z0y (zl c.fs d) [x,y] (zK 1 [1,1])).2=(decide (zS (zl c.fs d x)=1)&&decide (zS (zl c.fs d y)=1)):=by
        rw[Bool.eq_iff_iff,h1]
        simp only[Bool.and_eq_true,decide_eq_true_eq]
        exact zi6 (T:=fun z=>zS (zl c.fs d z))
      rw[hR]
      generalize zS (zl c.fs d x)=px at*
      generalize zS (zl c.fs d y)=py at*
      unfold clT tyT B at*
      refine za tf_153 ?_
      rcases hs with rfl|rfl|rfl|rfl|rfl
      all_goals(
        simp only[vW,seval]
        refine z8 HX ?_
        refine z7 HY ?_
        simp only[vW,seval,q0,q1,q2,q3,q4,q5,q6]
        try(repeat' (first|(apply And.intro)|(intro _)))
        all_goals simp_all)
    · obtain⟨h1,h2⟩:=zk8 (zl c.fs d) x y hz (z2m c.fs (.mk 4 n s [x,y])) (fun p q=>by rcases hs with rfl|rfl|rfl|rfl|rfl|rfl<;>rfl)
      refine⟨⟨1,0⟩,?_,fun h=>(h2 h).symm⟩
      have hR:(z0y (zl c.fs d) [x,y] (z2m c.fs (.mk 4 n s [x,y]))).2=(decide (0<zS (zl c.fs d x))&&decide (zS (zl c.fs d x)=zS (zl c.fs d y))):=by rw[Bool.eq_iff_iff,h1];simp
      rw[hR]
      generalize zS (zl c.fs d x)=px at*
      generalize zS (zl c.fs d y)=py at*
      unfold clT tyT B at*
      refine za tf_153 ?_
      by_cases a1:0<px
      · by_cases a2:px=py
        · subst a2
          rcases hs with rfl|rfl|rfl|rfl|rfl|rfl
          all_goals(
            simp only[vW,seval]
            refine z8 HX ?_
            refine z7 HY ?_
            simp only[vW,seval,q0,q1,q2,q3,q4,q5,q6,a1,sgB]
            try rfl)
        · rcases hs with rfl|rfl|rfl|rfl|rfl|rfl
          all_goals(
            simp only[vW,seval]
            refine z8 HX ?_
            refine z7 HY ?_
            simp only[vW,seval,q0,q1,q2,q3,q4,q5,q6,a1,a2,sgB]
            try rfl)
      · rcases hs with rfl|rfl|rfl|rfl|rfl|rfl
        all_goals(
          simp only[vW,seval]
          refine z8 HX ?_
          refine z7 HY ?_
          simp only[vW,seval,q0,q1,q2,q3,q4,q5,q6,a1,sgB]
          try rfl)
  · obtain⟨_,hs,x,hl⟩:=z5h hn rfl
    simp only[Vs,Vl]at hs hl
    subst hs;subst hl
    have HX:=HP x (by simp)
    obtain⟨h1,h2⟩:=z83 (zl c.fs d) 1 [x] [1] rfl (by simp)
    refine⟨⟨1,0⟩,?_,fun h=>(h2 h).symm⟩
    have hR:(z0y (zl c.fs d) [x] (z2m c.fs (.mk 5 n [45] [x]))).2=decide (zS (zl c.fs d x)=1):=by
      rw[Bool.eq_iff_iff,decide_eq_true_eq]
      refine Iff.trans h1 ⟨fun h=>h 0 x 1 rfl rfl,fun h j z i hz hi=> ?_⟩
      cases j with
      |zero=>cases hz;cases hi;exact h
      |succ j=>simp at hz
    rw[hR]
    generalize zS (zl c.fs d x)=px at*
    unfold clT tyT B at*
    refine z0w tf_153 ?_
    exact zd HX
  · obtain⟨_,hs,hl⟩:=z4E hn rfl
    simp only[Vs,Vl]at hs hl
    have HC:zey g c (.mk 6 n s l) (z0y (zl c.fs d) l (z6s s)):=by
      by_cases hi:s=nIf
      · subst hi
        have h3 : l.length = 3 := by have : zm nIf = 3 := by decide
                                     omega
        obtain⟨a,b,e,rfl⟩:∃a b e,l=[a,b,e]:=by
          match l,h3 with
          |[a,b,e],_=>exact⟨a,b,e,rfl⟩
        exact zfV g c n a b e (zl c.fs d) hz HP
      · exact zgZ g c (.mk 6 n s l) hs hi hl (zl c.fs d) HP
    obtain⟨t,h1,h2⟩:=HC
    refine⟨t,?_,h2⟩
    rw[show(z0y (zl c.fs d) l (z2m c.fs (.mk 6 n s l)))=z0y (zl c.fs d) l (z6s s) from rfl]
    generalize z0y (zl c.fs d) l (z6s s)=R at*
    unfold clT tyT B at*
    refine z0w tf_153 ?_
    exact zd h1
theorem zfl(g:Sh.Glob)(c:Cls)(hc:c.fs.length≤4611686018427387904)(hr:∀f∈c.fs,zg f.t=true):∀(d:Nat) (e:V),okE d e=true→zba g c d e
 |0,e,h=>by simp[okE]at h
 |d+1,e,h=>ziU g c hc hr d (zfl g c hc hr d) e h
theorem zan(g:Sh.Glob)(c:Cls)(e:V)(hc:ClsOk c)(he:ESmall e):zC g 173 [tv e,clT c] [] (.tuple [tyT (z1Y c e).1,I (z1Y c e).2]) []:=by
 have HE:=z6i g e he;have HC:=z6h g c hc;obtain⟨R,hR⟩:∃R,z1Y c e=R:=⟨_,rfl⟩
 rw[hR];unfold z1Y at hR;refine za tf_151 ?_;unfold clT tyT B at*;cases h1:z0b e
 ·rw[h1]at hR HE;simp only[Bool.false_eq_true,if_false]at hR;subst hR;simp only[vW,seval];refine z8 HE ?_;rfl
 rw[h1]at hR HE;cases h2:ze c
 ·rw[h2]at hR HC;simp only[Bool.false_eq_true,if_false,if_true]at hR;subst hR;simp only[vW,seval];refine z8 HE ?_;refine z8 HC ?_;rfl
 rw[h2]at hR HC;have hr:=(z0Y c).1 h2;have hd:okE 8 e=true:=by unfold z0b at h1;simp only[Bool.and_eq_true]at h1;exact h1.1
 obtain⟨t,HK,ht⟩:=zfl g c hc.len (fun f hf=>by have:=hr.2.2.1 f hf;unfold zF at this;simp only[Bool.and_eq_true]at this;exact this.1.2) 8 e hd;unfold clT tyT B at HK;simp only[if_true]at hR;cases h3:(zl c.fs 8 e).2
 ·rw[h3]at hR HK;simp only[Bool.false_eq_true,if_false]at hR;subst hR;simp only[vW,seval];refine z8 HE ?_;refine z8 HC ?_;refine z8 HK ?_;rfl
 ·rw[h3]at hR HK;simp only[if_true]at hR;obtain rfl:=ht h3;subst hR;simp only[vW,seval];refine z8 HE ?_;refine z8 HC ?_;exact zd HK
theorem zpU:∀(f:Nat) (l:zB) (a:Nat) (acc L:List Pc),(∀q∈acc,PcOk q)→lexG f l a acc=some (.ok L)→∀q∈L,PcOk q:=by
 intro f
 induction f with
 |zero=>intro l a acc L _ h;cases h
 |succ f ih=>
  intro l a acc L ha h;cases l with
  |nil=>rw[lexG]at h;cases h;exact ha
  |cons b r=>
   rw[lexG]at h;split at h
   ·exact ih _ _ _ _ ha h
   ·split at h
    ·cases h
    ·rename_i q z hr;refine ih _ _ _ _ (fun y hy=> ?_) h;rcases List.mem_append.1 hy with hy|hy
     ·exact ha y hy
     ·obtain rfl:=List.mem_singleton.1 hy;exact zfT hr
theorem zak(g:Sh.Glob)(s:zB){f:Nat}{r:V×Int×Int}(h:z14 f s=some r):
  (r.2.2=0→zC g 172 [S (str s)] [] (.tuple [tv r.1,I 0,I 0]) [])∧(r.2.2≠0→∃a c,c≠0∧zC g 172 [S (str s)] [] (z6S a c) []):=by
 unfold z14 at h;by_cases hl:200<s.length
 ·rw[if_pos hl]at h;cases h;refine⟨fun h=>by simp at h,fun _=>⟨200,50,by decide,?_⟩⟩;have d1:(200:Int)<(s.length:Int):=by omega
  have e0:=bS [];refine za tf_143 ?_;unfold z6S zM;simp only[vW,seval,d1]
 rw[if_neg hl]at h;cases hX:lexG (s.length+1) s 0 []with
 |none=>rw[hX]at h;cases h
 |some X=>
  rw[hX]at h;cases X with
  |bad a=>
   cases h;exact⟨fun h=>by simp at h,fun _=>⟨a,50,by decide,z6g g s (by omega) _ _ hX _ (fun a' h'=>by cases h';rfl) (fun L h'=>by cases h')⟩⟩
  |ok L=>
   dsimp only at h
   have hL:=zpU _ _ _ _ _ (by simp) hX;have hsm:=(z6W (z3L _ _ _ _ _ (by simp) hX).1 s.length f).1;cases hp:pE L s.length f 1 0 with
   |none=>rw[hp]at h;cases h
   |some rs=>
    rw[hp]at h;have hag:=(zk5 (sz:=s.length) hL f).1 1 0 rs hp;cases rs with
    |bad a p=>
     cases h;obtain⟨e,q,b,hb,hm⟩:=hag;refine⟨fun h=>by simp at h,fun _=>⟨b,50,by decide,z6g g s (by omega) _ _ hX _ (fun a' h'=>by cases h') (fun L' h'=> ?_)⟩⟩;cases h';exact⟨e,q,b,f+3,hm,fun h=>by omega,by unfold zf0;rw[if_pos hb]⟩
    |ok e p=>
     have hm:mE L s.length (f+3) 1 0 (-1)=some (e,p, -1):=hag;have he:=hsm _ _ _ _ hp
     dsimp only at h
     have run:zC g 172 [S (str s)] [] (zf0 L s.length e p (-1)) []:=z6g g s (by omega) _ _ hX _ (fun a' h'=>by cases h') (fun L' h'=>by
      cases h';exact⟨e,p, -1,f+3,hm,fun _=>he,rfl⟩)
     unfold zf0 at run;rw[if_neg (by omega)]at run;by_cases hlt:p<L.length
     ·rw[if_pos hlt]at h run;cases h;exact⟨fun h=>by simp at h,fun _=>⟨_,50,by decide,run⟩⟩
     ·rw[if_neg hlt]at h run;by_cases hr:z0b e=true
      ·rw[if_pos hr]at h run;cases h;exact⟨fun _=>run,fun h=>absurd rfl h⟩
      ·rw[if_neg hr]at h run;cases h;exact⟨fun h=>by simp at h,fun _=>⟨0,51,by decide,run⟩⟩
def RTx(s:zB):Prop:=(∃r,z14 1000 s=some r)∧(s≠[]→ESmall (rdV s).1)
theorem z91(g:Sh.Glob)(s:zB)(h:RTx s):zC g 171 [S (str s)] [] (B (s==[]||decide ((rdV s).2.2=0))) []:=by
 obtain⟨⟨r,hr⟩,_⟩:=h;have hrd:rdV s=r:=by unfold rdV;rw[hr];rfl
 rw[hrd];obtain⟨h1,h2⟩:=zak g s hr;have e0:=bS [];refine za tf_161 ?_;unfold B;by_cases hz:r.2.2=0
 ·have HP:=h1 hz;cases hs:(s==[])
  ·simp only[vW,seval];refine z7 HP ?_;simp only[vW,seval,e0,hs,hz];try rfl
  ·simp only[vW,seval];refine z7 HP ?_;simp only[vW,seval,e0,hs,hz];try rfl
 ·obtain⟨a,c,hc,HP⟩:=h2 hz;unfold z6S zM at HP;cases hs:(s==[])
  ·simp only[vW,seval];refine z7 HP ?_;simp only[vW,seval,e0,hs,hz,hc];try rfl
  ·simp only[vW,seval];refine z7 HP ?_;simp only[vW,seval,e0,hs,hz,hc];try rfl
theorem zm3(c:Cls):z1Y c V.nil=(ty0,50):=rfl
theorem zal(g:Sh.Glob)(s:zB)(c:Cls)(t:Ty)(h:RTx s)(hc:ClsOk c):zC g 98 [S (str s),clT c,tyT t] [] (B (zE c s t).is) []:=by
 obtain⟨⟨r,hr⟩,hsm⟩:=h;have hrd:rdV s=r:=by unfold rdV;rw[hr];rfl
 obtain⟨h1,h2⟩:=zak g s hr;have e0:=bS [];unfold B;by_cases hs:s=[]
 ·subst hs;refine za tf_162 ?_;unfold clT tyT;simp only[vW,seval,e0];try rfl
 have hs':(s==[])=false:=by simpa using hs
 unfold zE;rw[if_neg hs,hrd];rw[hrd]at hsm;by_cases hz:r.2.2=0
 ·rw[if_neg (by simpa using hz)];have HP:=h1 hz;have HT:=zan g c r.1 hc (hsm hs);generalize z1Y c r.1=w at*;obtain⟨⟨k,o⟩,z⟩:=w;obtain⟨tk,ot⟩:=t;unfold clT tyT at*
  dsimp only at HT ⊢
  by_cases z0:z=0
  ·cases he:z0i ⟨k,o⟩ ⟨tk,ot⟩
   ·rw[if_neg (by simp)];refine za tf_162 ?_;simp only[vW,seval,e0,hs'];refine z8 HP ?_;refine z7 HT ?_;simp only[vW,seval,z0,z5d,he];try rfl
   ·rw[if_pos ⟨z0,rfl⟩];refine za tf_162 ?_;simp only[vW,seval,e0,hs'];refine z8 HP ?_;refine z7 HT ?_;simp only[vW,seval,z0,z5d,he];try rfl
  ·rw[if_neg (fun h=>z0 h.1)];refine za tf_162 ?_;simp only[vW,seval,e0,hs'];refine z8 HP ?_;refine z7 HT ?_;simp only[vW,seval,z0];try rfl
 ·rw[if_pos hz];obtain⟨a,q,hq,HP⟩:=h2 hz;have HT:=(zan g c V.nil hc z5W).inp (xs:=[nv V.nil,clT c]) rfl (fun j x y hx hy=>by
   match j with
   |0=>simp at hx hy;subst hx;subst hy;exact z1q rfl
   |1=>simp at hx hy;subst hx;subst hy;exact .refl _
   |j+2=>simp at hx)
  rw[zm3]at HT;unfold z6S zM at HP;unfold nv clT tyT at*;refine za tf_162 ?_;simp only[vW,seval,e0,hs'];refine z7 HP ?_;simp only[vW,seval,e0];refine z8 HT ?_;try trivial
theorem zrw(k k':Int)(f n m f' n' m':ByteArray)(t o t' o':Int)(x y x' y':ByteArray):
  z04 Tryz.prog (do eqGuard .neq 51 (.const (.agg #[.int .i64 k,.string f,.string n,.string m,.int .i64 t,.int .i64 o,.string x,.string y])) (.const (.agg #[.int .i64 k',.string f',.string n',.string m',.int .i64 t',.int .i64 o',.string x',.string y'])) (.agg #[.int .i64 k,.string f,.string n,.string m,.int .i64 t,.int .i64 o,.string x,.string y]) (.agg #[.int .i64 k',.string f',.string n',.string m',.int .i64 t',.int .i64 o',.string x',.string y']);binOp .neq 51 (.agg #[.int .i64 k,.string f,.string n,.string m,.int .i64 t,.int .i64 o,.string x,.string y]) (.agg #[.int .i64 k',.string f',.string n',.string m',.int .i64 t',.int .i64 o',.string x',.string y']))=
  some (.pv (.v (.bool (!((k==k')&&((f==f')&&((n==n')&&((m==m')&&(z0i ⟨t,o⟩ ⟨t',o'⟩&&((x==x')&&((y==y')&&true)))))))))),.no):=by
 unfold z04;rw[z01];have hg:zr Tryz.prog (eqGuard .neq 51 (.const (.agg #[.int .i64 k,.string f,.string n,.string m,.int .i64 t,.int .i64 o,.string x,.string y])) (.const (.agg #[.int .i64 k',.string f',.string n',.string m',.int .i64 t',.int .i64 o',.string x',.string y'])) (.agg #[.int .i64 k,.string f,.string n,.string m,.int .i64 t,.int .i64 o,.string x,.string y]) (.agg #[.int .i64 k',.string f',.string n',.string m',.int .i64 t',.int .i64 o',.string x',.string y']))=some ():=by kernel_rfl
 rw[hg,Option.bind_some];have hb:binOp .neq 51 (.agg #[.int .i64 k,.string f,.string n,.string m,.int .i64 t,.int .i64 o,.string x,.string y]) (.agg #[.int .i64 k',.string f',.string n',.string m',.int .i64 t',.int .i64 o',.string x',.string y'])=(Op.equal 51 (.agg (chA k f n m t o x y)) (.agg (chA k' f' n' m' t' o' x' y'))>>=fun r=>pure (.bool (!r))):=rfl;rw[hb,z01,zkz];rfl
def z0e(h:Chg):Chg:=if h.k=1 then⟨1,[],h.n,[],h.t,h.x,[]⟩ else if h.k=3 then⟨3,h.f,h.n,[],ty0,[],[]⟩ else if h.k=4 then⟨4,h.f,[],[],h.t,h.x,[]⟩ else if h.k=5 then h else⟨h.k,h.f,[],[],ty0,[],[]⟩
theorem zh0(g:Sh.Glob)(h:Chg)(hk:1≤h.k∧h.k≤6):zC g 170 [chT h] [] (chT (z0e h)) []:=by
 obtain⟨k,f,n,m,⟨tk,ot⟩,x,o⟩:=h
 dsimp only at hk
 have e0:=bS [];have hk:k=1∨k=2∨k=3∨k=4∨k=5∨k=6:=by omega
 refine za tf_160 ?_;rcases hk with rfl|rfl|rfl|rfl|rfl|rfl
 all_goals(
  unfold chT;simp only[vW,seval,e0];try rfl)
def psB(s:zB):Bool:=s==[]||decide ((rdV s).2.2=0)
theorem zfW(g:Sh.Glob)(h:Chg)(hf:z0t h.f)(hn:z0t h.n)(hm:z0t h.m)(hx:RTx h.x)(ho:RTx h.o):zC g 97 [chT h] [] (B (z0g h)) []:=by
 have HX:=z91 g h.x hx;have HO:=z91 g h.o ho;have HF:=z30 g h.f hf;have HN:=z30 g h.n hn;have HM:=z30 g h.m hm;have HT:=zfX g h.t;change SCalls _ _ _ _ _ (B (psB h.x)) _ at HX;change SCalls _ _ _ _ _ (B (psB h.o)) _ at HO;by_cases hk:1≤h.k∧h.k≤6
 ·have HC:=zh0 g h hk;have HS:(_:Option (TV×Upd))=_:=zrw h.k (z0e h).k (str h.f) (str h.n) (str h.m) (str (z0e h).f) (str (z0e h).n) (str (z0e h).m) h.t.k h.t.o (z0e h).t.k (z0e h).t.o (str h.x) (str h.o) (str (z0e h).x) (str (z0e h).o);simp only[zpe]at HS;have hsm:((h.k==(z0e h).k)&&((h.f==(z0e h).f)&&((h.n==(z0e h).n)&&((h.m==(z0e h).m)&&(z0i ⟨h.t.k,h.t.o⟩ ⟨(z0e h).t.k,(z0e h).t.o⟩&&((h.x==(z0e h).x)&&((h.o==(z0e h).o)&&true)))))))=z0m h (z0e h):=rfl;rw[hsm]at HS;obtain⟨k,f,n,m,⟨tk,ot⟩,x,o⟩:=h
  dsimp only at*
  have hk':k=1∨k=2∨k=3∨k=4∨k=5∨k=6:=by omega
  clear hk;rcases hk' with rfl|rfl|rfl|rfl|rfl|rfl
  ·have hw:z0g ⟨1,f,n,m,⟨tk,ot⟩,x,o⟩=(z0m (⟨1,f,n,m,⟨tk,ot⟩,x,o⟩:Chg) (z0e (⟨1,f,n,m,⟨tk,ot⟩,x,o⟩:Chg))&&(zb n&&(zg ⟨tk,ot⟩&&(psB x&&(psB o))))):=by
    rw[Bool.eq_iff_iff];simp only[z0g,z0J,z1F,z3F,z0m,z0e,psB,z0i,ty0,Bool.and_eq_true,Bool.or_eq_true,beq_iff_eq,decide_eq_true_eq,if_true,if_false,Bool.false_eq_true,true_and,and_true,show((1:Int)=1)=True from by simp,show((1:Int)=2)=False from by simp,show((1:Int)=6)=False from by simp,show((1:Int)=3)=False from by simp,show((1:Int)=4)=False from by simp,show((1:Int)=5)=False from by simp,false_or,or_false,true_or,or_true];constructor
    ·intro h;simp_all
    ·intro h;simp_all
   rw[hw];clear hw;generalize z0m (⟨1,f,n,m,⟨tk,ot⟩,x,o⟩:Chg) (z0e ⟨1,f,n,m,⟨tk,ot⟩,x,o⟩)=sb at*;simp only[z0e,ty0,chT,if_true,if_false,show((1:Int)=1)=True from by simp,show((1:Int)=3)=False from by simp,show((1:Int)=4)=False from by simp,show((1:Int)=5)=False from by simp]at HC HS;generalize zb f=bf at*;generalize zb n=bn at*;generalize zg ⟨tk,ot⟩=bt at*;generalize zb m=bm at*;generalize psB x=px at*;generalize psB o=po at*;refine za tf_157 ?_;unfold chT B tyT at*;simp only[vW,seval];refine z7 HC ?_;simp only[vW,seval,HS];cases sb
   ·simp only[vW,seval];try rfl
   simp only[vW,seval];refine z7 HN ?_;cases bn
   ·simp only[vW,seval];try rfl
   simp only[vW,seval];refine z7 HT ?_;cases bt
   ·simp only[vW,seval];try rfl
   simp only[vW,seval];refine z7 HX ?_;cases px
   ·simp only[vW,seval];try rfl
   simp only[vW,seval];refine z7 HO ?_;cases po
   ·simp only[vW,seval];try rfl
   simp only[vW,seval];try rfl
  ·have hw:z0g ⟨2,f,n,m,⟨tk,ot⟩,x,o⟩=(z0m (⟨2,f,n,m,⟨tk,ot⟩,x,o⟩:Chg) (z0e (⟨2,f,n,m,⟨tk,ot⟩,x,o⟩:Chg))&&(zb f&&(psB x&&(psB o)))):=by
    rw[Bool.eq_iff_iff];simp only[z0g,z0J,z1F,z3F,z0m,z0e,psB,z0i,ty0,Bool.and_eq_true,Bool.or_eq_true,beq_iff_eq,decide_eq_true_eq,if_true,if_false,Bool.false_eq_true,true_and,and_true,show((2:Int)=1)=False from by simp,show((2:Int)=2)=True from by simp,show((2:Int)=6)=False from by simp,show((2:Int)=3)=False from by simp,show((2:Int)=4)=False from by simp,show((2:Int)=5)=False from by simp,false_or,or_false,true_or,or_true];constructor
    ·intro h;simp_all
    ·intro h;simp_all
   rw[hw];clear hw;generalize z0m (⟨2,f,n,m,⟨tk,ot⟩,x,o⟩:Chg) (z0e ⟨2,f,n,m,⟨tk,ot⟩,x,o⟩)=sb at*;simp only[z0e,ty0,chT,if_true,if_false,show((2:Int)=1)=False from by simp,show((2:Int)=3)=False from by simp,show((2:Int)=4)=False from by simp,show((2:Int)=5)=False from by simp]at HC HS;generalize zb f=bf at*;generalize zb n=bn at*;generalize zg ⟨tk,ot⟩=bt at*;generalize zb m=bm at*;generalize psB x=px at*;generalize psB o=po at*;refine za tf_157 ?_;unfold chT B tyT at*;simp only[vW,seval];refine z7 HC ?_;simp only[vW,seval,HS];cases sb
   ·simp only[vW,seval];try rfl
   simp only[vW,seval];refine z7 HF ?_;cases bf
   ·simp only[vW,seval];try rfl
   simp only[vW,seval];refine z7 HX ?_;cases px
   ·simp only[vW,seval];try rfl
   simp only[vW,seval];refine z7 HO ?_;cases po
   ·simp only[vW,seval];try rfl
   simp only[vW,seval];try rfl
  ·have hw:z0g ⟨3,f,n,m,⟨tk,ot⟩,x,o⟩=(z0m (⟨3,f,n,m,⟨tk,ot⟩,x,o⟩:Chg) (z0e (⟨3,f,n,m,⟨tk,ot⟩,x,o⟩:Chg))&&(zb f&&(zb n&&(psB x&&(psB o))))):=by
    rw[Bool.eq_iff_iff];simp only[z0g,z0J,z1F,z3F,z0m,z0e,psB,z0i,ty0,Bool.and_eq_true,Bool.or_eq_true,beq_iff_eq,decide_eq_true_eq,if_true,if_false,Bool.false_eq_true,true_and,and_true,show((3:Int)=1)=False from by simp,show((3:Int)=2)=False from by simp,show((3:Int)=6)=False from by simp,show((3:Int)=3)=True from by simp,show((3:Int)=4)=False from by simp,show((3:Int)=5)=False from by simp,false_or,or_false,true_or,or_true];constructor
    ·intro h;simp_all
    ·intro h;simp_all
   rw[hw];clear hw;generalize z0m (⟨3,f,n,m,⟨tk,ot⟩,x,o⟩:Chg) (z0e ⟨3,f,n,m,⟨tk,ot⟩,x,o⟩)=sb at*;simp only[z0e,ty0,chT,if_true,if_false,show((3:Int)=1)=False from by simp,show((3:Int)=3)=True from by simp,show((3:Int)=4)=False from by simp,show((3:Int)=5)=False from by simp]at HC HS;generalize zb f=bf at*;generalize zb n=bn at*;generalize zg ⟨tk,ot⟩=bt at*;generalize zb m=bm at*;generalize psB x=px at*;generalize psB o=po at*;refine za tf_157 ?_;unfold chT B tyT at*;simp only[vW,seval];refine z7 HC ?_;simp only[vW,seval,HS];cases sb
   ·simp only[vW,seval];try rfl
   simp only[vW,seval];refine z7 HF ?_;cases bf
   ·simp only[vW,seval];try rfl
   simp only[vW,seval];refine z7 HN ?_;cases bn
   ·simp only[vW,seval];try rfl
   simp only[vW,seval];refine z7 HX ?_;cases px
   ·simp only[vW,seval];try rfl
   simp only[vW,seval];refine z7 HO ?_;cases po
   ·simp only[vW,seval];try rfl
   simp only[vW,seval];try rfl
  ·have hw:z0g ⟨4,f,n,m,⟨tk,ot⟩,x,o⟩=(z0m (⟨4,f,n,m,⟨tk,ot⟩,x,o⟩:Chg) (z0e (⟨4,f,n,m,⟨tk,ot⟩,x,o⟩:Chg))&&(zb f&&(zg ⟨tk,ot⟩&&(psB x&&(psB o))))):=by
    rw[Bool.eq_iff_iff];simp only[z0g,z0J,z1F,z3F,z0m,z0e,psB,z0i,ty0,Bool.and_eq_true,Bool.or_eq_true,beq_iff_eq,decide_eq_true_eq,if_true,if_false,Bool.false_eq_true,true_and,and_true,show((4:Int)=1)=False from by simp,show((4:Int)=2)=False from by simp,show((4:Int)=6)=False from by simp,show((4:Int)=3)=False from by simp,show((4:Int)=4)=True from by simp,show((4:Int)=5)=False from by simp,false_or,or_false,true_or,or_true];constructor
    ·intro h;simp_all
    ·intro h;simp_all
   rw[hw];clear hw;generalize z0m (⟨4,f,n,m,⟨tk,ot⟩,x,o⟩:Chg) (z0e ⟨4,f,n,m,⟨tk,ot⟩,x,o⟩)=sb at*;simp only[z0e,ty0,chT,if_true,if_false,show((4:Int)=1)=False from by simp,show((4:Int)=3)=False from by simp,show((4:Int)=4)=True from by simp,show((4:Int)=5)=False from by simp]at HC HS;generalize zb f=bf at*;generalize zb n=bn at*;generalize zg ⟨tk,ot⟩=bt at*;generalize zb m=bm at*;generalize psB x=px at*;generalize psB o=po at*;refine za tf_157 ?_;unfold chT B tyT at*;simp only[vW,seval];refine z7 HC ?_;simp only[vW,seval,HS];cases sb
   ·simp only[vW,seval];try rfl
   simp only[vW,seval];refine z7 HF ?_;cases bf
   ·simp only[vW,seval];try rfl
   simp only[vW,seval];refine z7 HT ?_;cases bt
   ·simp only[vW,seval];try rfl
   simp only[vW,seval];refine z7 HX ?_;cases px
   ·simp only[vW,seval];try rfl
   simp only[vW,seval];refine z7 HO ?_;cases po
   ·simp only[vW,seval];try rfl
   simp only[vW,seval];try rfl
  ·have hw:z0g ⟨5,f,n,m,⟨tk,ot⟩,x,o⟩=(z0m (⟨5,f,n,m,⟨tk,ot⟩,x,o⟩:Chg) (z0e (⟨5,f,n,m,⟨tk,ot⟩,x,o⟩:Chg))&&(zb f&&(zb n&&(zg ⟨tk,ot⟩&&(zb m&&(psB x&&(psB o))))))):=by
    rw[Bool.eq_iff_iff];simp only[z0g,z0J,z1F,z3F,z0m,z0e,psB,z0i,ty0,Bool.and_eq_true,Bool.or_eq_true,beq_iff_eq,decide_eq_true_eq,if_true,if_false,Bool.false_eq_true,true_and,and_true,show((5:Int)=1)=False from by simp,show((5:Int)=2)=False from by simp,show((5:Int)=6)=False from by simp,show((5:Int)=3)=False from by simp,show((5:Int)=4)=False from by simp,show((5:Int)=5)=True from by simp,false_or,or_false,true_or,or_true];constructor
    ·intro h;simp_all
    ·intro h;simp_all
   rw[hw];clear hw;generalize z0m (⟨5,f,n,m,⟨tk,ot⟩,x,o⟩:Chg) (z0e ⟨5,f,n,m,⟨tk,ot⟩,x,o⟩)=sb at*;simp only[z0e,ty0,chT,if_true,if_false,show((5:Int)=1)=False from by simp,show((5:Int)=3)=False from by simp,show((5:Int)=4)=False from by simp,show((5:Int)=5)=True from by simp]at HC HS;generalize zb f=bf at*;generalize zb n=bn at*;generalize zg ⟨tk,ot⟩=bt at*;generalize zb m=bm at*;generalize psB x=px at*;generalize psB o=po at*;refine za tf_157 ?_;unfold chT B tyT at*;simp only[vW,seval];refine z7 HC ?_;simp only[vW,seval,HS];cases sb
   ·simp only[vW,seval];try rfl
   simp only[vW,seval];refine z7 HF ?_;cases bf
   ·simp only[vW,seval];try rfl
   simp only[vW,seval];refine z7 HN ?_;cases bn
   ·simp only[vW,seval];try rfl
   simp only[vW,seval];refine z7 HT ?_;cases bt
   ·simp only[vW,seval];try rfl
   simp only[vW,seval];refine z7 HM ?_;cases bm
   ·simp only[vW,seval];try rfl
   simp only[vW,seval];refine z7 HX ?_;cases px
   ·simp only[vW,seval];try rfl
   simp only[vW,seval];refine z7 HO ?_;cases po
   ·simp only[vW,seval];try rfl
   simp only[vW,seval];try rfl
  ·have hw:z0g ⟨6,f,n,m,⟨tk,ot⟩,x,o⟩=(z0m (⟨6,f,n,m,⟨tk,ot⟩,x,o⟩:Chg) (z0e (⟨6,f,n,m,⟨tk,ot⟩,x,o⟩:Chg))&&(zb f&&(psB x&&(psB o)))):=by
    rw[Bool.eq_iff_iff];simp only[z0g,z0J,z1F,z3F,z0m,z0e,psB,z0i,ty0,Bool.and_eq_true,Bool.or_eq_true,beq_iff_eq,decide_eq_true_eq,if_true,if_false,Bool.false_eq_true,true_and,and_true,show((6:Int)=1)=False from by simp,show((6:Int)=2)=False from by simp,show((6:Int)=6)=True from by simp,show((6:Int)=3)=False from by simp,show((6:Int)=4)=False from by simp,show((6:Int)=5)=False from by simp,false_or,or_false,true_or,or_true];constructor
    ·intro h;simp_all
    ·intro h;simp_all
   rw[hw];clear hw;generalize z0m (⟨6,f,n,m,⟨tk,ot⟩,x,o⟩:Chg) (z0e ⟨6,f,n,m,⟨tk,ot⟩,x,o⟩)=sb at*;simp only[z0e,ty0,chT,if_true,if_false,show((6:Int)=1)=False from by simp,show((6:Int)=3)=False from by simp,show((6:Int)=4)=False from by simp,show((6:Int)=5)=False from by simp]at HC HS;generalize zb f=bf at*;generalize zb n=bn at*;generalize zg ⟨tk,ot⟩=bt at*;generalize zb m=bm at*;generalize psB x=px at*;generalize psB o=po at*;refine za tf_157 ?_;unfold chT B tyT at*;simp only[vW,seval];refine z7 HC ?_;simp only[vW,seval,HS];cases sb
   ·simp only[vW,seval];try rfl
   simp only[vW,seval];refine z7 HF ?_;cases bf
   ·simp only[vW,seval];try rfl
   simp only[vW,seval];refine z7 HX ?_;cases px
   ·simp only[vW,seval];try rfl
   simp only[vW,seval];refine z7 HO ?_;cases po
   ·simp only[vW,seval];try rfl
   simp only[vW,seval];try rfl
 ·have hw:z0g h=false:=by
   unfold z0g z0J;rw[if_neg (by omega),if_neg (by omega),if_neg (by omega),if_neg (by omega),if_neg (by omega)];rfl
  rw[hw];refine za tf_157 ?_;unfold chT B;by_cases h1:h.k<1
  ·simp only[vW,seval,h1]
  ·have h6:6<h.k:=by omega
   simp only[vW,seval,h1,h6]
end Go.Proofs.YtbkgnekfigknhaaGreatDoor
end
