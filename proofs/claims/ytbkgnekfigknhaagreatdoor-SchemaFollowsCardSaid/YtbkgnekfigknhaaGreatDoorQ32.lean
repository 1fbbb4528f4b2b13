/- Merged texts: Pk9 Zo3 Zo4 Zu3 Zu4. No statement of the program is proved here. -/
import Derived.Test.YtbkgnekfigknhaaGreatDoorQ31
set_option linter.unusedSimpArgs false
set_option linter.unusedVariables false
set_option maxRecDepth 100000
set_option maxHeartbeats 8000000
section
namespace Go.Mor
open Go
def zQ(r:Ty×Bool):Int:=if r.2=true∧(r.1.k=1∨r.1.k=2)then r.1.k else 0
theorem zeK{r:Ty×Bool}{i:Int}(hi:i=1∨i=2):zQ r=i ↔ r.2=true∧r.1.k=i:=by
 grind [zQ]
def z0r(t:V→Ty×Bool)(l:List V)(F:List Ty→Ty×Bool):Ty×Bool:=match z13 t l with
 |none=>(ty0,false)
 |some ps=>F ps
theorem ziD(fs:List Fld)(d:Nat)(e:V):zm fs (d+1) e=z0r (zm fs d) e.l (z2L fs e):=rfl
theorem z7H(t:V→Ty×Bool)(k:Int):∀(l:List V) (ks:List Int),l.length=ks.length→(∀i∈ks,i=1∨i=2)→
  ((z0r t l (zG k ks)).2=true ↔ ∀(j:Nat) y i,l[j]?=some y→ks[j]?=some i→zQ (t y)=i)∧((z0r t l (zG k ks)).2=true→(z0r t l (zG k ks)).1=⟨k,0⟩):=by
 intro l ks hl hk;have key:∀(l:List V) (ks:List Int),l.length=ks.length→(∀i∈ks,i=1∨i=2)→((∃ps,z13 t l=some ps∧z27 ps ks=true) ↔ ∀(j:Nat) y i,l[j]?=some y→ks[j]?=some i→zQ (t y)=i):=by
  intro l
  induction l with
  |nil=>
   intro ks h _;refine⟨fun _ j y i hj=>by simp at hj,fun _=>⟨[],rfl,by cases ks<;>rfl⟩⟩
  |cons x l ih=>
   intro ks h hk;cases ks with
   |nil=>simp at h
   |cons i ks=>
    have ih:=ih ks (by grind) (fun j hj=>hk j (List.mem_cons_of_mem _ hj));have hi:=hk i (List.mem_cons_self ..);constructor
    ·rintro⟨ps,h1,h2⟩ j y i' hj hi';rw[z13]at h1;split at h1
     ·rename_i hx;obtain⟨qs,h3,rfl⟩:=gO h1;simp only[z27,Bool.and_eq_true,beq_iff_eq]at h2;cases j with
      |zero=>
       simp at hj hi';subst hj;subst hi';exact(zeK hi).2 ⟨hx,h2.1⟩
      |succ j=>grind
     ·cases h1
    ·intro hq;have h0:=(zeK hi).1 (hq 0 x i rfl rfl);obtain⟨qs,h3,h4⟩:=ih.2 fun j y i' hj hi'=>hq (j+1) y i' (by grind) (by grind);refine⟨(t x).1::qs,by rw[z13,if_pos h0.1,h3];rfl,?_⟩;simp only[z27,Bool.and_eq_true,beq_iff_eq]
     grind
 have:=key l ks hl hk;rw[←this];unfold z0r;cases h:z13 t l with
 |none=>simp
 |some ps=>
  grind [zG,z27]
theorem ziQ(t:V→Ty×Bool)(a b:V)(hz:∀y∈[a,b],(t y).2=true→((t y).1.k=1∨(t y).1.k=2)→(t y).1.o=0)(F:List Ty→Ty×Bool)(hF:∀p q,F [p,q]=(⟨1,0⟩,z1M p q)):
  ((z0r t [a,b] F).2=true ↔ 0<zQ (t a)∧zQ (t a)=zQ (t b))∧((z0r t [a,b] F).2=true→(z0r t [a,b] F).1=⟨1,0⟩):=by
 unfold z0r;simp only[z13]
 grind [zQ,z1M,z0f]
theorem zdT(t:V→Ty×Bool)(a b d:V)(hz:∀y∈[a,b,d],(t y).2=true→((t y).1.k=1∨(t y).1.k=2)→(t y).1.o=0):
  ((z0r t [a,b,d] z2a).2=true ↔ zQ (t a)=1∧0<zQ (t b)∧zQ (t b)=zQ (t d))∧((z0r t [a,b,d] z2a).2=true→(z0r t [a,b,d] z2a).1=⟨zQ (t b),0⟩):=by
 unfold z0r;have hb:=hz b (by simp);have hd:=hz d (by simp);simp only[z13];unfold zQ;generalize t a=p at*;generalize t b=q at*;generalize t d=r at*;obtain⟨⟨k,o⟩,x⟩:=p;obtain⟨⟨k',o'⟩,x'⟩:=q;obtain⟨⟨k2,o2⟩,x2⟩:=r;cases x<;>cases x'<;>cases x2<;>simp[z2a,z1M,z0f]at*<;>(try omega)
 grind
theorem zky{fs:List Fld}(hfs:∀f∈fs,zh f.t=true){d:Nat}{e:V}{t:Ty}(he:okE d e=true)(ht:zm fs d e=(t,true)):zh t=true:=by
 have h:z5H fs (fs.map fun f=>z4X f.t):=⟨hfs,by simp,fun i f v hf hv=>by
  rw[List.getElem?_map,hf]at hv;cases hv;exact z8a _ (hfs f (gM hf))⟩
 have:=z5q h d e t he ht;unfold zF at this;simp at this;exact this.1.1.2
theorem zmM{fs:List Fld}(hfs:∀f∈fs,zh f.t=true){d:Nat}{e:V}(he:okE d e=true)(h:(zm fs d e).2=true)(hk:(zm fs d e).1.k=1∨(zm fs d e).1.k=2):(zm fs d e).1.o=0:=by
 have:=zky hfs he (t:=(zm fs d e).1) (by rw[←h])
 grind [zh]
end Go.Mor
end

section
namespace Go.Proofs.YtbkgnekfigknhaaGreatDoor
open Go Go.RowKit Go.Mor Go.Sh Go.Sh.Cd1 Go.Sh.Cd7
theorem zme(g:Sh.Glob)(c:Cls)(e:V)(r:Ty×Bool)(t:Ty)(HK:zC g 209 [tv e,clT c] [] (.tuple [tyT t,B r.2]) [])(ht:r.2=true→t=r.1):zC g 236 [tv e,clT c] [] (I (zQ r)) []:=by
 obtain⟨⟨k,o⟩,b⟩:=r;unfold clT tyT B at*;cases b with
 |false=>
  rw[show zQ (⟨k,o⟩,false)=0 by unfold zQ;simp];refine z0u tf_151 ?_;exact ze HK
 |true=>
  obtain rfl:=ht rfl;refine za tf_151 ?_;by_cases h1:k=1
  ·rw[show zQ (⟨k,o⟩,true)=k by unfold zQ;simp[h1]];simp only[vW,seval];refine z7 HK ?_;simp only[vW,seval,h1]
  by_cases h2:k=2
  ·rw[show zQ (⟨k,o⟩,true)=k by unfold zQ;simp[h2]];simp only[vW,seval];refine z7 HK ?_;simp only[vW,seval,h1,h2]
  rw[show zQ (⟨k,o⟩,true)=0 by unfold zQ;simp[h1,h2]];simp only[vW,seval];refine z7 HK ?_;simp only[vW,seval,h1,h2]
def z2t(s:zB):zB:=if s=z4q∨s=z4r then [116] else if s=z1v∨s=z0X∨s=z1u then [116,110] else if s=z3a then [116,116] else if s=z1G then [110] else if s=z4G∨s=z5k then [110,110] else []
theorem zmQ(g:Sh.Glob)(s:zB):zC g 261 [S (str s)] [] (S (str (z2t s))) []:=by
 refine za tf_152 ?_;have q0:=bS [108,101,110];have q1:=bS [116,101,120,116];have q2:=bS [110,117,109];have q3:=bS [108,101,102,116];have q4:=bS [114,105,103,104,116];have q5:=bS [102,114,111,109];have q6:=bS [102,105,110,100];have q7:=bS [109,105,110];have q8:=bS [109,97,120];have q9:=bS [116];have q10:=bS [116,110];have q11:=bS [116,116];have q12:=bS [110];have q13:=bS [110,110];have q14:=bS [];have hb:∀t:zB,(s==t)=decide (s=t):=fun t=>by rw[Bool.eq_iff_iff];simp
 unfold z2t z4q z1G z4r z1v z0X z1u z3a z4G z5k;simp only[vW,seval,q0,q1,q2,q3,q4,q5,q6,q7,q8,q9,q10,q11,q12,q13,q14,hb]
 repeat' (first|(apply And.intro)|(intro _))
 all_goals simp_all
def z3K(w:zB):List Int:=w.map fun b=>if b=110 then 1 else 2
def z4n(s:zB):Int:=if s=z1v∨s=z0X∨s=z1u∨s=z1G then 2 else 1
theorem zhb{s:zB}(h:0<zp s)(hi:s≠nIf):z79 s=zG (z4n s) (z3K (z2t s))∧((z2t s).length:Int)=zp s∧(∀b∈z2t s,b=110∨b=116)∧0<(z2t s).length:=by
 rcases z3N h with rfl|rfl|rfl|rfl|rfl|rfl|rfl|rfl|rfl|rfl
 all_goals first|exact absurd rfl hi|exact⟨by funext ps;simp[z79,z2t,z4n,z3K,z4q,z1G,z4r,z1v,z0X,z1u,z3a,z4G,z5k,nIf],by decide,by decide,by decide⟩
def zdE(g:Sh.Glob)(c:Cls)(e:V)(R:Ty×Bool):Prop:=∃t,zC g 237 [tv e,clT c] [] (.tuple [tyT t,B R.2]) []∧(R.2=true→t=R.1)
theorem zeU(g:Sh.Glob)(c:Cls)(n:Int)(a b d:V)(T:V→Ty×Bool)(hz:∀y∈[a,b,d],(T y).2=true→((T y).1.k=1∨(T y).1.k=2)→(T y).1.o=0)
  (HP:∀y∈[a,b,d],zC g 236 [tv y,clT c] [] (I (zQ (T y))) []):zdE g c (.mk 6 n nIf [a,b,d]) (z0r T [a,b,d] z2a):=by
 obtain⟨h1,h2⟩:=zdT T a b d hz;have HA:=HP a (by simp);have HB:=HP b (by simp);have HD:=HP d (by simp);refine⟨⟨zQ (T b),0⟩,?_,fun h=>(h2 h).symm⟩;have hR:(z0r T [a,b,d] z2a).2=(decide (zQ (T a)=1)&&(decide (0<zQ (T b))&&decide (zQ (T b)=zQ (T d)))):=by rw[Bool.eq_iff_iff,h1];simp
 rw[hR];generalize zQ (T a)=pa at*;generalize zQ (T b)=pb at*;generalize zQ (T d)=pd at*;have qi:(⟨#[105,102]⟩:ByteArray)=str nIf:=rfl;unfold clT tyT B at*;refine za tf_149 ?_;by_cases x1:pa=1<;>by_cases x2:0<pb<;>by_cases x3:pb=pd
 all_goals(
  simp only[vW,seval,qi];refine z8 HA ?_;refine z8 HB ?_;refine z7 HD ?_;simp only[vW,seval,x1,x2,x3];try(repeat' (first|(apply And.intro)|(intro _)))
  all_goals simp_all)
theorem zfU(g:Sh.Glob)(c:Cls)(e:V)(hs:0<zp e.s)(hi:e.s≠nIf)(hl:(e.l.length:Int)=zp e.s)(T:V→Ty×Bool)
  (HP:∀y∈e.l,zC g 236 [tv y,clT c] [] (I (zQ (T y))) []):zdE g c e (z0r T e.l (z79 e.s)):=by
 obtain⟨k,n,s,l⟩:=e;simp only[Vs,Vl]at*;obtain⟨hk,hw,hb,hp⟩:=zhb hs hi;have ht3:=z6Y s;rw[hk];have hlen:l.length=(z3K (z2t s)).length:=by unfold z3K;rw[List.length_map];omega
 have hks:∀i∈z3K (z2t s),i=1∨i=2:=fun i hi=>by
  unfold z3K at hi;obtain⟨b,_,rfl⟩:=List.mem_map.1 hi;split<;>omega
 obtain⟨h1,h2⟩:=z7H T (z4n s) l (z3K (z2t s)) hlen hks;generalize z0r T l (zG (z4n s) (z3K (z2t s)))=R at*;have HW:=zmQ g s;have hif:(s==nIf)=false:=by simpa using hi
 have qi:(⟨#[105,102]⟩:ByteArray)=str nIf:=rfl;have e0:=bS [];have hgood:∀(j:Nat) b,(z2t s)[j]?=some b→(z3K (z2t s))[j]?=some (if b=110 then 1 else 2):=fun j b hj=>by unfold z3K;rw[List.getElem?_map,hj];rfl
 have hko:z4n s=if s=z1v∨s=z0X∨s=z1u∨s=z1G then 2 else 1:=rfl
 have hw0:(z2t s==[])=false:=by
  cases h:z2t s with
  |nil=>rw[h]at hp;simp at hp
  |cons b r=>rfl
 generalize z2t s=w at*;refine⟨if R.2=true then⟨z4n s,0⟩ else⟨0,0⟩,?_,fun h=>by rw[if_pos h,h2 h]⟩;have d9:¬(w.length:Int)=0:=by omega
 have dl:(w.length:Int)=(l.length:Int):=by omega
 unfold clT tyT B at*;refine za tf_149 ?_;simp only[vW,seval,qi,hif];refine z7 HW ?_;simp only[vW,seval,e0,hw0,dl];refine zl (σ:={i:Nat // i≤w.length∧∀(j:Nat) y b,j<i→l[j]?=some y→w[j]?=some b→zQ (T y)=(if b=110 then 1 else 2)}) (fun i=>⟨[(2,.ptr 2 0),(3,.ptr 3 0),(4,.ptr 4 0),(9,S (str w)),(10,I (i.1:Int))],[(2,[I k,I n,S (str s),.pv (.sl 4 (V.rows l))]),(3,[S (str c.n),.pv (.sl 4 (flR c.fs))]),(4,[I 0,I 0])],[],[]⟩) (fun i=>w.length-i.1) ⟨0,Nat.zero_le _,fun j y b hj=>by omega⟩ ?_ ?_
 ·exact lwA
 rintro⟨i,hi,hno⟩;by_cases hlt:i<w.length
 ·have d1:(i:Int)<(w.length:Int):=by omega
  obtain⟨b,eb⟩:∃b,w[i]?=some b:=⟨_,gE hlt⟩
  obtain⟨y,ey⟩:∃y,l[i]?=some y:=⟨_,gE (by omega)⟩
  have HY:=HP y (gM ey);have w1:=wS i;by_cases hm:zQ (T y)=(if b=110 then 1 else 2)
  ·have hno2:∀(j:Nat) y b,j<i+1→l[j]?=some y→w[j]?=some b→zQ (T y)=(if b=110 then 1 else 2):=fun j z b' hj hz hb'=>by
    by_cases hji:j=i
    ·subst hji;rw[ey]at hz;rw[eb]at hb';cases hz;cases hb';exact hm
    ·exact hno j z b' (by omega) hz hb'
   rcases hb b (gM eb)with rfl|rfl
   ·rw[if_pos rfl]at hm;rw[hm]at HY;simp only[vW,seval,d1,ey];refine z7 HY ?_;simp only[vW,seval,eb,w1];refine zc ⟨i+1,hlt,hno2⟩ (by show w.length-(i+1)<w.length-i;omega) ?_;exact lwA
   ·rw[if_neg (by decide)]at hm;rw[hm]at HY;simp only[vW,seval,d1,ey];refine z7 HY ?_;simp only[vW,seval,eb,w1];refine zc ⟨i+1,hlt,hno2⟩ (by show w.length-(i+1)<w.length-i;omega) ?_;exact lwA
  ·have hf:R.2=false:=by
    cases hR:R.2 with
    |false=>rfl
    |true=>exact absurd (h1.1 hR i y _ ey (hgood i b eb)) hm
   rw[hf];rw[if_neg (by simp)];rcases hb b (gM eb)with rfl|rfl
   ·rw[if_pos rfl]at hm;simp only[vW,seval,d1,ey];refine z7 HY ?_;simp only[vW,seval,eb,w1,hm]
   ·rw[if_neg (by decide)]at hm;simp only[vW,seval,d1,ey];refine z7 HY ?_;simp only[vW,seval,eb,w1,hm]
 ·have d1:¬(i:Int)<(w.length:Int):=by omega
  have ht:R.2=true:=h1.2 fun j y i' hj hi'=>by
   have hjl:j<w.length:=by have:=(gJ hj).1;omega
   have hb':=gE hjl;rw[hgood j _ hb']at hi';cases hi';exact hno j y _ (by omega) hj hb'
  rw[ht];rw[if_pos rfl];have q1:(⟨#[108,101,102,116]⟩:ByteArray)=str z1v:=rfl;have q2:(⟨#[114,105,103,104,116]⟩:ByteArray)=str z0X:=rfl;have q3:(⟨#[102,114,111,109]⟩:ByteArray)=str z1u:=rfl;have q4:(⟨#[116,101,120,116]⟩:ByteArray)=str z1G:=rfl;by_cases s1:s=z1v
  ·have b1:(s==z1v)=true:=by simpa using s1
   rw[show z4n s=2 by rw[hko,if_pos (.inl s1)]];simp only[vW,seval,d1,q1,q2,q3,q4,b1]
  have b1:(s==z1v)=false:=by simpa using s1
  by_cases s2:s=z0X
  ·have b2:(s==z0X)=true:=by simpa using s2
   rw[show z4n s=2 by rw[hko,if_pos (.inr (.inl s2))]];simp only[vW,seval,d1,q1,q2,q3,q4,b1,b2]
  have b2:(s==z0X)=false:=by simpa using s2
  by_cases s3:s=z1u
  ·have b3:(s==z1u)=true:=by simpa using s3
   rw[show z4n s=2 by rw[hko,if_pos (.inr (.inr (.inl s3)))]];simp only[vW,seval,d1,q1,q2,q3,q4,b1,b2,b3]
  have b3:(s==z1u)=false:=by simpa using s3
  by_cases s4:s=z1G
  ·have b4:(s==z1G)=true:=by simpa using s4
   rw[show z4n s=2 by rw[hko,if_pos (.inr (.inr (.inr s4)))]];simp only[vW,seval,d1,q1,q2,q3,q4,b1,b2,b3,b4]
  have b4:(s==z1G)=false:=by simpa using s4
  rw[show z4n s=1 by rw[hko,if_neg (by simp[s1,s2,s3,s4])]];simp only[vW,seval,d1,q1,q2,q3,q4,b1,b2,b3,b4]
theorem zfx{s:zB}(h:0<zJ s):s=[38]∨(s=[43]∨s=[45]∨s=[42]∨s=[47]∨s=[37])∨(s=[61]∨s=[60,62]∨s=[60]∨s=[60,61]∨s=[62]∨s=[62,61]):=by
 unfold zJ at h
 repeat' (split at h)
 all_goals first|(simp_all;done)|(rename_i h1;rcases h1 with h1|h1|h1|h1|h1|h1<;>simp[h1];done)|(rename_i h1;rcases h1 with h1|h1|h1<;>simp[h1];done)|(rename_i h1;rcases h1 with h1|h1<;>simp[h1];done)|omega
theorem zgQ{T:V→Int}{x y:V}{i:Int}:(∀(j:Nat) z k,[x,y][j]?=some z→[i,i][j]?=some k→T z=k) ↔ T x=i∧T y=i:=by
 refine⟨fun h=>⟨h 0 x i rfl rfl,h 1 y i rfl rfl⟩,fun h j z k hz hk=> ?_⟩
 match j with
 |0=>cases hz;cases hk;exact h.1
 |1=>cases hz;cases hk;exact h.2
 |j+2=>simp at hz
theorem sgB:((([61]:zB)==[38])=false)∧((([61]:zB)==[61])=true)∧((([60,62]:zB)==[38])=false)∧((([60,62]:zB)==[61])=false)∧((([60,62]:zB)==[60,62])=true)∧((([60]:zB)==[38])=false)∧((([60]:zB)==[61])=false)∧((([60]:zB)==[60,62])=false)∧((([60]:zB)==[60])=true)∧((([60,61]:zB)==[38])=false)∧((([60,61]:zB)==[61])=false)∧((([60,61]:zB)==[60,62])=false)∧((([60,61]:zB)==[60])=false)∧((([60,61]:zB)==[60,61])=true)∧((([62]:zB)==[38])=false)∧((([62]:zB)==[61])=false)∧((([62]:zB)==[60,62])=false)∧((([62]:zB)==[60])=false)∧((([62]:zB)==[60,61])=false)∧((([62]:zB)==[62])=true)∧((([62,61]:zB)==[38])=false)∧((([62,61]:zB)==[61])=false)∧((([62,61]:zB)==[60,62])=false)∧((([62,61]:zB)==[60])=false)∧((([62,61]:zB)==[60,61])=false)∧((([62,61]:zB)==[62])=false)∧((([62,61]:zB)==[62,61])=true):=by decide
def zaH(g:Sh.Glob)(c:Cls)(d:Nat)(e:V):Prop:=∃t,zC g 209 [tv e,clT c] [] (.tuple [tyT t,B (zm c.fs d e).2]) []∧((zm c.fs d e).2=true→t=(zm c.fs d e).1)
theorem zhB(g:Sh.Glob)(c:Cls)(hc:c.fs.length≤4611686018427387904)(hr:∀f∈c.fs,zh f.t=true)(d:Nat)(IH:∀e,okE d e=true→zaH g c d e):∀e,okE (d+1) e=true→zaH g c (d+1) e:=by
  intro e he
  obtain⟨hn,hk⟩:=z9n he
  have HP:∀y∈e.l,zC g 236 [tv y,clT c] [] (I (zQ (zm c.fs d y))) []:=fun y hy=>by
    obtain⟨t,h1,h2⟩:=IH y (hk y hy)
    exact zme g c y _ t h1 h2
  have hz:∀y∈e.l,(zm c.fs d y).2=true→((zm c.fs d y).1.k=1∨(zm c.fs d y).1.k=2)→(zm c.fs d y).1.o=0:=fun y hy=>zmM hr (hk y hy)
  unfold zaH
  rw[ziD]
  obtain⟨k,n,s,l⟩:=e
  simp only[Vk,Vn,Vs,Vl]at*
  rcases z47 hn with rfl|rfl|rfl|rfl|rfl|rfl
  · obtain⟨_,_,hs,hl⟩:=zhL hn rfl
    simp only[Vs,Vl]at hs hl
    subst hs;subst hl
    refine⟨⟨1,0⟩,?_,fun _=>rfl⟩
    rw[show(z0r (zm c.fs d) [] (z2L c.fs (.mk 1 n [] []))).2=true from rfl]
    unfold clT tyT B
    refine za tf_150 ?_
    simp only[vW,seval]
  · obtain⟨_,_,hl⟩:=zbe hn rfl
    simp only[Vl]at hl
    subst hl
    refine⟨⟨2,0⟩,?_,fun _=>rfl⟩
    rw[show(z0r (zm c.fs d) [] (z2L c.fs (.mk 2 n s []))).2=true from rfl]
    unfold clT tyT B
    refine za tf_150 ?_
    simp only[vW,seval]
  · obtain⟨_,_,hl⟩:=zhM hn rfl
    simp only[Vl]at hl
    subst hl
    have HA:=z3M g c s hc
    have hR:z0r (zm c.fs d) [] (z2L c.fs (.mk 3 n s []))=if fieldAt c.fs s<0 then(ty0,false)else((c.fs.getD (fieldAt c.fs s).toNat ⟨[],ty0,false⟩).t,true):=rfl
    rw[hR]
    unfold z1D at HA
    by_cases hf:fieldAt c.fs s<0
    · rw[if_pos hf]at HA ⊢
      refine⟨⟨0,0⟩,?_,fun h=>by cases h⟩
      unfold clT tyT B at*
      refine z0u tf_150 ?_
      exact ze HA
    · rw[if_neg hf]at HA ⊢
      obtain⟨q,hq⟩:∃q:Nat,fieldAt c.fs s=q:=⟨(fieldAt c.fs s).toNat,by omega⟩
      obtain⟨f,hf1,_⟩:=z2J _ _ q hq
      rw[hq]at HA
      refine⟨f.t,?_,fun _=>by rw[hq,Int.toNat_natCast,z6O hf1]⟩
      unfold clT tyT B at*
      refine z0u tf_150 ?_
      refine z7 HA ?_
      simp only[vW,seval,clV,hf1]
  · obtain⟨_,hb,x,y,hl⟩:=z9k hn rfl
    simp only[Vs,Vl]at hb hl
    subst hl
    have HX:=HP x (by simp)
    have HY:=HP y (by simp)
    have q0:=bS [38]
    have q1:=bS [61]
    have q2:=bS [60,62]
    have q3:=bS [60]
    have q4:=bS [60,61]
    have q5:=bS [62]
    have q6:=bS [62,61]
    rcases zfx hb with hs|hs|hs
    · obtain⟨h1,h2⟩:=z7H (zm c.fs d) 2 [x,y] [2,2] rfl (by simp)
      rw[show z0r (zm c.fs d) [x,y] (z2L c.fs (.mk 4 n s [x,y]))=z0r (zm c.fs d) [x,y] (zG 2 [2,2]) by subst hs;rfl]
      refine⟨⟨2,0⟩,?_,fun h=>(h2 h).symm⟩
      have hR:(z0r (zm c.fs d) [x,y] (zG 2 [2,2])).2=(decide (zQ (zm c.fs d x)=2)&&decide (zQ (zm c.fs d y)=2)):=by
        rw[Bool.eq_iff_iff,h1]
        simp only[Bool.and_eq_true,decide_eq_true_eq]
        exact zgQ (T:=fun z=>zQ (zm c.fs d z))
      rw[hR]
      generalize zQ (zm c.fs d x)=px at*
      generalize zQ (zm c.fs d y)=py at*
      subst hs
      unfold clT tyT B at*
      refine z0u tf_150 ?_
      refine z8 HX ?_
      refine z7 HY ?_
      simp only[vW,seval,q0,q1,q2,q3,q4,q5,q6]
      try(repeat' (first|(apply And.intro)|(intro _)))
      all_goals simp_all
    · obtain⟨h1,h2⟩:=z7H (zm c.fs d) 1 [x,y] [1,1] rfl (by simp)
      rw[show z0r (zm c.fs d) [x,y] (z2L c.fs (.mk 4 n s [x,y]))=z0r (zm c.fs d) [x,y] (zG 1 [1,1]) by rcases hs with rfl|rfl|rfl|rfl|rfl<;>rfl]
      refine⟨⟨1,0⟩,?_,fun h=>(h2 h).symm⟩
      have hR:(z0r (zm c.fs d) [x,y] (zG 1 [1,1])).2=(decide (zQ (zm c.fs d x)=1)&&decide (zQ (zm c.fs d y)=1)):=by
        rw[Bool.eq_iff_iff,h1]
        simp only[Bool.and_eq_true,decide_eq_true_eq]
        exact zgQ (T:=fun z=>zQ (zm c.fs d z))
      rw[hR]
      generalize zQ (zm c.fs d x)=px at*
      generalize zQ (zm c.fs d y)=py at*
      unfold clT tyT B at*
      refine za tf_150 ?_
      rcases hs with rfl|rfl|rfl|rfl|rfl
      all_goals(
        simp only[vW,seval]
        refine z8 HX ?_
        refine z7 HY ?_
        simp only[vW,seval,q0,q1,q2,q3,q4,q5,q6]
        try(repeat' (first|(apply And.intro)|(intro _)))
        all_goals simp_all)
    · obtain⟨h1,h2⟩:=ziQ (zm c.fs d) x y hz (z2L c.fs (.mk 4 n s [x,y])) (fun p q=>by rcases hs with rfl|rfl|rfl|rfl|rfl|rfl<;>rfl)
      refine⟨⟨1,0⟩,?_,fun h=>(h2 h).symm⟩
      have hR:(z0r (zm c.fs d) [x,y] (z2L c.fs (.mk 4 n s [x,y]))).2=(decide (0<zQ (zm c.fs d x))&&decide (zQ (zm c.fs d x)=zQ (zm c.fs d y))):=by rw[Bool.eq_iff_iff,h1];simp
      rw[hR]
      generalize zQ (zm c.fs d x)=px at*
      generalize zQ (zm c.fs d y)=py at*
      unfold clT tyT B at*
      refine za tf_150 ?_
      by_cases a1:0<px
      · by_cases a2:px=py
        · subst a2
          rcases hs with rfl|rfl|rfl|rfl|rfl|rfl
          all_goals(
            simp only[vW,seval]
            refine z8 HX ?_
            refine z7 HY ?_
            simp only[vW,seval,q0,q1,q2,q3,q4,q5,q6,a1,sgB]
            try rfl)
        · rcases hs with rfl|rfl|rfl|rfl|rfl|rfl
          all_goals(
            simp only[vW,seval]
            refine z8 HX ?_
            refine z7 HY ?_
            simp only[vW,seval,q0,q1,q2,q3,q4,q5,q6,a1,a2,sgB]
            try rfl)
      · rcases hs with rfl|rfl|rfl|rfl|rfl|rfl
        all_goals(
          simp only[vW,seval]
          refine z8 HX ?_
          refine z7 HY ?_
          simp only[vW,seval,q0,q1,q2,q3,q4,q5,q6,a1,sgB]
          try rfl)
  · obtain⟨_,hs,x,hl⟩:=zbf hn rfl
    simp only[Vs,Vl]at hs hl
    subst hs;subst hl
    have HX:=HP x (by simp)
    obtain⟨h1,h2⟩:=z7H (zm c.fs d) 1 [x] [1] rfl (by simp)
    refine⟨⟨1,0⟩,?_,fun h=>(h2 h).symm⟩
    have hR:(z0r (zm c.fs d) [x] (z2L c.fs (.mk 5 n [45] [x]))).2=decide (zQ (zm c.fs d x)=1):=by
      rw[Bool.eq_iff_iff,decide_eq_true_eq]
      refine Iff.trans h1 ⟨fun h=>h 0 x 1 rfl rfl,fun h j z i hz hi=> ?_⟩
      cases j with
      |zero=>cases hz;cases hi;exact h
      |succ j=>simp at hz
    rw[hR]
    generalize zQ (zm c.fs d x)=px at*
    unfold clT tyT B at*
    refine z0u tf_150 ?_
    exact ze HX
  · obtain⟨_,hs,hl⟩:=z9l hn rfl
    simp only[Vs,Vl]at hs hl
    have HC:zdE g c (.mk 6 n s l) (z0r (zm c.fs d) l (z79 s)):=by
      by_cases hi:s=nIf
      · subst hi
        have h3 : l.length = 3 := by have : zp nIf = 3 := by decide
                                     omega
        obtain⟨a,b,e,rfl⟩:∃a b e,l=[a,b,e]:=by
          match l,h3 with
          |[a,b,e],_=>exact⟨a,b,e,rfl⟩
        exact zeU g c n a b e (zm c.fs d) hz HP
      · exact zfU g c (.mk 6 n s l) hs hi hl (zm c.fs d) HP
    obtain⟨t,h1,h2⟩:=HC
    refine⟨t,?_,h2⟩
    rw[show(z0r (zm c.fs d) l (z2L c.fs (.mk 6 n s l)))=z0r (zm c.fs d) l (z79 s) from rfl]
    generalize z0r (zm c.fs d) l (z79 s)=R at*
    unfold clT tyT B at*
    refine z0u tf_150 ?_
    exact ze h1
theorem zeo(g:Sh.Glob)(c:Cls)(hc:c.fs.length≤4611686018427387904)(hr:∀f∈c.fs,zh f.t=true):∀(d:Nat) (e:V),okE d e=true→zaH g c d e
 |0,e,h=>by simp[okE]at h
 |d+1,e,h=>zhB g c hc hr d (zeo g c hc hr d) e h
theorem z9Y(g:Sh.Glob)(c:Cls)(e:V)(hc:ClsOk c)(he:ESmall e):zC g 173 [tv e,clT c] [] (.tuple [tyT (z2s c e).1,I (z2s c e).2]) []:=by
 have HE:=z8H g e he;have HC:=z5X g c hc;obtain⟨R,hR⟩:∃R,z2s c e=R:=⟨_,rfl⟩
 rw[hR];unfold z2s at hR;refine za tf_148 ?_;unfold clT tyT B at*;cases h1:z0Z e
 ·rw[h1]at hR HE;simp only[Bool.false_eq_true,if_false]at hR;subst hR;simp only[vW,seval];refine z8 HE ?_;rfl
 rw[h1]at hR HE;cases h2:zd c
 ·rw[h2]at hR HC;simp only[Bool.false_eq_true,if_false,if_true]at hR;subst hR;simp only[vW,seval];refine z8 HE ?_;refine z8 HC ?_;rfl
 rw[h2]at hR HC;have hr:=(z0T c).1 h2;have hd:okE 8 e=true:=by unfold z0Z at h1;simp only[Bool.and_eq_true]at h1;exact h1.1
 obtain⟨t,HK,ht⟩:=zeo g c hc.len (fun f hf=>by have:=hr.2.2.1 f hf;unfold zD at this;simp only[Bool.and_eq_true]at this;exact this.1.2) 8 e hd;unfold clT tyT B at HK;simp only[if_true]at hR;cases h3:(zm c.fs 8 e).2
 ·rw[h3]at hR HK;simp only[Bool.false_eq_true,if_false]at hR;subst hR;simp only[vW,seval];refine z8 HE ?_;refine z8 HC ?_;refine z8 HK ?_;rfl
 ·rw[h3]at hR HK;simp only[if_true]at hR;obtain rfl:=ht h3;subst hR;simp only[vW,seval];refine z8 HE ?_;refine z8 HC ?_;exact ze HK
theorem znY:∀(f:Nat) (l:zB) (a:Nat) (acc L:List Pc),(∀q∈acc,PcOk q)→z0W f l a acc=some (.ok L)→∀q∈L,PcOk q:=by
 intro f
 induction f with
 |zero=>intro l a acc L _ h;cases h
 |succ f ih=>
  intro l a acc L ha h;cases l with
  |nil=>rw[z0W]at h;cases h;exact ha
  |cons b r=>
   rw[z0W]at h;split at h
   ·exact ih _ _ _ _ ha h
   ·split at h
    ·cases h
    ·rename_i q z hr;refine ih _ _ _ _ (fun y hy=> ?_) h;rcases List.mem_append.1 hy with hy|hy
     ·exact ha y hy
     ·obtain rfl:=List.mem_singleton.1 hy;exact zeS hr
theorem z9V(g:Sh.Glob)(s:zB){f:Nat}{r:V×Int×Int}(h:z2A f s=some r):
  (r.2.2=0→zC g 172 [S (str s)] [] (.tuple [tv r.1,I 0,I 0]) [])∧(r.2.2≠0→∃a c,c≠0∧zC g 172 [S (str s)] [] (z6u a c) []):=by
 unfold z2A at h;by_cases hl:200<s.length
 ·rw[if_pos hl]at h;cases h;refine⟨fun h=>by simp at h,fun _=>⟨200,50,by decide,?_⟩⟩;have d1:(200:Int)<(s.length:Int):=by omega
  have e0:=bS [];refine za tf_140 ?_;unfold z6u zH;simp only[vW,seval,d1]
 rw[if_neg hl]at h;cases hX:z0W (s.length+1) s 0 []with
 |none=>rw[hX]at h;cases h
 |some X=>
  rw[hX]at h;cases X with
  |bad a=>
   cases h;exact⟨fun h=>by simp at h,fun _=>⟨a,50,by decide,z5W g s (by omega) _ _ hX _ (fun a' h'=>by cases h';rfl) (fun L h'=>by cases h')⟩⟩
  |ok L=>
   dsimp only at h
   have hL:=znY _ _ _ _ _ (by simp) hX;have hsm:=(z6A (z3A _ _ _ _ _ (by simp) hX).1 s.length f).1;cases hp:pE L s.length f 1 0 with
   |none=>rw[hp]at h;cases h
   |some rs=>
    rw[hp]at h;have hag:=(ziN (sz:=s.length) hL f).1 1 0 rs hp;cases rs with
    |bad a p=>
     cases h;obtain⟨e,q,b,hb,hm⟩:=hag;refine⟨fun h=>by simp at h,fun _=>⟨b,50,by decide,z5W g s (by omega) _ _ hX _ (fun a' h'=>by cases h') (fun L' h'=> ?_)⟩⟩;cases h';exact⟨e,q,b,f+3,hm,fun h=>by omega,by unfold ze4;rw[if_pos hb]⟩
    |ok e p=>
     have hm:mE L s.length (f+3) 1 0 (-1)=some (e,p, -1):=hag;have he:=hsm _ _ _ _ hp
     dsimp only at h
     have run:zC g 172 [S (str s)] [] (ze4 L s.length e p (-1)) []:=z5W g s (by omega) _ _ hX _ (fun a' h'=>by cases h') (fun L' h'=>by
      cases h';exact⟨e,p, -1,f+3,hm,fun _=>he,rfl⟩)
     unfold ze4 at run;rw[if_neg (by omega)]at run;by_cases hlt:p<L.length
     ·rw[if_pos hlt]at h run;cases h;exact⟨fun h=>by simp at h,fun _=>⟨_,50,by decide,run⟩⟩
     ·rw[if_neg hlt]at h run;by_cases hr:z0Z e=true
      ·rw[if_pos hr]at h run;cases h;exact⟨fun _=>run,fun h=>absurd rfl h⟩
      ·rw[if_neg hr]at h run;cases h;exact⟨fun h=>by simp at h,fun _=>⟨0,51,by decide,run⟩⟩
def RTx(s:zB):Prop:=(∃r,z2A 1000 s=some r)∧(s≠[]→ESmall (rdV s).1)
theorem z8F(g:Sh.Glob)(s:zB)(h:RTx s):zC g 171 [S (str s)] [] (B (s==[]||decide ((rdV s).2.2=0))) []:=by
 obtain⟨⟨r,hr⟩,_⟩:=h;have hrd:rdV s=r:=by unfold rdV;rw[hr];rfl
 rw[hrd];obtain⟨h1,h2⟩:=z9V g s hr;have e0:=bS [];refine za tf_158 ?_;unfold B;by_cases hz:r.2.2=0
 ·have HP:=h1 hz;cases hs:(s==[])
  ·simp only[vW,seval];refine z7 HP ?_;simp only[vW,seval,e0,hs,hz];try rfl
  ·simp only[vW,seval];refine z7 HP ?_;simp only[vW,seval,e0,hs,hz];try rfl
 ·obtain⟨a,c,hc,HP⟩:=h2 hz;unfold z6u zH at HP;cases hs:(s==[])
  ·simp only[vW,seval];refine z7 HP ?_;simp only[vW,seval,e0,hs,hz,hc];try rfl
  ·simp only[vW,seval];refine z7 HP ?_;simp only[vW,seval,e0,hs,hz,hc];try rfl
theorem zkz(c:Cls):z2s c V.nil=(ty0,50):=rfl
theorem z9W(g:Sh.Glob)(s:zB)(c:Cls)(t:Ty)(h:RTx s)(hc:ClsOk c):zC g 98 [S (str s),clT c,tyT t] [] (B (zA c s t).is) []:=by
 obtain⟨⟨r,hr⟩,hsm⟩:=h;have hrd:rdV s=r:=by unfold rdV;rw[hr];rfl
 obtain⟨h1,h2⟩:=z9V g s hr;have e0:=bS [];unfold B;by_cases hs:s=[]
 ·subst hs;refine za tf_159 ?_;unfold clT tyT;simp only[vW,seval,e0];try rfl
 have hs':(s==[])=false:=by simpa using hs
 unfold zA;rw[if_neg hs,hrd];rw[hrd]at hsm;by_cases hz:r.2.2=0
 ·rw[if_neg (by simpa using hz)];have HP:=h1 hz;have HT:=z9Y g c r.1 hc (hsm hs);generalize z2s c r.1=w at*;obtain⟨⟨k,o⟩,z⟩:=w;obtain⟨tk,ot⟩:=t;unfold clT tyT at*
  dsimp only at HT ⊢
  by_cases z0:z=0
  ·cases he:z0f ⟨k,o⟩ ⟨tk,ot⟩
   ·rw[if_neg (by simp)];refine za tf_159 ?_;simp only[vW,seval,e0,hs'];refine z8 HP ?_;refine z7 HT ?_;simp only[vW,seval,z0,z4S,he];try rfl
   ·rw[if_pos ⟨z0,rfl⟩];refine za tf_159 ?_;simp only[vW,seval,e0,hs'];refine z8 HP ?_;refine z7 HT ?_;simp only[vW,seval,z0,z4S,he];try rfl
  ·rw[if_neg (fun h=>z0 h.1)];refine za tf_159 ?_;simp only[vW,seval,e0,hs'];refine z8 HP ?_;refine z7 HT ?_;simp only[vW,seval,z0];try rfl
 ·rw[if_pos hz];obtain⟨a,q,hq,HP⟩:=h2 hz;have HT:=(z9Y g c V.nil hc z5B).inp (xs:=[nv V.nil,clT c]) rfl (fun j x y hx hy=>by
   match j with
   |0=>simp at hx hy;subst hx;subst hy;exact z3B rfl
   |1=>simp at hx hy;subst hx;subst hy;exact .refl _
   |j+2=>simp at hx)
  rw[zkz]at HT;unfold z6u zH at HP;unfold nv clT tyT at*;refine za tf_159 ?_;simp only[vW,seval,e0,hs'];refine z7 HP ?_;simp only[vW,seval,e0];refine z8 HT ?_;try trivial
theorem zps(k k':Int)(f n m f' n' m':ByteArray)(t o t' o':Int)(x y x' y':ByteArray):
  z02 Tryz.prog (do eqGuard .neq 51 (.const (.agg #[.int .i64 k,.string f,.string n,.string m,.int .i64 t,.int .i64 o,.string x,.string y])) (.const (.agg #[.int .i64 k',.string f',.string n',.string m',.int .i64 t',.int .i64 o',.string x',.string y'])) (.agg #[.int .i64 k,.string f,.string n,.string m,.int .i64 t,.int .i64 o,.string x,.string y]) (.agg #[.int .i64 k',.string f',.string n',.string m',.int .i64 t',.int .i64 o',.string x',.string y']);binOp .neq 51 (.agg #[.int .i64 k,.string f,.string n,.string m,.int .i64 t,.int .i64 o,.string x,.string y]) (.agg #[.int .i64 k',.string f',.string n',.string m',.int .i64 t',.int .i64 o',.string x',.string y']))=
  some (.pv (.v (.bool (!((k==k')&&((f==f')&&((n==n')&&((m==m')&&(z0f ⟨t,o⟩ ⟨t',o'⟩&&((x==x')&&((y==y')&&true)))))))))),.no):=by
 unfold z02;rw[z00];have hg:zo Tryz.prog (eqGuard .neq 51 (.const (.agg #[.int .i64 k,.string f,.string n,.string m,.int .i64 t,.int .i64 o,.string x,.string y])) (.const (.agg #[.int .i64 k',.string f',.string n',.string m',.int .i64 t',.int .i64 o',.string x',.string y'])) (.agg #[.int .i64 k,.string f,.string n,.string m,.int .i64 t,.int .i64 o,.string x,.string y]) (.agg #[.int .i64 k',.string f',.string n',.string m',.int .i64 t',.int .i64 o',.string x',.string y']))=some ():=by kernel_rfl
 rw[hg,Option.bind_some];have hb:binOp .neq 51 (.agg #[.int .i64 k,.string f,.string n,.string m,.int .i64 t,.int .i64 o,.string x,.string y]) (.agg #[.int .i64 k',.string f',.string n',.string m',.int .i64 t',.int .i64 o',.string x',.string y'])=(Op.equal 51 (.agg (chA k f n m t o x y)) (.agg (chA k' f' n' m' t' o' x' y'))>>=fun r=>pure (.bool (!r))):=rfl;rw[hb,z00,zjf];rfl
def z07(h:Chg):Chg:=if h.k=1 then⟨1,[],h.n,[],h.t,h.x,[]⟩ else if h.k=3 then⟨3,h.f,h.n,[],ty0,[],[]⟩ else if h.k=4 then⟨4,h.f,[],[],h.t,h.x,[]⟩ else if h.k=5 then h else⟨h.k,h.f,[],[],ty0,[],[]⟩
theorem zfW(g:Sh.Glob)(h:Chg)(hk:1≤h.k∧h.k≤6):zC g 170 [chT h] [] (chT (z07 h)) []:=by
 obtain⟨k,f,n,m,⟨tk,ot⟩,x,o⟩:=h
 dsimp only at hk
 have e0:=bS [];have hk:k=1∨k=2∨k=3∨k=4∨k=5∨k=6:=by omega
 refine za tf_157 ?_;rcases hk with rfl|rfl|rfl|rfl|rfl|rfl
 all_goals(
  unfold chT;simp only[vW,seval,e0];try rfl)
def psB(s:zB):Bool:=s==[]||decide ((rdV s).2.2=0)
theorem zeV(g:Sh.Glob)(h:Chg)(hf:z0v h.f)(hn:z0v h.n)(hm:z0v h.m)(hx:RTx h.x)(ho:RTx h.o):zC g 97 [chT h] [] (B (z0h h)) []:=by
 have HX:=z8F g h.x hx;have HO:=z8F g h.o ho;have HF:=z2S g h.f hf;have HN:=z2S g h.n hn;have HM:=z2S g h.m hm;have HT:=zeW g h.t;change SCalls _ _ _ _ _ (B (psB h.x)) _ at HX;change SCalls _ _ _ _ _ (B (psB h.o)) _ at HO;by_cases hk:1≤h.k∧h.k≤6
 ·have HC:=zfW g h hk;have HS:(_:Option (TV×Upd))=_:=zps h.k (z07 h).k (str h.f) (str h.n) (str h.m) (str (z07 h).f) (str (z07 h).n) (str (z07 h).m) h.t.k h.t.o (z07 h).t.k (z07 h).t.o (str h.x) (str h.o) (str (z07 h).x) (str (z07 h).o);simp only[znq]at HS;have hsm:((h.k==(z07 h).k)&&((h.f==(z07 h).f)&&((h.n==(z07 h).n)&&((h.m==(z07 h).m)&&(z0f ⟨h.t.k,h.t.o⟩ ⟨(z07 h).t.k,(z07 h).t.o⟩&&((h.x==(z07 h).x)&&((h.o==(z07 h).o)&&true)))))))=z0i h (z07 h):=rfl;rw[hsm]at HS;obtain⟨k,f,n,m,⟨tk,ot⟩,x,o⟩:=h
  dsimp only at*
  have hk':k=1∨k=2∨k=3∨k=4∨k=5∨k=6:=by omega
  clear hk;rcases hk' with rfl|rfl|rfl|rfl|rfl|rfl
  ·have hw:z0h ⟨1,f,n,m,⟨tk,ot⟩,x,o⟩=(z0i (⟨1,f,n,m,⟨tk,ot⟩,x,o⟩:Chg) (z07 (⟨1,f,n,m,⟨tk,ot⟩,x,o⟩:Chg))&&(zb n&&(zh ⟨tk,ot⟩&&(psB x&&(psB o))))):=by
    rw[Bool.eq_iff_iff];simp only[z0h,z0E,z1H,z3R,z0i,z07,psB,z0f,ty0,Bool.and_eq_true,Bool.or_eq_true,beq_iff_eq,decide_eq_true_eq,if_true,if_false,Bool.false_eq_true,true_and,and_true,show((1:Int)=1)=True from by simp,show((1:Int)=2)=False from by simp,show((1:Int)=6)=False from by simp,show((1:Int)=3)=False from by simp,show((1:Int)=4)=False from by simp,show((1:Int)=5)=False from by simp,false_or,or_false,true_or,or_true];constructor
    ·intro h;simp_all
    ·intro h;simp_all
   rw[hw];clear hw;generalize z0i (⟨1,f,n,m,⟨tk,ot⟩,x,o⟩:Chg) (z07 ⟨1,f,n,m,⟨tk,ot⟩,x,o⟩)=sb at*;simp only[z07,ty0,chT,if_true,if_false,show((1:Int)=1)=True from by simp,show((1:Int)=3)=False from by simp,show((1:Int)=4)=False from by simp,show((1:Int)=5)=False from by simp]at HC HS;generalize zb f=bf at*;generalize zb n=bn at*;generalize zh ⟨tk,ot⟩=bt at*;generalize zb m=bm at*;generalize psB x=px at*;generalize psB o=po at*;refine za tf_154 ?_;unfold chT B tyT at*;simp only[vW,seval];refine z7 HC ?_;simp only[vW,seval,HS];cases sb
   ·simp only[vW,seval];try rfl
   simp only[vW,seval];refine z7 HN ?_;cases bn
   ·simp only[vW,seval];try rfl
   simp only[vW,seval];refine z7 HT ?_;cases bt
   ·simp only[vW,seval];try rfl
   simp only[vW,seval];refine z7 HX ?_;cases px
   ·simp only[vW,seval];try rfl
   simp only[vW,seval];refine z7 HO ?_;cases po
   ·simp only[vW,seval];try rfl
   simp only[vW,seval];try rfl
  ·have hw:z0h ⟨2,f,n,m,⟨tk,ot⟩,x,o⟩=(z0i (⟨2,f,n,m,⟨tk,ot⟩,x,o⟩:Chg) (z07 (⟨2,f,n,m,⟨tk,ot⟩,x,o⟩:Chg))&&(zb f&&(psB x&&(psB o)))):=by
    rw[Bool.eq_iff_iff];simp only[z0h,z0E,z1H,z3R,z0i,z07,psB,z0f,ty0,Bool.and_eq_true,Bool.or_eq_true,beq_iff_eq,decide_eq_true_eq,if_true,if_false,Bool.false_eq_true,true_and,and_true,show((2:Int)=1)=False from by simp,show((2:Int)=2)=True from by simp,show((2:Int)=6)=False from by simp,show((2:Int)=3)=False from by simp,show((2:Int)=4)=False from by simp,show((2:Int)=5)=False from by simp,false_or,or_false,true_or,or_true];constructor
    ·intro h;simp_all
    ·intro h;simp_all
   rw[hw];clear hw;generalize z0i (⟨2,f,n,m,⟨tk,ot⟩,x,o⟩:Chg) (z07 ⟨2,f,n,m,⟨tk,ot⟩,x,o⟩)=sb at*;simp only[z07,ty0,chT,if_true,if_false,show((2:Int)=1)=False from by simp,show((2:Int)=3)=False from by simp,show((2:Int)=4)=False from by simp,show((2:Int)=5)=False from by simp]at HC HS;generalize zb f=bf at*;generalize zb n=bn at*;generalize zh ⟨tk,ot⟩=bt at*;generalize zb m=bm at*;generalize psB x=px at*;generalize psB o=po at*;refine za tf_154 ?_;unfold chT B tyT at*;simp only[vW,seval];refine z7 HC ?_;simp only[vW,seval,HS];cases sb
   ·simp only[vW,seval];try rfl
   simp only[vW,seval];refine z7 HF ?_;cases bf
   ·simp only[vW,seval];try rfl
   simp only[vW,seval];refine z7 HX ?_;cases px
   ·simp only[vW,seval];try rfl
   simp only[vW,seval];refine z7 HO ?_;cases po
   ·simp only[vW,seval];try rfl
   simp only[vW,seval];try rfl
  ·have hw:z0h ⟨3,f,n,m,⟨tk,ot⟩,x,o⟩=(z0i (⟨3,f,n,m,⟨tk,ot⟩,x,o⟩:Chg) (z07 (⟨3,f,n,m,⟨tk,ot⟩,x,o⟩:Chg))&&(zb f&&(zb n&&(psB x&&(psB o))))):=by
    rw[Bool.eq_iff_iff];simp only[z0h,z0E,z1H,z3R,z0i,z07,psB,z0f,ty0,Bool.and_eq_true,Bool.or_eq_true,beq_iff_eq,decide_eq_true_eq,if_true,if_false,Bool.false_eq_true,true_and,and_true,show((3:Int)=1)=False from by simp,show((3:Int)=2)=False from by simp,show((3:Int)=6)=False from by simp,show((3:Int)=3)=True from by simp,show((3:Int)=4)=False from by simp,show((3:Int)=5)=False from by simp,false_or,or_false,true_or,or_true];constructor
    ·intro h;simp_all
    ·intro h;simp_all
   rw[hw];clear hw;generalize z0i (⟨3,f,n,m,⟨tk,ot⟩,x,o⟩:Chg) (z07 ⟨3,f,n,m,⟨tk,ot⟩,x,o⟩)=sb at*;simp only[z07,ty0,chT,if_true,if_false,show((3:Int)=1)=False from by simp,show((3:Int)=3)=True from by simp,show((3:Int)=4)=False from by simp,show((3:Int)=5)=False from by simp]at HC HS;generalize zb f=bf at*;generalize zb n=bn at*;generalize zh ⟨tk,ot⟩=bt at*;generalize zb m=bm at*;generalize psB x=px at*;generalize psB o=po at*;refine za tf_154 ?_;unfold chT B tyT at*;simp only[vW,seval];refine z7 HC ?_;simp only[vW,seval,HS];cases sb
   ·simp only[vW,seval];try rfl
   simp only[vW,seval];refine z7 HF ?_;cases bf
   ·simp only[vW,seval];try rfl
   simp only[vW,seval];refine z7 HN ?_;cases bn
   ·simp only[vW,seval];try rfl
   simp only[vW,seval];refine z7 HX ?_;cases px
   ·simp only[vW,seval];try rfl
   simp only[vW,seval];refine z7 HO ?_;cases po
   ·simp only[vW,seval];try rfl
   simp only[vW,seval];try rfl
  ·have hw:z0h ⟨4,f,n,m,⟨tk,ot⟩,x,o⟩=(z0i (⟨4,f,n,m,⟨tk,ot⟩,x,o⟩:Chg) (z07 (⟨4,f,n,m,⟨tk,ot⟩,x,o⟩:Chg))&&(zb f&&(zh ⟨tk,ot⟩&&(psB x&&(psB o))))):=by
    rw[Bool.eq_iff_iff];simp only[z0h,z0E,z1H,z3R,z0i,z07,psB,z0f,ty0,Bool.and_eq_true,Bool.or_eq_true,beq_iff_eq,decide_eq_true_eq,if_true,if_false,Bool.false_eq_true,true_and,and_true,show((4:Int)=1)=False from by simp,show((4:Int)=2)=False from by simp,show((4:Int)=6)=False from by simp,show((4:Int)=3)=False from by simp,show((4:Int)=4)=True from by simp,show((4:Int)=5)=False from by simp,false_or,or_false,true_or,or_true];constructor
    ·intro h;simp_all
    ·intro h;simp_all
   rw[hw];clear hw;generalize z0i (⟨4,f,n,m,⟨tk,ot⟩,x,o⟩:Chg) (z07 ⟨4,f,n,m,⟨tk,ot⟩,x,o⟩)=sb at*;simp only[z07,ty0,chT,if_true,if_false,show((4:Int)=1)=False from by simp,show((4:Int)=3)=False from by simp,show((4:Int)=4)=True from by simp,show((4:Int)=5)=False from by simp]at HC HS;generalize zb f=bf at*;generalize zb n=bn at*;generalize zh ⟨tk,ot⟩=bt at*;generalize zb m=bm at*;generalize psB x=px at*;generalize psB o=po at*;refine za tf_154 ?_;unfold chT B tyT at*;simp only[vW,seval];refine z7 HC ?_;simp only[vW,seval,HS];cases sb
   ·simp only[vW,seval];try rfl
   simp only[vW,seval];refine z7 HF ?_;cases bf
   ·simp only[vW,seval];try rfl
   simp only[vW,seval];refine z7 HT ?_;cases bt
   ·simp only[vW,seval];try rfl
   simp only[vW,seval];refine z7 HX ?_;cases px
   ·simp only[vW,seval];try rfl
   simp only[vW,seval];refine z7 HO ?_;cases po
   ·simp only[vW,seval];try rfl
   simp only[vW,seval];try rfl
  ·have hw:z0h ⟨5,f,n,m,⟨tk,ot⟩,x,o⟩=(z0i (⟨5,f,n,m,⟨tk,ot⟩,x,o⟩:Chg) (z07 (⟨5,f,n,m,⟨tk,ot⟩,x,o⟩:Chg))&&(zb f&&(zb n&&(zh ⟨tk,ot⟩&&(zb m&&(psB x&&(psB o))))))):=by
    rw[Bool.eq_iff_iff];simp only[z0h,z0E,z1H,z3R,z0i,z07,psB,z0f,ty0,Bool.and_eq_true,Bool.or_eq_true,beq_iff_eq,decide_eq_true_eq,if_true,if_false,Bool.false_eq_true,true_and,and_true,show((5:Int)=1)=False from by simp,show((5:Int)=2)=False from by simp,show((5:Int)=6)=False from by simp,show((5:Int)=3)=False from by simp,show((5:Int)=4)=False from by simp,show((5:Int)=5)=True from by simp,false_or,or_false,true_or,or_true];constructor
    ·intro h;simp_all
    ·intro h;simp_all
   rw[hw];clear hw;generalize z0i (⟨5,f,n,m,⟨tk,ot⟩,x,o⟩:Chg) (z07 ⟨5,f,n,m,⟨tk,ot⟩,x,o⟩)=sb at*;simp only[z07,ty0,chT,if_true,if_false,show((5:Int)=1)=False from by simp,show((5:Int)=3)=False from by simp,show((5:Int)=4)=False from by simp,show((5:Int)=5)=True from by simp]at HC HS;generalize zb f=bf at*;generalize zb n=bn at*;generalize zh ⟨tk,ot⟩=bt at*;generalize zb m=bm at*;generalize psB x=px at*;generalize psB o=po at*;refine za tf_154 ?_;unfold chT B tyT at*;simp only[vW,seval];refine z7 HC ?_;simp only[vW,seval,HS];cases sb
   ·simp only[vW,seval];try rfl
   simp only[vW,seval];refine z7 HF ?_;cases bf
   ·simp only[vW,seval];try rfl
   simp only[vW,seval];refine z7 HN ?_;cases bn
   ·simp only[vW,seval];try rfl
   simp only[vW,seval];refine z7 HT ?_;cases bt
   ·simp only[vW,seval];try rfl
   simp only[vW,seval];refine z7 HM ?_;cases bm
   ·simp only[vW,seval];try rfl
   simp only[vW,seval];refine z7 HX ?_;cases px
   ·simp only[vW,seval];try rfl
   simp only[vW,seval];refine z7 HO ?_;cases po
   ·simp only[vW,seval];try rfl
   simp only[vW,seval];try rfl
  ·have hw:z0h ⟨6,f,n,m,⟨tk,ot⟩,x,o⟩=(z0i (⟨6,f,n,m,⟨tk,ot⟩,x,o⟩:Chg) (z07 (⟨6,f,n,m,⟨tk,ot⟩,x,o⟩:Chg))&&(zb f&&(psB x&&(psB o)))):=by
    rw[Bool.eq_iff_iff];simp only[z0h,z0E,z1H,z3R,z0i,z07,psB,z0f,ty0,Bool.and_eq_true,Bool.or_eq_true,beq_iff_eq,decide_eq_true_eq,if_true,if_false,Bool.false_eq_true,true_and,and_true,show((6:Int)=1)=False from by simp,show((6:Int)=2)=False from by simp,show((6:Int)=6)=True from by simp,show((6:Int)=3)=False from by simp,show((6:Int)=4)=False from by simp,show((6:Int)=5)=False from by simp,false_or,or_false,true_or,or_true];constructor
    ·intro h;simp_all
    ·intro h;simp_all
   rw[hw];clear hw;generalize z0i (⟨6,f,n,m,⟨tk,ot⟩,x,o⟩:Chg) (z07 ⟨6,f,n,m,⟨tk,ot⟩,x,o⟩)=sb at*;simp only[z07,ty0,chT,if_true,if_false,show((6:Int)=1)=False from by simp,show((6:Int)=3)=False from by simp,show((6:Int)=4)=False from by simp,show((6:Int)=5)=False from by simp]at HC HS;generalize zb f=bf at*;generalize zb n=bn at*;generalize zh ⟨tk,ot⟩=bt at*;generalize zb m=bm at*;generalize psB x=px at*;generalize psB o=po at*;refine za tf_154 ?_;unfold chT B tyT at*;simp only[vW,seval];refine z7 HC ?_;simp only[vW,seval,HS];cases sb
   ·simp only[vW,seval];try rfl
   simp only[vW,seval];refine z7 HF ?_;cases bf
   ·simp only[vW,seval];try rfl
   simp only[vW,seval];refine z7 HX ?_;cases px
   ·simp only[vW,seval];try rfl
   simp only[vW,seval];refine z7 HO ?_;cases po
   ·simp only[vW,seval];try rfl
   simp only[vW,seval];try rfl
 ·have hw:z0h h=false:=by
   unfold z0h z0E;rw[if_neg (by omega),if_neg (by omega),if_neg (by omega),if_neg (by omega),if_neg (by omega)];rfl
  rw[hw];refine za tf_154 ?_;unfold chT B;by_cases h1:h.k<1
  ·simp only[vW,seval,h1]
  ·have h6:6<h.k:=by omega
   simp only[vW,seval,h1,h6]
end Go.Proofs.YtbkgnekfigknhaaGreatDoor
end
