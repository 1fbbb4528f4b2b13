/- Merged texts: Zf5 Cd2 Zt1 Zo5 Ze27 Ze28 Zo1 Po1 Zo6. No statement of the program is proved here. -/
import Derived.Test.YtbkgnekfigknhaaGreatDoorR28
import Derived.Test.YtbkgnekfigknhaaGreatDoorR30
set_option linter.unusedSimpArgs false
set_option linter.unusedVariables false
set_option maxRecDepth 100000
set_option maxHeartbeats 8000000
section
namespace Go.Proofs.YtbkgnekfigknhaaGreatDoor
open Go Go.RowKit Go.Mor Go.Sh Go.Sh.Cd1 Go.Sh.Cd5
theorem z6Y(g:Sh.Glob)(s:zB):zC g 196 [S (str s)] [] (I (zm s)) []:=by
 refine za tf_141 ?_;have q1:=bS [108,101,110];have q2:=bS [116,101,120,116];have q3:=bS [110,117,109];have q4:=bS [108,101,102,116];have q5:=bS [114,105,103,104,116];have q6:=bS [102,114,111,109];have q7:=bS [102,105,110,100];have q8:=bS [109,105,110];have q9:=bS [109,97,120];have q10:=bS [105,102];have hb:∀t:zB,(s==t)=decide (s=t):=fun t=>by rw[Bool.eq_iff_iff];simp
 unfold zm;simp only[vW,seval,q1,q2,q3,q4,q5,q6,q7,q8,q9,q10,hb]
 repeat' (first|(apply And.intro)|(intro _))
 all_goals simp_all
theorem z6Z(g:Sh.Glob)(s:zB):zC g 195 [S (str s)] [] (I (zf s)) []:=by
 refine za tf_142 ?_;have q1:=bS [42];have q2:=bS [47];have q3:=bS [37];have q4:=bS [43];have q5:=bS [45];have q6:=bS [38];have q7:=bS [61];have q8:=bS [60,62];have q9:=bS [60];have q10:=bS [60,61];have q11:=bS [62];have q12:=bS [62,61];have hb:∀t:zB,(s==t)=decide (s=t):=fun t=>by rw[Bool.eq_iff_iff];simp
 unfold zf;simp only[vW,seval,q1,q2,q3,q4,q5,q6,q7,q8,q9,q10,q11,q12,hb]
 repeat' (first|(apply And.intro)|(intro _))
 all_goals simp_all
end Go.Proofs.YtbkgnekfigknhaaGreatDoor
end

section
namespace Go.Sh.Cd2
open Go Go.Sh
abbrev gQ(a:GA):Prop:=gT Go.Proofs.Tryz.prog a
theorem gK{a:GA}(h:gQ a:=by unfold gQ gT;kernel_rfl):gQ a:=h
theorem tf_133:gQ ⟨194,138,[],[],[[0,2],[6],[9],[1,7008,10023],[8,25],[1,7,24,26044],[24,46],[7,45,47049],[1,3,50067],[45,69],[70],[1,7,68,71099],[7,68,101],[100,102114],[1,115],[2,115],[116119],[2,121122,137],[120,123128],[1,4,129],[2,129135],[5,136],[1,4,137],[1,4],[1,100]],[.tmp 2],false⟩:=gK
noncomputable def funcs:Nat→Option SFunc
 |_=>none
end Go.Sh.Cd2
end

section
namespace Go.Proofs.YtbkgnekfigknhaaGreatDoor
open Go Go.RowKit Go.Mor Go.Sh Go.Sh.Cd1
section
open Go.Sh.Cd2
theorem ze9(s:zB):zi s=(z35 s&&decide (s.length≤60)):=by
 unfold zi;rw[zkR s.length s (Nat.le_refl _),Bool.and_comm]
theorem zh2(n:Int):z2J n=(decide (1≤n)&&decide (n≤100000)||decide (-20≤n)&&decide (n≤ -1)):=by
 unfold z2J;rw[Bool.eq_iff_iff];simp
theorem zfY(g:Sh.Glob)(x:V)(hs:z1w x)(h5:x.k≠5):zC g 194 [tv x] [] (B (z15 x)) []:=by
 obtain⟨k,n,s,l⟩:=x;have HT:=zkS g s hs;have hln:decide ((l.length:Int)=0)=(l.length==0):=by rw[Bool.eq_iff_iff];simp
 have k5:¬k=5:=h5;have hl60:decide ((s.length:Int)≤60)=decide (s.length≤60):=by rw[Bool.eq_iff_iff];simp;omega
 have hb:bare (.mk k n s l)=(s==[]&&l.length==0):=rfl;have hn0:(n==0)=decide (n=0):=by rw[Bool.eq_iff_iff];simp
 rw[zdG,hb,ze9,zh2,hn0];clear h5 hs hb;have key:∀(kk:Int),kk=3∨kk=4→zC g 194 [tv (.mk kk n s l)] [] (.pv (.v (.bool ((s==[]&&l.length==0)&&(decide (1≤n)&&decide (n≤100000)||decide (-20≤n)&&decide (n≤ -1)))))) []:=by
  intro kk hkk;refine za tf_133 ?_;rcases hkk with rfl|rfl
  all_goals
   by_cases hid:(1≤n∧n≤100000)∨(-20≤n∧n≤ -1)
   ·have e:(decide (1≤n)&&decide (n≤100000)||decide (-20≤n)&&decide (n≤ -1))=true:=by simpa using hid
    rw[e];rcases hid with⟨q1,q2⟩|⟨q3,q4⟩
    ·cases hs:s==[]<;>simp only[vW,seval,e0,q1,q2,hs,hln]
    ·have q1:¬1≤n:=by omega
     cases hs:s==[]<;>simp only[vW,seval,e0,q1,q3,q4,hs,hln]
   ·have e:(decide (1≤n)&&decide (n≤100000)||decide (-20≤n)&&decide (n≤ -1))=false:=by rw[←Bool.not_eq_true];simpa using hid
    rw[e];by_cases q1:1≤n
    ·have q2:¬n≤100000:=by omega
     have q3: -20≤n:=by omega
     have q4:¬n≤ -1:=by omega
     simp only[vW,seval,q1,q2,q3,q4]
    ·by_cases q3: -20≤n
     ·have q4:¬n≤ -1:=by omega
      simp only[vW,seval,q1,q3,q4]
     ·simp only[vW,seval,q1,q3]
 by_cases k34:k=3∨k=4
 ·rw[if_neg (by omega),if_neg (by omega),if_neg (by omega),if_pos k34];exact key k k34
 clear key;refine za tf_133 ?_;unfold B at*;by_cases k0:k=0
 ·subst k0;by_cases n0:n=0
  ·subst n0;cases hs:s==[]<;>simp only[vW,seval,e0,hs,hln]
  ·simp only[vW,seval,n0]
 rw[if_neg k0];by_cases k1:k=1
 ·subst k1;by_cases q1: -1000000000000000≤n
  ·by_cases q2:n≤1000000000000000
   ·cases hs:s==[]<;>simp only[vW,seval,e0,q1,q2,hs,hln]
   ·simp only[vW,seval,q1,q2]
  ·simp only[vW,seval,q1]
 rw[if_neg k1];by_cases k2:k=2
 ·subst k2;simp only[vW,seval];refine z7 HT ?_;by_cases n0:n=0
  ·subst n0;cases z35 s
   ·simp only[vW,seval]
   ·by_cases q:(s.length:Int)≤60
    ·have q':s.length≤60:=by omega
     simp only[vW,seval,q,q',hln]
    ·have q':¬s.length≤60:=by omega
     simp only[vW,seval,q,q']
  ·simp only[vW,seval,n0]
 rw[if_neg k2];rw[if_neg k34];have k3:¬k=3:=fun h=>k34 (.inl h);have k4:¬k=4:=fun h=>k34 (.inr h);simp only[vW,seval,k0,k1,k2,k3,k4,k5]
end
section
open Go.Sh.Cd7
theorem z30(g:Sh.Glob)(l:zB)(hl:l.length<4611686018427387904):zC g 168 [S (str l)] [] (B (zb l)) []:=by
 refine za tf_137 ?_;unfold B;by_cases h1:1≤l.length
 ·have d1:¬(l.length:Int)<1:=by omega
  by_cases h20:l.length≤20
  ·have d2:¬(20:Int)<(l.length:Int):=by omega
   have hR:zb l=(small (l.headD 0)&&l.all zJ):=by unfold zb;rw[decide_eq_true ⟨h1,h20⟩];simp
   rw[hR];obtain⟨r,hr⟩:∃r,(small (l.headD 0)&&l.all zJ)=r:=⟨_,rfl⟩
   rw[hr];simp only[vW,seval,d1,d2];refine zp (σ:={ k:Nat // k≤l.length∧(0<k→small (l.headD 0)=true)∧(l.drop k).all zJ=l.all zJ })
    (fun k=>⟨[(0,S (str l)),(3,I (k.1:Int))],[],[],[]⟩) (fun k=>l.length-k.1) ⟨0,Nat.zero_le _,by omega,rfl⟩ ?_ ?_
   ·exact lwA
   rintro⟨k,hk,hh,hd⟩;by_cases hlt:k<l.length
   ·have d3:(k:Int)<(l.length:Int):=by omega
    obtain⟨b,eb⟩:∃b,l[k]?=some b:=⟨_,gE hlt⟩
    rw[z22 eb,List.all_cons]at hd;have hbn:=b.toNat_lt;have w4:=wS k;have h0:k=0→l.headD 0=b:=by
     rintro rfl;cases l with
     |nil=>simp at eb
     |cons x r=>simpa using eb
    have cls:(b.toNat<48)∨(48≤b.toNat∧b.toNat≤57)∨(57<b.toNat∧b.toNat<97∧b.toNat≠95)∨b.toNat=95∨(97≤b.toNat∧b.toNat≤122)∨122<b.toNat:=by omega
    rcases cls with q|q|q|q|q|q
    ·have t1:¬(97:Int)≤(b.toNat:Int):=by omega
     have t3:¬(48:Int)≤(b.toNat:Int):=by omega
     have t5:¬(b.toNat:Int)=95:=by omega
     have hn:zJ b=false:=by unfold zJ small;simp;omega
     rw[hn,Bool.false_and]at hd;have hf:r=false:=by rw[←hr,←hd,Bool.and_false]
     subst hf;by_cases k0:(k:Int)=0
     ·have k00:k=0:=by omega
      have d30:(0:Int)<(l.length:Int):=by omega
      have e00:l[0]?=some b:=by rw[←k00];exact eb
      simp only[vW,seval,d3,eb,t1,t3,t5,k0,d30,e00]
     ·simp only[vW,seval,d3,eb,t1,t3,t5,k0]
    ·have t1:¬(97:Int)≤(b.toNat:Int):=by omega
     have t3:(48:Int)≤(b.toNat:Int):=by omega
     have t4:(b.toNat:Int)≤57:=by omega
     have hn:zJ b=true:=by unfold zJ;simp;omega
     have hs:small b=false:=by unfold small;simp;omega
     rw[hn,Bool.true_and]at hd;by_cases k0:(k:Int)=0
     ·have k00:k=0:=by omega
      have d30:(0:Int)<(l.length:Int):=by omega
      have e00:l[0]?=some b:=by rw[←k00];exact eb
      have hf:r=false:=by rw[←hr,h0 (by omega),hs];rfl
      subst hf;simp only[vW,seval,d3,eb,t1,t3,t4,k0,d30,e00]
     ·simp only[vW,seval,d3,eb,t1,t3,t4,k0,w4];refine zc ⟨k+1,hlt,fun _=>hh (by omega),hd⟩ (by show l.length-(k+1)<l.length-k;omega) ?_;exact lwA
    ·have t1:¬(97:Int)≤(b.toNat:Int):=by omega
     have t3:(48:Int)≤(b.toNat:Int):=by omega
     have t4:¬(b.toNat:Int)≤57:=by omega
     have t5:¬(b.toNat:Int)=95:=by omega
     have hn:zJ b=false:=by unfold zJ small;simp;omega
     rw[hn,Bool.false_and]at hd;have hf:r=false:=by rw[←hr,←hd,Bool.and_false]
     subst hf;by_cases k0:(k:Int)=0
     ·have k00:k=0:=by omega
      have d30:(0:Int)<(l.length:Int):=by omega
      have e00:l[0]?=some b:=by rw[←k00];exact eb
      simp only[vW,seval,d3,eb,t1,t3,t4,t5,k0,d30,e00]
     ·simp only[vW,seval,d3,eb,t1,t3,t4,t5,k0]
    ·have t1:¬(97:Int)≤(b.toNat:Int):=by omega
     have t3:(48:Int)≤(b.toNat:Int):=by omega
     have t4:¬(b.toNat:Int)≤57:=by omega
     have t5:(b.toNat:Int)=95:=by omega
     have hn:zJ b=true:=by unfold zJ;simp[q]
     have hs:small b=false:=by unfold small;simp;omega
     rw[hn,Bool.true_and]at hd;by_cases k0:(k:Int)=0
     ·have k00:k=0:=by omega
      have d30:(0:Int)<(l.length:Int):=by omega
      have e00:l[0]?=some b:=by rw[←k00];exact eb
      have hf:r=false:=by rw[←hr,h0 (by omega),hs];rfl
      subst hf;simp only[vW,seval,d3,eb,t1,t3,t4,t5,k0,d30,e00]
     ·simp only[vW,seval,d3,eb,t1,t3,t4,t5,k0,w4];refine zc ⟨k+1,hlt,fun _=>hh (by omega),hd⟩ (by show l.length-(k+1)<l.length-k;omega) ?_;exact lwA
    ·have t1:(97:Int)≤(b.toNat:Int):=by omega
     have t2:(b.toNat:Int)≤122:=by omega
     have t3:(48:Int)≤(b.toNat:Int):=by omega
     have t4:¬(b.toNat:Int)≤57:=by omega
     have t5:¬(b.toNat:Int)=95:=by omega
     have hs:small b=true:=by unfold small;simp;omega
     have hn:zJ b=true:=by unfold zJ;rw[hs];rfl
     rw[hn,Bool.true_and]at hd;simp only[vW,seval,d3,eb,t1,t2,t3,t4,t5,w4];refine zc ⟨k+1,hlt,fun _=> ?_,hd⟩ (by show l.length-(k+1)<l.length-k;omega) ?_
     ·by_cases k0:k=0
      ·rw[h0 k0];exact hs
      ·exact hh (by omega)
     exact lwA
    ·have t1:(97:Int)≤(b.toNat:Int):=by omega
     have t2:¬(b.toNat:Int)≤122:=by omega
     have t3:(48:Int)≤(b.toNat:Int):=by omega
     have t4:¬(b.toNat:Int)≤57:=by omega
     have t5:¬(b.toNat:Int)=95:=by omega
     have hn:zJ b=false:=by unfold zJ small;simp;omega
     rw[hn,Bool.false_and]at hd;have hf:r=false:=by rw[←hr,←hd,Bool.and_false]
     subst hf;by_cases k0:(k:Int)=0
     ·have k00:k=0:=by omega
      have d30:(0:Int)<(l.length:Int):=by omega
      have e00:l[0]?=some b:=by rw[←k00];exact eb
      simp only[vW,seval,d3,eb,t1,t2,t3,t4,t5,k0,d30,e00]
     ·simp only[vW,seval,d3,eb,t1,t2,t3,t4,t5,k0]
   ·have d3:¬(k:Int)<(l.length:Int):=by omega
    rw[List.drop_eq_nil_of_le (by omega)]at hd;have hf:r=true:=by rw[←hr,←hd,hh (by omega)];rfl
    subst hf;simp only[vW,seval,d3]
  ·have d2:(20:Int)<(l.length:Int):=by omega
   have hR:zb l=false:=by unfold zb;rw[decide_eq_false (by omega)];rfl
   rw[hR];simp only[vW,seval,d1,d2]
 ·have d1:(l.length:Int)<1:=by omega
  have hR:zb l=false:=by unfold zb;rw[decide_eq_false (by omega)];rfl
  rw[hR];simp only[vW,seval,d1]
end
section
open Go.Sh.Cd5
theorem zam(g:Sh.Glob)(l:zB)(hl:l.length<4611686018427387904):zC g 194 [nv (.mk 2 0 l [])] [] (B (zi l)) []:=by
 have HR:=zfY g (.mk 2 0 l []) (by unfold z1w V.s;simp only;omega) (by simp[V.k]);have hk:z15 (.mk 2 0 l [])=zi l:=by unfold z15;simp[V.k,V.n,V.l,V.s]
 rw[hk]at HR;exact HR.inp (xs:=[nv (.mk 2 0 l [])]) rfl (fun j c d hc hd=>by
  match j with
  |0=>simp at hc hd;subst hc;subst hd;exact z1q rfl
  |j+1=>simp at hc)
theorem zjr(g:Sh.Glob)(e:V)(he:ESmall e):zC g 161 [tv e] [] (B (z0p e)) []:=by
 refine za tf_147 ?_;have HT:=zam g e.s he.txt;have HN:=z30 g e.s he.txt;have HB:=z6Z g e.s;have HK:=z6Y g e.s;have e0:=bS [];have hlen0:decide ((e.l.length:Int)=0)=(e.l.length==0):=by rw[Bool.eq_iff_iff];simp
 have hlen1:decide ((e.l.length:Int)=1)=(e.l.length==1):=by rw[Bool.eq_iff_iff];simp;omega
 have hlen2:decide ((e.l.length:Int)=2)=(e.l.length==2):=by rw[Bool.eq_iff_iff];simp;omega
 have e45:=bS [45];unfold nv at HT;unfold B at*;unfold z0p;by_cases k1:e.k=1
 ·rw[if_neg (by simp[k1]),if_pos k1];simp only[vW,seval,bmV,k1,e0,zqP]
  repeat' (first|(apply And.intro)|(intro _))
  all_goals(first|(simp_all;done)|(simp only[Option.some.injEq,Prod.mk.injEq,TV.pv.injEq,PV.v.injEq,Value.bool.injEq];rw[Bool.eq_iff_iff];simp_all<;>omega))
 by_cases n0:e.n=0
 ·rw[if_neg (by simp[n0]),if_neg k1];by_cases k2:e.k=2
  ·rw[if_pos k2];simp only[vW,seval,bmV,k2,n0];refine z7 HT ?_;cases zi e.s
   ·simp only[vW,seval,bmV]
   ·simp only[vW,seval,bmV,hlen0,Bool.true_and]
  rw[if_neg k2];by_cases k3:e.k=3
  ·rw[if_pos k3];simp only[vW,seval,bmV,k3,n0];refine z7 HN ?_;cases zb e.s
   ·simp only[vW,seval,bmV]
   ·simp only[vW,seval,bmV,hlen0,Bool.true_and]
  rw[if_neg k3];by_cases k4:e.k=4
  ·rw[if_pos k4];simp only[vW,seval,bmV,k4,n0];refine z7 HB ?_;simp only[vW,seval,bmV];refine⟨fun h=> ?_,fun h=> ?_⟩
   ·rw[decide_eq_true h,hlen2,Bool.true_and]
   ·rw[decide_eq_false h,Bool.false_and]
  rw[if_neg k4];by_cases k5:e.k=5
  ·rw[if_pos k5];simp only[vW,seval,bmV,k5,n0,e45];cases e.s==[45]
   ·simp only[vW,seval,bmV]
   ·simp only[vW,seval,bmV,hlen1,Bool.true_and]
  rw[if_neg k5];by_cases k6:e.k=6
  ·rw[if_pos k6];simp only[vW,seval,bmV,k6,n0];refine z7 HK ?_;simp only[vW,seval,bmV];refine⟨fun h=> ?_,fun h=> ?_⟩
   ·refine z7 HK ?_;simp only[vW,seval,bmV,h]
   ·rw[decide_eq_false h,Bool.false_and]
  ·rw[if_neg k6];simp only[vW,seval,bmV,k1,k2,k3,k4,k5,k6,n0]
 ·rw[if_pos ⟨k1,n0⟩];by_cases k2:e.k=2
  ·simp only[vW,seval,bmV,k2,n0]
  by_cases k3:e.k=3
  ·simp only[vW,seval,bmV,k3,n0]
  by_cases k4:e.k=4
  ·simp only[vW,seval,bmV,k4,n0]
  by_cases k5:e.k=5
  ·simp only[vW,seval,bmV,k5,n0]
  by_cases k6:e.k=6
  ·simp only[vW,seval,bmV,k6,n0]
  simp only[vW,seval,bmV,k1,k2,k3,k4,k5,k6]
def z5j(d:Nat)(e:V)(n:Nat):Int:=if okE d e=true∧szE d e≤n then((n-szE d e:Nat):Int)else -1
def z5S(d:Nat):List V→Nat→Int
 |[],n=>n
 |x::l,n=>if okE d x=true∧szE d x≤n then z5S d l (n-szE d x)else -1
theorem zg2(d:Nat):∀(l:List V) (n:Nat),z5S d l n=if(∀x∈l,okE d x=true)∧(l.map (szE d)).sum≤n then((n-(l.map (szE d)).sum:Nat):Int)else -1
 |[],n=>by simp[z5S]
 |x::l,n=>by
  have ih:=zg2 d l (n-szE d x);unfold z5S;by_cases h1:okE d x=true∧szE d x≤n
  ·rw[if_pos h1,ih];by_cases h2:(∀y∈l,okE d y=true)∧(l.map (szE d)).sum≤n-szE d x
   ·rw[if_pos h2,if_pos]
    ·rw[List.map_cons,List.sum_cons];congr 1;omega
    ·refine⟨fun y hy=> ?_,by rw[List.map_cons,List.sum_cons];omega⟩;rcases List.mem_cons.1 hy with rfl|hy
     ·exact h1.1
     ·exact h2.1 y hy
   ·rw[if_neg h2,if_neg];rintro⟨h3,h4⟩;rw[List.map_cons,List.sum_cons]at h4;exact h2 ⟨fun y hy=>h3 y (List.mem_cons_of_mem _ hy),by omega⟩
  ·rw[if_neg h1,if_neg];rintro⟨h3,h4⟩;rw[List.map_cons,List.sum_cons]at h4;exact h1 ⟨h3 x (List.mem_cons_self ..),by omega⟩
theorem zo0(d:Nat)(e:V)(n:Nat):z5j (d+1) e (n+1)=if z0p e then z5S d e.l n else -1:=by
 unfold z5j;rw[zg2,okE,szE];cases hn:z0p e
 ·simp
 ·simp only[Bool.true_and,if_true,List.all_eq_true];by_cases h:(∀x∈e.l,okE d x=true)∧(e.l.map (szE d)).sum≤n
  ·rw[if_pos h,if_pos ⟨h.1,by omega⟩];congr 1;omega
  ·rw[if_neg h,if_neg];rintro⟨h1,h2⟩;exact h ⟨h1,by omega⟩
def z6z(c:Option Nat):Int:=match c with|some n=>(n:Int)|none=> -1
theorem zjs(g:Sh.Glob):∀(d:Nat),d≤8→∀(e:V),ESmall e→∀(n:Nat),n≤40→zC g 89 [tv e,I (d:Int),I (n:Int)] [] (I (z5j d e n)) []:=by
 intro d
 induction d with
 |zero=>
  intro _ e he n hn;refine za tf_148 ?_;rw[show z5j 0 e n= -1 by unfold z5j;simp[okE]];simp only[vW,seval]
 |succ d ih=>
  intro hd e he n hn;refine za tf_148 ?_;have d0:¬((d+1:Nat):Int)<1:=by omega
  have HN:=zjr g e he;have HD:=fun e he n hn=>ih (by omega) e he n hn;have hl:=he.len;have w2:IntKind.i64.wrap (((d+1:Nat):Int) - 1)=(d:Int):=wG;unfold B at*;cases n with
  |zero=>
   rw[show z5j (d+1) e 0= -1 by unfold z5j szE;rw[if_neg (by omega)]];simp only[vW,seval,d0]
  |succ n=>
  have d1:¬((n+1:Nat):Int)<1:=by omega
  have w1:IntKind.i64.wrap (((n+1:Nat):Int) - 1)=(n:Int):=wG;rw[zo0];simp only[vW,seval,d0,d1];refine zt HN ?_;cases hN:z0p e
  ·simp only[vW,seval,d0,d1];try simp
  simp only[if_true];simp only[vW,seval,d0,d1,w1];generalize hR:z5S d e.l n=R;refine zp (σ:={x:Nat×Option Nat // x.1≤e.l.length∧(match x.2 with|some n=>n≤40∧z5S d (e.l.drop x.1) n=R|none=>R= -1)})
   (fun x=>⟨[(1,I ((d+1:Nat):Int)),(2,I (z6z x.1.2)),(3,.ptr 3 0),(7,I (x.1.1:Int))],[(3,[I e.k,I e.n,S (str e.s),.pv (.sl 4 (V.rows e.l))])],[],[]⟩)
   (fun x=>e.l.length-x.1.1) ⟨(0,some n),by omega,by omega,by simpa using hR⟩ ?_ ?_
  ·apply z0o<;>simp[leL,lk,sv,Nat.beq,I,S,ES.kill,has,drp,zD,z6z]
  rintro⟨⟨i,c⟩,hi,hq⟩;simp only at hi;have w3:=wS i;by_cases hlt:i<e.l.length
  ·have d2:(i:Int)<(e.l.length:Int):=by omega
   obtain⟨y,ey⟩:∃y,e.l[i]?=some y:=⟨_,gE hlt⟩
   have hdr:e.l.drop i=y::e.l.drop (i+1):=by rw[List.drop_eq_getElem_cons hlt];congr 1;exact(gJ ey).2
   cases c with
   |none=>
    have hq:R= -1:=hq;unfold z6z;simp only[vW,seval,d2];rw[hq]
   |some n1=>
    obtain⟨hn1,hq⟩:=hq;simp only at hq;rw[hdr]at hq;unfold z5S at hq;have d3:(0:Int)≤(n1:Int):=by omega
    have HY:=HD y (he.sub (gM ey)) n1 hn1;unfold z5j at HY;unfold z6z;by_cases hy:okE d y=true∧szE d y≤n1
    ·rw[if_pos hy]at hq HY;simp only[vW,seval,d2,d3,ey,w2];refine zt HY ?_;simp only[vW,seval,w3];refine zc ⟨(i+1,some (n1-szE d y)),by simp only;omega,by omega,hq⟩ (by show e.l.length-(i+1)<e.l.length-i;omega) ?_;apply z0o<;>simp[leL,lk,sv,Nat.beq,I,S,ES.kill,has,drp,zD,z6z]
    ·rw[if_neg hy]at hq HY;simp only[vW,seval,d2,d3,ey,w2];refine zt HY ?_;simp only[vW,seval,w3];refine zc ⟨(i+1,none),by simp only;omega,hq.symm⟩ (by show e.l.length-(i+1)<e.l.length-i;omega) ?_;apply z0o<;>simp[leL,lk,sv,Nat.beq,I,S,ES.kill,has,drp,zD,z6z]
  ·have d2:¬(i:Int)<(e.l.length:Int):=by omega
   obtain rfl:i=e.l.length:=by omega
   cases c with
   |none=>
    have hq:R= -1:=hq;unfold z6z;simp only[vW,seval,d2];rw[hq]
   |some n1=>
    obtain⟨hn1,hq⟩:=hq;simp only at hq;rw[List.drop_length]at hq;unfold z5S at hq;unfold z6z;simp only[vW,seval,d2];rw[hq]
theorem z6i(g:Sh.Glob)(e:V)(he:ESmall e):zC g 49 [tv e] [] (B (z0b e)) []:=by
 have HR:=zjs g 8 (by omega) e he 40 (by omega);have hr:decide (0≤z5j 8 e 40)=z0b e:=by
  unfold z5j z0b;rw[Bool.eq_iff_iff];by_cases h:okE 8 e=true∧szE 8 e≤40
  ·rw[if_pos h];simp[h.1,h.2]
  ·rw[if_neg h];simp only[Int.reduceNeg,decide_eq_true_eq,Bool.and_eq_true];exact⟨fun h1=>absurd h1 (by omega),fun h1=>absurd h1 h⟩
 unfold B;refine z0w tf_144 ?_;refine zt HR ?_;simp only[vW,seval,hr]
end
section
open Go.Sh.Cd7
theorem zav(b c:UInt8)(h:b≠c):¬(b.toNat:Int)=(c.toNat:Int):=fun e=>h (UInt8.toNat_inj.1 (by omega))
theorem z2I(g:Sh.Glob)(b:UInt8):zC g 232 [.pv (.v (.int .u8 (b.toNat:Int)))] [] (B (z0Q b)) []:=by
 refine za tf_145 ?_;have hb:z0Q b=(decide (48≤(b.toNat:Int))&&decide ((b.toNat:Int)≤57)):=by unfold z0Q;rw[Bool.eq_iff_iff];simp;omega
 rw[hb];unfold B;by_cases h1:48≤(b.toNat:Int)
 ·simp only[vW,seval,h1]
 ·simp only[vW,seval,h1]
theorem z71(g:Sh.Glob)(b:UInt8):zC g 234 [.pv (.v (.int .u8 (b.toNat:Int)))] [] (B (zJ b)) []:=by
 refine za tf_150 ?_;have h1:decide (97≤(b.toNat:Int))=decide (97≤b.toNat):=by rw[Bool.eq_iff_iff];simp;omega
 have h2:decide ((b.toNat:Int)≤122)=decide (b.toNat≤122):=by rw[Bool.eq_iff_iff];simp;omega
 have h3:decide (48≤(b.toNat:Int))=decide (48≤b.toNat):=by rw[Bool.eq_iff_iff];simp;omega
 have h4:decide ((b.toNat:Int)≤57)=decide (b.toNat≤57):=by rw[Bool.eq_iff_iff];simp;omega
 have h5:decide ((b.toNat:Int)=95)=(b.toNat==95):=by rw[Bool.eq_iff_iff];simp;omega
 unfold B zJ small;rw[Bool.decide_and,Bool.decide_and];simp only[vW,seval]
 repeat' (first|(apply And.intro)|(intro _))
 all_goals(first|(simp_all;done)|(simp_all;omega)|(simp_all<;>omega))
def z6L(a:Nat)(r:Option (zB×Nat)):TV:=match r with|some (t,k)=> .tuple [S (str t),I ((a+k:Nat):Int)]|none=> .tuple [S (str []),I 0]
theorem zh1(g:Sh.Glob)(s:zB)(a:Nat)(ha:a<s.length)(hs:s.length≤1000):zC g 233 [S (str s),I (a:Int)] [] (z6L a (quoG (s.drop (a+1)) [] 1)) []:=by
 obtain⟨R,hR⟩:∃R,quoG (s.drop (a+1)) [] 1=R:=⟨_,rfl⟩
 rw[hR];have e0:=bS [];have w0:=wS a;refine za tf_149 ?_;simp only[vW,seval,e0,w0];refine zp (σ:={x:Nat×zB // a<x.1∧x.1≤s.length∧quoG (s.drop x.1) x.2 (x.1-a)=R∧x.2.length≤x.1}) (fun x=>⟨[(0,S (str s)),(6,S (str x.1.2)),(7,I (x.1.1:Int))],[],[],[]⟩) (fun x=>s.length-x.1.1) ⟨(a+1,[]),by dsimp only;omega,by dsimp only;omega,by dsimp only;rw[show a+1-a=1 by omega];exact hR,by simp⟩ ?_ ?_
 ·apply z0o<;>simp[leL,lk,sv,Nat.beq,I,S,ES.kill,has,drp,zD,e0]
 rintro⟨⟨i,t⟩,h1,h2,h3,h4⟩
 dsimp only at h1 h2 h3 h4
 by_cases hlt:i<s.length
 ·have d1:(i:Int)<(s.length:Int):=by omega
  obtain⟨b,eb⟩:∃b,s[i]?=some b:=⟨_,gE hlt⟩
  have hd:s.drop i=b::s.drop (i+1):=by rw[List.drop_eq_getElem_cons hlt];congr 1;rw[gE hlt]at eb;exact Option.some.inj eb
  have w1:=wS i;rw[hd,quoG.eq_def]at h3
  dsimp only at h3
  have hbl:=b.toNat_lt;by_cases hq:b=34
  ·subst hq;rw[if_pos rfl]at h3;have HR:=zam g t (by omega);unfold nv B at HR;simp only[vW,seval,d1,eb,w1,e0];refine z7 HR ?_;cases hr:zi t
   ·rw[hr]at h3;simp only[Bool.false_eq_true,if_false]at h3;subst h3;unfold z6L;simp only[vW,seval,e0]
   ·rw[hr]at h3;simp only[if_true]at h3;subst h3;unfold z6L;simp only[vW,seval,w1];rw[show a+(i-a+1)=i+1 by omega]
  rw[if_neg hq]at h3;have t34:¬(b.toNat:Int)=34:=zav b 34 hq;by_cases hq2:b=92
  ·subst hq2;rw[if_pos rfl]at h3;have t92:(92:UInt8).toNat=92:=rfl;by_cases hlt2:i+1<s.length
   ·have d2:¬(s.length:Int)≤((i+1:Nat):Int):=by omega
    obtain⟨c,ec⟩:∃c,s[i+1]?=some c:=⟨_,gE hlt2⟩
    have hd2:s.drop (i+1)=c::s.drop (i+1+1):=by rw[List.drop_eq_getElem_cons hlt2];congr 1;rw[gE hlt2]at ec;exact Option.some.inj ec
    rw[hd2]at h3
    dsimp only at h3
    have w2:IntKind.i64.wrap (((i+1:Nat):Int)+1)=((i+1+1:Nat):Int):=wG;have htk:List.take 1 (List.drop (i+1) s)=[c]:=by rw[hd2];rfl
    have go:∀(hc:c=34∨c=92),quoG (s.drop (i+1+1)) (t++[c]) (i+1+1-a)=R:=fun hc=>by
     rw[if_pos hc]at h3;rw[show i+1+1-a=i-a+2 by omega];exact h3
    by_cases c34:c=34
    ·subst c34;simp only[vW,seval,d1,eb,w1,d2,ec,w2];refine⟨⟨by omega,by omega⟩,by rw[List.length_take];omega,zc ⟨(i+1+1,t++[34]),by dsimp only;omega,by dsimp only;omega,go (.inl rfl),by simp;omega⟩ (by show s.length-(i+1+1)<s.length-i;omega) ?_⟩;apply z0o<;>simp[leL,lk,sv,Nat.beq,I,S,ES.kill,has,drp,zD,htk]
    have n34:¬(c.toNat:Int)=34:=zav c 34 c34;by_cases c92:c=92
    ·subst c92;simp only[vW,seval,d1,eb,w1,d2,ec,w2,n34];refine⟨⟨by omega,by omega⟩,by rw[List.length_take];omega,zc ⟨(i+1+1,t++[92]),by dsimp only;omega,by dsimp only;omega,go (.inr rfl),by simp;omega⟩ (by show s.length-(i+1+1)<s.length-i;omega) ?_⟩;apply z0o<;>simp[leL,lk,sv,Nat.beq,I,S,ES.kill,has,drp,zD,htk]
    have n92:¬(c.toNat:Int)=92:=zav c 92 c92;rw[if_neg (by simp[c34,c92])]at h3;subst h3;unfold z6L;simp only[vW,seval,d1,eb,w1,d2,ec,w2,n34,n92,e0]
   ·have d2:(s.length:Int)≤((i+1:Nat):Int):=by omega
    rw[List.drop_eq_nil_of_le (by omega)]at h3
    dsimp only at h3
    subst h3;unfold z6L;simp only[vW,seval,d1,eb,w1,d2,e0]
  rw[if_neg hq2]at h3;have t92:¬(b.toNat:Int)=92:=zav b 92 hq2;have htk:List.take 1 (List.drop i s)=[b]:=by rw[hd];rfl
  simp only[vW,seval,d1,eb,w1,t34,t92];refine⟨⟨by omega,by omega⟩,by rw[List.length_take];omega,zc ⟨(i+1,t++[b]),by dsimp only;omega,by dsimp only;omega,by dsimp only;rw[show i+1-a=i-a+1 by omega];exact h3,by simp;omega⟩ (by show s.length-(i+1)<s.length-i;omega) ?_⟩;apply z0o<;>simp[leL,lk,sv,Nat.beq,I,S,ES.kill,has,drp,zD,htk]
 have d1:¬(i:Int)<(s.length:Int):=by omega
 rw[List.drop_eq_nil_of_le (by omega),quoG.eq_def]at h3
 dsimp only at h3
 subst h3;unfold z6L;simp only[vW,seval,d1,e0]
end
end Go.Proofs.YtbkgnekfigknhaaGreatDoor
end

section
namespace Go.Mor
open Go
section
def z3D(L:List Pc)(sz p:Nat)(b:Int):Int:=if b<0 then((pkP L sz p).p:Int)else b
def z2a(L:List Pc)(sz:Nat)(t:zB)(p:Nat)(b:Int):Nat×Int:=if 0≤b then(p,b)else if zY (pkP L sz p) t then(p+1,b)else(p,z3D L sz p b)
mutual
def mE(L:List Pc)(sz:Nat):Nat→Int→Nat→Int→Option (V×Nat×Int)
 |0,_,_,_=>none
 |f+1,least,p,b=>match mT L sz f p b with
  |some (e,p',b')=>mL L sz f least e p' b'
  |none=>none
def mL(L:List Pc)(sz:Nat):Nat→Int→V→Nat→Int→Option (V×Nat×Int)
 |0,_,_,_,_=>none
 |f+1,least,e,p,b=>
  if b<0∧(pkP L sz p).k=4∧least≤zf (pkP L sz p).s then(match mE L sz f (zf (pkP L sz p).s+1) (p+1) b with
   |some (e2,p2,b2)=>mL L sz f least (.mk 4 0 (pkP L sz p).s [e,e2]) p2 b2
   |none=>none)
  else some (e,p,b)
def mT(L:List Pc)(sz:Nat):Nat→Nat→Int→Option (V×Nat×Int)
 |0,_,_=>none
 |f+1,p,b=>
  if 0≤b∨L.length≤p then some (V.nil,p,z3D L sz p b)
  else if(pkP L sz p).k=1∨(pkP L sz p).k=2 then some (.mk (pkP L sz p).k (pkP L sz p).n (pkP L sz p).s [],p+1,b)
  else if(pkP L sz p).k=3 then(if zY (pkP L sz (p+1)) [40]=true∧0<zm (pkP L sz p).s then mH L sz f (pkP L sz p).s 0 (p+1+1) b []
   else some (.mk 3 0 (pkP L sz p).s [],p+1,b))
  else if(pkP L sz p).s=[45] then(match mT L sz f (p+1) b with
   |some (e,p',b')=>some (.mk 5 0 [45] [e],p',b')
   |none=>none)
  else if(pkP L sz p).s=[40] then(match mE L sz f 1 (p+1) b with
   |some (e,p',b')=>some (e,z2a L sz [41] p' b')
   |none=>none)
  else some (V.nil,p,z3D L sz p b)
def mH(L:List Pc)(sz:Nat):Nat→zB→Nat→Nat→Int→List V→Option (V×Nat×Int)
 |0,_,_,_,_,_=>none
 |f+1,s,k,p,b,acc=>
  if(k:Int)<zm s∧b<0 then(match mE L sz f 1 (if 0<k then z2a L sz [44] p b else(p,b)).1 (if 0<k then z2a L sz [44] p b else(p,b)).2 with
   |some (e,p2,b2)=>mH L sz f s (k+1) p2 b2 (acc++[e])
   |none=>none)
  else some (.mk 6 0 s acc,z2a L sz [41] p b)
end
structure PcOk(q:Pc):Prop where
 k:q.k=1∨q.k=2∨q.k=3∨q.k=4
 n:q.k=2→q.n=0
 s:q.k=1→q.s=[]
section
variable{L:List Pc}{sz:Nat}
theorem z5Z{p:Nat}(h:L.length≤p):pkP L sz p=⟨0,0,[],sz⟩:=by grind [pkP,List.getElem?_eq_none]
theorem z7l{p:Nat}{q:Pc}(h:L[p]?=some q):pkP L sz p=q:=by grind [pkP]
theorem zaC(p:Nat):0≤z3D L sz p (-1):=by unfold z3D;simp
theorem zmX{p:Nat}{b:Int}(h:0≤b):z3D L sz p b=b:=by grind [z3D]
theorem z89{t:zB}{p:Nat}{b:Int}(h:0≤b):z2a L sz t p b=(p,b):=by grind [z2a]
theorem zcU{t:zB}{p:Nat}(h:zY (pkP L sz p) t=true):z2a L sz t p (-1)=(p+1, -1):=by grind [z2a]
theorem zcV{t:zB}{p:Nat}(h:zY (pkP L sz p) t=false):0≤(z2a L sz t p (-1)).2:=by
 unfold z2a;rw[if_neg (by omega),if_neg (by grind)];exact zaC p
theorem zrp{b:Int}(h:0≤b)(f:Nat)(least:Int)(p:Nat):mE L sz (f+2) least p b=some (V.nil,p,b):=by
 rw[mE,mT,if_pos (.inl h),zmX h]
 grind [mL]
def z5H(r:Rs V)(o:Option (V×Nat×Int)):Prop:=match r with
 | .ok e p=>o=some (e,p, -1)
 | .bad _ _=>∃e q b,0≤b∧o=some (e,q,b)
theorem zk5(hL:∀q∈L,PcOk q):∀f:Nat,
  (∀least p r,pE L sz f least p=some r→z5H r (mE L sz (f+3) least p (-1)))∧
  (∀least e p r,pL L sz f least e p=some r→z5H r (mL L sz (f+3) least e p (-1)))∧
  (∀p r,pT L sz f p=some r→z5H r (mT L sz (f+3) p (-1)))∧
  (∀(s:zB) k p acc r,pH L sz f (zm s).toNat k p acc=some r→match r with
   | .ok l p'=>mH L sz (f+3) s k p (-1) acc=some (.mk 6 0 s l,p', -1)
   | .bad _ _=>∃e q b,0≤b∧mH L sz (f+3) s k p (-1) acc=some (e,q,b)):=by
 intro f
 induction f with
 |zero=>grind [pE,pL,pT,pH]
 |succ f ih=>
  obtain⟨iE,iL,iT,iH⟩:=ih;refine⟨fun least p r h=> ?_,fun least e p r h=> ?_,fun p r h=> ?_,fun s k p acc r h=> ?_⟩
  ·rw[pE]at h;rw[show f+1+3=(f+3)+1 by omega,mE];split at h
   ·rename_i e p' hT;have:=iT p _ hT
    grind [z5H]
   ·rename_i a p' hT;cases h;obtain⟨e,q,b,hb,ho⟩:=iT p _ hT;rw[ho];refine⟨e,q,b,hb,?_⟩
    dsimp only
    grind [mL]
   ·cases h
  ·rw[pL]at h;rw[show f+1+3=(f+3)+1 by omega,mL];split at h
   ·rename_i hc;cases h;show _=_
    grind
   ·rename_i hc;have h1:(pkP L sz p).k=4:=Decidable.byContradiction fun h=>hc (.inl h);have h2:zf (pkP L sz p).s≥least:=by
     omega
    rw[if_pos ⟨by omega,h1,h2⟩];split at h
    ·grind [z5H]
    ·rename_i a p' hE;cases h;obtain⟨e2,q,b,hb,ho⟩:=iE _ _ _ hE;rw[ho];refine⟨.mk 4 0 (pkP L sz p).s [e,e2],q,b,hb,?_⟩
     dsimp only
     grind [mL]
    ·cases h
  ·rw[show f+1+3=(f+3)+1 by omega,mT];rw[pT]at h;by_cases hp:L.length≤p
   ·rw[if_pos (.inr hp)];rw[z5Z hp]at h;simp[zY]at h;subst h;exact⟨V.nil,p,_,zaC p,rfl⟩
   have hpl:p<L.length:=by omega
   rw[if_neg (by omega)];have hq:=hL (L[p]) (List.getElem_mem hpl);rw[←z7l (sz:=sz) (gE hpl)]at hq;generalize pkP L sz p=x at*;rcases hq.k with k|k|k|k
   ·have s1:zY x [40]=false:=by unfold zY;rw[k];rfl
    have s2:zY x [45]=false:=by grind [zY]
    simp only[s1,s2,k,if_true,Bool.false_eq_true,if_false]at h;cases h;rw[if_pos (.inl k),k,hq.s k];rfl
   ·have s1:zY x [40]=false:=by unfold zY;rw[k];rfl
    have s2:zY x [45]=false:=by grind [zY]
    simp only[s1,s2,k,if_true,Bool.false_eq_true,if_false,show ¬(2:Int)=1 by decide]at h;cases h;rw[if_pos (.inr k),k,hq.n k];rfl
   ·have s1:zY x [40]=false:=by unfold zY;rw[k];rfl
    have s2:zY x [45]=false:=by grind [zY]
    simp only[s1,s2,k,if_true,Bool.false_eq_true,if_false,show ¬(3:Int)=1 by decide,show ¬(3:Int)=2 by decide]at h;rw[if_neg (by omega),if_pos k];split at h
    ·rename_i hc;rw[if_pos ⟨hc.2,hc.1⟩];split at h
     ·rename_i l p' hH;cases h;have:=iH x.s 0 (p+2) [] _ hH;exact this
     ·rename_i a p' hH;cases h;have:=iH x.s 0 (p+2) [] _ hH;exact this
     ·cases h
    ·rename_i hc;cases h;rw[if_neg (fun h=>hc ⟨h.2,h.1⟩)];rfl
   ·rw[if_neg (by omega),if_neg (by omega)];have hs:∀t,zY x t=decide (x.s=t):=fun t=>by unfold zY;rw[k,Bool.eq_iff_iff];simp
    rw[hs,hs]at h;by_cases h40:x.s=[40]
    ·rw[if_neg (by grind),if_pos h40];rw[if_pos (by grind)]at h;split at h
     ·rename_i e p' hE;have:=iE _ _ _ hE;unfold z5H at this
      dsimp only at this
      rw[this]
      dsimp only
      split at h
      ·rename_i h41;cases h;rw[zcU h41];rfl
      ·rename_i h41;cases h;exact⟨_,_,_,zcV (by grind),rfl⟩
     ·rename_i a p' hE;cases h;obtain⟨e,q,b,hb,ho⟩:=iE _ _ _ hE;rw[ho]
      dsimp only
      grind [z89]
     ·cases h
    rw[if_neg (by grind)]at h;by_cases h45:x.s=[45]
    ·rw[if_pos h45];rw[if_pos (by grind)]at h;split at h
     ·rename_i e p' hT;cases h;have:=iT _ _ hT;unfold z5H at this
      dsimp only at this
      rw[this];rfl
     ·rename_i a p' hT;cases h;obtain⟨e,q,b,hb,ho⟩:=iT _ _ hT;rw[ho];exact⟨_,_,_,hb,rfl⟩
     ·cases h
    rw[if_neg (by grind)]at h;rw[if_neg h45,if_neg h40];rw[if_neg (by omega),if_neg (by omega),if_neg (by omega)]at h;cases h;exact⟨_,_,_,zaC p,rfl⟩
  ·rw[show f+1+3=(f+3)+1 by omega,mH];rw[pH]at h;by_cases hk:k<(zm s).toNat
   ·rw[if_pos hk]at h;rw[if_pos ⟨by omega,by omega⟩];by_cases h0:0<k
    ·simp only[if_pos h0];by_cases h44:zY (pkP L sz p) [44]=false
     ·rw[if_pos ⟨h0,h44⟩]at h;cases h;have hb:=zcV h44;rw[show f+3=(f+1)+2 by omega,zrp hb]
      dsimp only
      rw[show f+1+2=(f+2)+1 by omega,mH,if_neg (by omega),z89 hb]
      grind
     ·rw[if_neg (fun h=>h44 h.2),if_pos h0]at h;rw[zcU (by grind)]
      dsimp only
      split at h
      ·grind [z5H]
      ·rename_i a p' hE;cases h;obtain⟨e,q,b,hb,ho⟩:=iE _ _ _ hE;rw[ho]
       dsimp only
       grind [mH,z89]
      ·cases h
    ·simp only[if_neg h0];rw[if_neg (fun h=>h0 h.1),if_neg h0]at h;split at h
     ·grind [z5H]
     ·rename_i a p' hE;cases h;obtain⟨e,q,b,hb,ho⟩:=iE _ _ _ hE;rw[ho]
      dsimp only
      grind [mH,z89]
     ·cases h
   ·rw[if_neg hk]at h;rw[if_neg (by omega)];split at h
    ·rename_i h41;cases h
     dsimp only
     rw[zcU h41]
    ·rename_i h41;cases h;exact⟨_,_,_,zcV (by grind),rfl⟩
end
end
end Go.Mor
end

section
namespace Go.Proofs.YtbkgnekfigknhaaGreatDoor
open Go Go.RowKit Go.Mor Go.Sh Go.Sh.Cd1 Go.Sh.Cd7
def qcK(k:Int):Int:=if k=4 then 0 else k
def qcT(q:Pc):TV:=.agg [I (qcK q.k),I q.n,S (str q.s),I (q.p:Int)]
def z79(g:Sh.Glob)(s:zB)(i:Nat)(r:Option (Pc×Nat)):Prop:=match r with
 |some (q,z)=>zC g 206 [S (str s),I (i:Int)] [] (.tuple [qcT q,I ((i+z:Nat):Int)]) []
 |none=>∃(k n:Int) (t:zB),zC g 206 [S (str s),I (i:Int)] [] (.tuple [.agg [I k,I n,S (str t),I (i:Int)],I 0]) []
theorem znx(l:zB)(z:Nat):(z0v l 1000000000000001 z).1=1000000000000001:=by
 induction l generalizing z with
 |nil=>rfl
 |cons b r ih=>
  rw[z0v];split
  ·rename_i h;unfold z0Q at h;simp only[decide_eq_true_eq]at h;rw[show min (10*(1000000000000001:Int)+((b.toNat:Int) - 48)) 1000000000000001=1000000000000001 by omega];exact ih _
  ·rfl
def ovf:zB→Int→Option Int
 |[],_=>none
 |b::r,n=>if z0Q b then(if 1000000000000000<10*n+((b.toNat:Int) - 48)then some (10*n+((b.toNat:Int) - 48))else ovf r (10*n+((b.toNat:Int) - 48)))else none
theorem zq9(l:zB):∀(n:Int) (z:Nat),0≤n→n≤1000000000000000→(ovf l n=none∧¬1000000000000000<(z0v l n z).1)∨(∃m,ovf l n=some m∧1000000000000000<(z0v l n z).1):=by
 induction l with
 |nil=>intro n z h0 h1;exact .inl ⟨rfl,by show ¬_<n;omega⟩
 |cons b r ih=>
  intro n z h0 h1;rw[ovf,z0v];by_cases hd:z0Q b=true
  ·rw[if_pos hd,if_pos hd];have hd':=hd;unfold z0Q at hd';simp only[decide_eq_true_eq]at hd';by_cases hb:1000000000000000<10*n+((b.toNat:Int) - 48)
   ·rw[if_pos hb,show min (10*n+((b.toNat:Int) - 48)) 1000000000000001=1000000000000001 by omega,znx];exact .inr ⟨_,rfl,by decide⟩
   ·rw[if_neg hb,show min (10*n+((b.toNat:Int) - 48)) 1000000000000001=10*n+((b.toNat:Int) - 48) by omega];exact ih _ _ (by omega) (by omega)
  ·rw[if_neg hd,if_neg hd];exact .inl ⟨rfl,by show ¬_<n;omega⟩
theorem znw(g:Sh.Glob)(s:zB)(i:Nat)(hs:s.length≤1000){b:UInt8}(hb:s[i]?=some b)(hd:z0Q b=true):z79 g s i (z08 (s.drop i) i):=by
 have hlt:i<s.length:=(gJ hb).1;have hdr:s.drop i=b::s.drop (i+1):=by rw[List.drop_eq_getElem_cons hlt];congr 1;rw[gE hlt]at hb;exact Option.some.inj hb
 have hD0:=z2I g b;rw[hd]at hD0;have e0:=bS [];have hR:z08 (s.drop i) i=if 1000000000000000<(z0v (s.drop i) 0 0).1 then none else some (⟨1,(z0v (s.drop i) 0 0).1,[],i⟩,(z0v (s.drop i) 0 0).2):=by
  rw[hdr,z08];simp only[hd,if_true]
 rw[hR];obtain⟨R,hRn⟩:∃R,z0v (s.drop i) 0 0=R:=⟨_,rfl⟩
 have hov:=zq9 (s.drop i) 0 0 (by omega) (by omega);rw[hRn]at hov ⊢;unfold B at hD0;rcases hov with⟨o1,o2⟩|⟨m,o1,o2⟩
 ·rw[if_neg o2];change SCalls _ _ _ _ _ (.tuple [.agg [I 1,I R.1,S (str []),I (i:Int)],I ((i+R.2:Nat):Int)]) _;refine za tf_146 ?_;simp only[vW,seval,hb,e0];refine z8 hD0 ?_;refine zp (σ:={x:Nat×Int // i≤x.1∧x.1≤s.length∧z0v (s.drop x.1) x.2 (x.1-i)=R∧ovf (s.drop x.1) x.2=none∧0≤x.2∧x.2≤1000000000000000}) (fun x=>⟨[(0,S (str s)),(1,I (i:Int)),(4,.ptr 4 0),(6,.ptr 6 0),(7,I (x.1.1:Int))],[(4,[I 0,I 0,S (str []),I 0]),(6,[I 0,I x.1.2,S (str []),I (i:Int)])],[],[]⟩) (fun x=>s.length-x.1.1) ⟨(i,0),Nat.le_refl _,by dsimp only;omega,by dsimp only;rw[Nat.sub_self];exact hRn,o1,Int.le_refl _,by dsimp only;omega⟩ ?_ ?_
  ·apply z0o<;>simp[leL,lk,sv,Nat.beq,I,S,ES.kill,has,drp,zD,e0]
  rintro⟨⟨t,n⟩,h1,h2,h3,h4,h5,h6⟩
  dsimp only at h1 h2 h3 h4 h5 h6
  by_cases hlt2:t<s.length
  ·have d1:(t:Int)<(s.length:Int):=by omega
   obtain⟨c,ec⟩:∃c,s[t]?=some c:=⟨_,gE hlt2⟩
   have hdr2:s.drop t=c::s.drop (t+1):=by rw[List.drop_eq_getElem_cons hlt2];congr 1;rw[gE hlt2]at ec;exact Option.some.inj ec
   have w1:=wS t;have hD:=z2I g c;unfold B at hD;rw[hdr2]at h3 h4;cases hc:z0Q c
   ·rw[hc]at hD;rw[z0v,hc]at h3;simp only[Bool.false_eq_true,if_false]at h3;subst h3;simp only[vW,seval,d1,ec];refine z8 hD ?_;rw[show i+(t-i)=t by omega]
   ·rw[hc]at hD;have hc':=hc;unfold z0Q at hc';simp only[decide_eq_true_eq]at hc';rw[ovf,if_pos hc]at h4;split at h4
    ·cases h4
    rename_i hno;rw[z0v,hc,if_pos rfl,show min (10*n+((c.toNat:Int) - 48)) 1000000000000001=10*n+((c.toNat:Int) - 48) by omega]at h3;have v1:IntKind.u8.wrap ((c.toNat:Int) - 48)=(c.toNat:Int) - 48:=by rw[IntKind.wrap_u8];omega
    have v2:IntKind.i64.wrap ((c.toNat:Int) - 48)=(c.toNat:Int) - 48:=wrap64 (by omega) (by omega);have v3:IntKind.i64.wrap (10*n)=10*n:=wrap64 (by omega) (by omega);have v4:IntKind.i64.wrap (10*n+((c.toNat:Int) - 48))=10*n+((c.toNat:Int) - 48):=wrap64 (by omega) (by omega);simp only[vW,seval,d1,ec];refine z7 hD ?_;simp only[vW,seval,ec,v1,v2,v3,v4,hno,w1];refine zc ⟨(t+1,10*n+((c.toNat:Int) - 48)),by dsimp only;omega,hlt2,by dsimp only;rw[show t+1-i=t-i+1 by omega];exact h3,h4,by dsimp only;omega,by dsimp only;omega⟩ (by show s.length-(t+1)<s.length-t;omega) ?_;exact lwA
  ·have d1:¬(t:Int)<(s.length:Int):=by omega
   rw[List.drop_eq_nil_of_le (by omega),z0v]at h3;subst h3;simp only[vW,seval,d1];rw[show i+(t-i)=t by omega]
 ·rw[if_pos o2];refine⟨0,m,[],?_⟩;refine za tf_146 ?_;simp only[vW,seval,hb,e0];refine z8 hD0 ?_;refine zp (σ:={x:Nat×Int // i≤x.1∧x.1≤s.length∧ovf (s.drop x.1) x.2=some m∧0≤x.2∧x.2≤1000000000000000}) (fun x=>⟨[(0,S (str s)),(1,I (i:Int)),(4,.ptr 4 0),(6,.ptr 6 0),(7,I (x.1.1:Int))],[(4,[I 0,I 0,S (str []),I 0]),(6,[I 0,I x.1.2,S (str []),I (i:Int)])],[],[]⟩) (fun x=>s.length-x.1.1) ⟨(i,0),Nat.le_refl _,by dsimp only;omega,o1,Int.le_refl _,by dsimp only;omega⟩ ?_ ?_
  ·apply z0o<;>simp[leL,lk,sv,Nat.beq,I,S,ES.kill,has,drp,zD,e0]
  rintro⟨⟨t,n⟩,h1,h2,h4,h5,h6⟩
  dsimp only at h1 h2 h4 h5 h6
  by_cases hlt2:t<s.length
  ·have d1:(t:Int)<(s.length:Int):=by omega
   obtain⟨c,ec⟩:∃c,s[t]?=some c:=⟨_,gE hlt2⟩
   have hdr2:s.drop t=c::s.drop (t+1):=by rw[List.drop_eq_getElem_cons hlt2];congr 1;rw[gE hlt2]at ec;exact Option.some.inj ec
   have w1:=wS t;have hD:=z2I g c;unfold B at hD;rw[hdr2,ovf]at h4;cases hc:z0Q c
   ·rw[hc]at h4;simp at h4
   ·rw[hc]at hD;rw[if_pos hc]at h4;have hc':=hc;unfold z0Q at hc';simp only[decide_eq_true_eq]at hc';have v1:IntKind.u8.wrap ((c.toNat:Int) - 48)=(c.toNat:Int) - 48:=by rw[IntKind.wrap_u8];omega
    have v2:IntKind.i64.wrap ((c.toNat:Int) - 48)=(c.toNat:Int) - 48:=wrap64 (by omega) (by omega);have v3:IntKind.i64.wrap (10*n)=10*n:=wrap64 (by omega) (by omega);have v4:IntKind.i64.wrap (10*n+((c.toNat:Int) - 48))=10*n+((c.toNat:Int) - 48):=wrap64 (by omega) (by omega);by_cases hno:1000000000000000<10*n+((c.toNat:Int) - 48)
    ·rw[if_pos hno]at h4;cases h4;simp only[vW,seval,d1,ec];refine z7 hD ?_;simp only[vW,seval,ec,v1,v2,v3,v4,hno,w1]
    ·rw[if_neg hno]at h4;simp only[vW,seval,d1,ec];refine z7 hD ?_;simp only[vW,seval,ec,v1,v2,v3,v4,hno,w1];refine zc ⟨(t+1,10*n+((c.toNat:Int) - 48)),by dsimp only;omega,hlt2,h4,by dsimp only;omega,by dsimp only;omega⟩ (by show s.length-(t+1)<s.length-t;omega) ?_;exact lwA
  ·rw[List.drop_eq_nil_of_le (by omega),ovf]at h4;cases h4
end Go.Proofs.YtbkgnekfigknhaaGreatDoor
end
