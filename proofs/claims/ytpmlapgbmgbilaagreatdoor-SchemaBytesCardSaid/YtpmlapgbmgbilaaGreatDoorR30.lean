/- Merged texts: Zt1 Zo5 Ze27 Zo1 Po1 Zo6 Zo7. No statement of the program is proved here. -/
import Derived.Test.YtpmlapgbmgbilaaGreatDoorR27
import Derived.Test.YtpmlapgbmgbilaaGreatDoorR29
set_option linter.unusedSimpArgs false
set_option linter.unusedVariables false
set_option maxRecDepth 100000
set_option maxHeartbeats 8000000
section
namespace Go.Proofs.YtpmlapgbmgbilaaGreatDoor
open Go Go.RowKit Go.Mor Go.Sh Go.Sh.Cd1
section
open Go.Sh.Cd2
theorem zed(s:zB):zl s=(z35 s&&decide (s.length≤60)):=by
 unfold zl;rw[zlq s.length s (Nat.le_refl _),Bool.and_comm]
theorem zhb(n:Int):z3H n=(decide (1≤n)&&decide (n≤100000)||decide (-20≤n)&&decide (n≤ -1)):=by
 unfold z3H;rw[Bool.eq_iff_iff];simp
theorem zg5(g:Sh.Glob)(x:V)(hs:z25 x)(h5:x.k≠5):zC g 176 [tv x] [] (B (z1L x)) []:=by
 obtain⟨k,n,s,l⟩:=x;have HT:=zlr g s hs;have hln:decide ((l.length:Int)=0)=(l.length==0):=by rw[Bool.eq_iff_iff];simp
 have k5:¬k=5:=h5;have hl60:decide ((s.length:Int)≤60)=decide (s.length≤60):=by rw[Bool.eq_iff_iff];simp;omega
 have hb:bare (.mk k n s l)=(s==[]&&l.length==0):=rfl;have hn0:(n==0)=decide (n=0):=by rw[Bool.eq_iff_iff];simp
 rw[zdM,hb,zed,zhb,hn0];clear h5 hs hb;have key:∀(kk:Int),kk=3∨kk=4→zC g 176 [tv (.mk kk n s l)] [] (.pv (.v (.bool ((s==[]&&l.length==0)&&(decide (1≤n)&&decide (n≤100000)||decide (-20≤n)&&decide (n≤ -1)))))) []:=by
  intro kk hkk;refine za tf_136 ?_;rcases hkk with rfl|rfl
  all_goals
   by_cases hid:(1≤n∧n≤100000)∨(-20≤n∧n≤ -1)
   ·have e:(decide (1≤n)&&decide (n≤100000)||decide (-20≤n)&&decide (n≤ -1))=true:=by simpa using hid
    rw[e];rcases hid with⟨q1,q2⟩|⟨q3,q4⟩
    ·cases hs:s==[]<;>simp only[vW,seval,e0,q1,q2,hs,hln]
    ·have q1:¬1≤n:=by omega
     cases hs:s==[]<;>simp only[vW,seval,e0,q1,q3,q4,hs,hln]
   ·have e:(decide (1≤n)&&decide (n≤100000)||decide (-20≤n)&&decide (n≤ -1))=false:=by rw[←Bool.not_eq_true];simpa using hid
    rw[e];by_cases q1:1≤n
    ·have q2:¬n≤100000:=by omega
     have q3: -20≤n:=by omega
     have q4:¬n≤ -1:=by omega
     simp only[vW,seval,q1,q2,q3,q4]
    ·by_cases q3: -20≤n
     ·have q4:¬n≤ -1:=by omega
      simp only[vW,seval,q1,q3,q4]
     ·simp only[vW,seval,q1,q3]
 by_cases k34:k=3∨k=4
 ·rw[if_neg (by omega),if_neg (by omega),if_neg (by omega),if_pos k34];exact key k k34
 clear key;refine za tf_136 ?_;unfold B at*;by_cases k0:k=0
 ·subst k0;by_cases n0:n=0
  ·subst n0;cases hs:s==[]<;>simp only[vW,seval,e0,hs,hln]
  ·simp only[vW,seval,n0]
 rw[if_neg k0];by_cases k1:k=1
 ·subst k1;by_cases q1: -1000000000000000≤n
  ·by_cases q2:n≤1000000000000000
   ·cases hs:s==[]<;>simp only[vW,seval,e0,q1,q2,hs,hln]
   ·simp only[vW,seval,q1,q2]
  ·simp only[vW,seval,q1]
 rw[if_neg k1];by_cases k2:k=2
 ·subst k2;simp only[vW,seval];refine z7 HT ?_;by_cases n0:n=0
  ·subst n0;cases z35 s
   ·simp only[vW,seval]
   ·by_cases q:(s.length:Int)≤60
    ·have q':s.length≤60:=by omega
     simp only[vW,seval,q,q',hln]
    ·have q':¬s.length≤60:=by omega
     simp only[vW,seval,q,q']
  ·simp only[vW,seval,n0]
 rw[if_neg k2];rw[if_neg k34];have k3:¬k=3:=fun h=>k34 (.inl h);have k4:¬k=4:=fun h=>k34 (.inr h);simp only[vW,seval,k0,k1,k2,k3,k4,k5]
end
section
open Go.Sh.Cd7
theorem z33(g:Sh.Glob)(l:zB)(hl:l.length<4611686018427387904):zC g 83 [S (str l)] [] (B (zb l)) []:=by
 refine za tf_140 ?_;unfold B;by_cases h1:1≤l.length
 ·have d1:¬(l.length:Int)<1:=by omega
  by_cases h20:l.length≤20
  ·have d2:¬(20:Int)<(l.length:Int):=by omega
   have hR:zb l=(small (l.headD 0)&&l.all zS):=by unfold zb;rw[decide_eq_true ⟨h1,h20⟩];simp
   rw[hR];obtain⟨r,hr⟩:∃r,(small (l.headD 0)&&l.all zS)=r:=⟨_,rfl⟩
   rw[hr];simp only[vW,seval,d1,d2];refine zk (σ:={ k:Nat // k≤l.length∧(0<k→small (l.headD 0)=true)∧(l.drop k).all zS=l.all zS })
    (fun k=>⟨[(0,S (str l)),(3,I (k.1:Int))],[],[],[]⟩) (fun k=>l.length-k.1) ⟨0,Nat.zero_le _,by omega,rfl⟩ ?_ ?_
   ·exact lwA
   rintro⟨k,hk,hh,hd⟩;by_cases hlt:k<l.length
   ·have d3:(k:Int)<(l.length:Int):=by omega
    obtain⟨b,eb⟩:∃b,l[k]?=some b:=⟨_,gE hlt⟩
    rw[z24 eb,List.all_cons]at hd;have hbn:=b.toNat_lt;have w4:=wS k;have h0:k=0→l.headD 0=b:=by
     rintro rfl;cases l with
     |nil=>simp at eb
     |cons x r=>simpa using eb
    have cls:(b.toNat<48)∨(48≤b.toNat∧b.toNat≤57)∨(57<b.toNat∧b.toNat<97∧b.toNat≠95)∨b.toNat=95∨(97≤b.toNat∧b.toNat≤122)∨122<b.toNat:=by omega
    rcases cls with q|q|q|q|q|q
    ·have t1:¬(97:Int)≤(b.toNat:Int):=by omega
     have t3:¬(48:Int)≤(b.toNat:Int):=by omega
     have t5:¬(b.toNat:Int)=95:=by omega
     have hn:zS b=false:=by unfold zS small;simp;omega
     rw[hn,Bool.false_and]at hd;have hf:r=false:=by rw[←hr,←hd,Bool.and_false]
     subst hf;by_cases k0:(k:Int)=0
     ·have k00:k=0:=by omega
      have d30:(0:Int)<(l.length:Int):=by omega
      have e00:l[0]?=some b:=by rw[←k00];exact eb
      simp only[vW,seval,d3,eb,t1,t3,t5,k0,d30,e00]
     ·simp only[vW,seval,d3,eb,t1,t3,t5,k0]
    ·have t1:¬(97:Int)≤(b.toNat:Int):=by omega
     have t3:(48:Int)≤(b.toNat:Int):=by omega
     have t4:(b.toNat:Int)≤57:=by omega
     have hn:zS b=true:=by unfold zS;simp;omega
     have hs:small b=false:=by unfold small;simp;omega
     rw[hn,Bool.true_and]at hd;by_cases k0:(k:Int)=0
     ·have k00:k=0:=by omega
      have d30:(0:Int)<(l.length:Int):=by omega
      have e00:l[0]?=some b:=by rw[←k00];exact eb
      have hf:r=false:=by rw[←hr,h0 (by omega),hs];rfl
      subst hf;simp only[vW,seval,d3,eb,t1,t3,t4,k0,d30,e00]
     ·simp only[vW,seval,d3,eb,t1,t3,t4,k0,w4];refine zc ⟨k+1,hlt,fun _=>hh (by omega),hd⟩ (by show l.length-(k+1)<l.length-k;omega) ?_;exact lwA
    ·have t1:¬(97:Int)≤(b.toNat:Int):=by omega
     have t3:(48:Int)≤(b.toNat:Int):=by omega
     have t4:¬(b.toNat:Int)≤57:=by omega
     have t5:¬(b.toNat:Int)=95:=by omega
     have hn:zS b=false:=by unfold zS small;simp;omega
     rw[hn,Bool.false_and]at hd;have hf:r=false:=by rw[←hr,←hd,Bool.and_false]
     subst hf;by_cases k0:(k:Int)=0
     ·have k00:k=0:=by omega
      have d30:(0:Int)<(l.length:Int):=by omega
      have e00:l[0]?=some b:=by rw[←k00];exact eb
      simp only[vW,seval,d3,eb,t1,t3,t4,t5,k0,d30,e00]
     ·simp only[vW,seval,d3,eb,t1,t3,t4,t5,k0]
    ·have t1:¬(97:Int)≤(b.toNat:Int):=by omega
     have t3:(48:Int)≤(b.toNat:Int):=by omega
     have t4:¬(b.toNat:Int)≤57:=by omega
     have t5:(b.toNat:Int)=95:=by omega
     have hn:zS b=true:=by unfold zS;simp[q]
     have hs:small b=false:=by unfold small;simp;omega
     rw[hn,Bool.true_and]at hd;by_cases k0:(k:Int)=0
     ·have k00:k=0:=by omega
      have d30:(0:Int)<(l.length:Int):=by omega
      have e00:l[0]?=some b:=by rw[←k00];exact eb
      have hf:r=false:=by rw[←hr,h0 (by omega),hs];rfl
      subst hf;simp only[vW,seval,d3,eb,t1,t3,t4,t5,k0,d30,e00]
     ·simp only[vW,seval,d3,eb,t1,t3,t4,t5,k0,w4];refine zc ⟨k+1,hlt,fun _=>hh (by omega),hd⟩ (by show l.length-(k+1)<l.length-k;omega) ?_;exact lwA
    ·have t1:(97:Int)≤(b.toNat:Int):=by omega
     have t2:(b.toNat:Int)≤122:=by omega
     have t3:(48:Int)≤(b.toNat:Int):=by omega
     have t4:¬(b.toNat:Int)≤57:=by omega
     have t5:¬(b.toNat:Int)=95:=by omega
     have hs:small b=true:=by unfold small;simp;omega
     have hn:zS b=true:=by unfold zS;rw[hs];rfl
     rw[hn,Bool.true_and]at hd;simp only[vW,seval,d3,eb,t1,t2,t3,t4,t5,w4];refine zc ⟨k+1,hlt,fun _=> ?_,hd⟩ (by show l.length-(k+1)<l.length-k;omega) ?_
     ·by_cases k0:k=0
      ·rw[h0 k0];exact hs
      ·exact hh (by omega)
     exact lwA
    ·have t1:(97:Int)≤(b.toNat:Int):=by omega
     have t2:¬(b.toNat:Int)≤122:=by omega
     have t3:(48:Int)≤(b.toNat:Int):=by omega
     have t4:¬(b.toNat:Int)≤57:=by omega
     have t5:¬(b.toNat:Int)=95:=by omega
     have hn:zS b=false:=by unfold zS small;simp;omega
     rw[hn,Bool.false_and]at hd;have hf:r=false:=by rw[←hr,←hd,Bool.and_false]
     subst hf;by_cases k0:(k:Int)=0
     ·have k00:k=0:=by omega
      have d30:(0:Int)<(l.length:Int):=by omega
      have e00:l[0]?=some b:=by rw[←k00];exact eb
      simp only[vW,seval,d3,eb,t1,t2,t3,t4,t5,k0,d30,e00]
     ·simp only[vW,seval,d3,eb,t1,t2,t3,t4,t5,k0]
   ·have d3:¬(k:Int)<(l.length:Int):=by omega
    rw[List.drop_eq_nil_of_le (by omega)]at hd;have hf:r=true:=by rw[←hr,←hd,hh (by omega)];rfl
    subst hf;simp only[vW,seval,d3]
  ·have d2:(20:Int)<(l.length:Int):=by omega
   have hR:zb l=false:=by unfold zb;rw[decide_eq_false (by omega)];rfl
   rw[hR];simp only[vW,seval,d1,d2]
 ·have d1:(l.length:Int)<1:=by omega
  have hR:zb l=false:=by unfold zb;rw[decide_eq_false (by omega)];rfl
  rw[hR];simp only[vW,seval,d1]
end
section
open Go.Sh.Cd5
theorem zau(g:Sh.Glob)(l:zB)(hl:l.length<4611686018427387904):zC g 176 [nv (.mk 2 0 l [])] [] (B (zl l)) []:=by
 have HR:=zg5 g (.mk 2 0 l []) (by unfold z25 V.s;simp only;omega) (by simp[V.k]);have hk:z1L (.mk 2 0 l [])=zl l:=by unfold z1L;simp[V.k,V.n,V.l,V.s]
 rw[hk]at HR;exact HR.inp (xs:=[nv (.mk 2 0 l [])]) rfl (fun j c d hc hd=>by
  match j with
  |0=>simp at hc hd;subst hc;subst hd;exact z4L rfl
  |j+1=>simp at hc)
theorem zjM(g:Sh.Glob)(e:V)(he:ESmall e):zC g 181 [tv e] [] (B (z0F e)) []:=by
 refine za tf_150 ?_;have HT:=zau g e.s he.txt;have HN:=z33 g e.s he.txt;have HB:=z6Z g e.s;have HK:=z6Y g e.s;have e0:=bS [];have hlen0:decide ((e.l.length:Int)=0)=(e.l.length==0):=by rw[Bool.eq_iff_iff];simp
 have hlen1:decide ((e.l.length:Int)=1)=(e.l.length==1):=by rw[Bool.eq_iff_iff];simp;omega
 have hlen2:decide ((e.l.length:Int)=2)=(e.l.length==2):=by rw[Bool.eq_iff_iff];simp;omega
 have e45:=bS [45];unfold nv at HT;unfold B at*;unfold z0F;by_cases k1:e.k=1
 ·rw[if_neg (by simp[k1]),if_pos k1];simp only[vW,seval,bmV,k1,e0,zr5]
  repeat' (first|(apply And.intro)|(intro _))
  all_goals(first|(simp_all;done)|(simp only[Option.some.injEq,Prod.mk.injEq,TV.pv.injEq,PV.v.injEq,Value.bool.injEq];rw[Bool.eq_iff_iff];simp_all<;>omega))
 by_cases n0:e.n=0
 ·rw[if_neg (by simp[n0]),if_neg k1];by_cases k2:e.k=2
  ·rw[if_pos k2];simp only[vW,seval,bmV,k2,n0];refine z7 HT ?_;cases zl e.s
   ·simp only[vW,seval,bmV]
   ·simp only[vW,seval,bmV,hlen0,Bool.true_and]
  rw[if_neg k2];by_cases k3:e.k=3
  ·rw[if_pos k3];simp only[vW,seval,bmV,k3,n0];refine z7 HN ?_;cases zb e.s
   ·simp only[vW,seval,bmV]
   ·simp only[vW,seval,bmV,hlen0,Bool.true_and]
  rw[if_neg k3];by_cases k4:e.k=4
  ·rw[if_pos k4];simp only[vW,seval,bmV,k4,n0];refine z7 HB ?_;simp only[vW,seval,bmV];refine⟨fun h=> ?_,fun h=> ?_⟩
   ·rw[decide_eq_true h,hlen2,Bool.true_and]
   ·rw[decide_eq_false h,Bool.false_and]
  rw[if_neg k4];by_cases k5:e.k=5
  ·rw[if_pos k5];simp only[vW,seval,bmV,k5,n0,e45];cases e.s==[45]
   ·simp only[vW,seval,bmV]
   ·simp only[vW,seval,bmV,hlen1,Bool.true_and]
  rw[if_neg k5];by_cases k6:e.k=6
  ·rw[if_pos k6];simp only[vW,seval,bmV,k6,n0];refine z7 HK ?_;simp only[vW,seval,bmV];refine⟨fun h=> ?_,fun h=> ?_⟩
   ·refine z7 HK ?_;simp only[vW,seval,bmV,h]
   ·rw[decide_eq_false h,Bool.false_and]
  ·rw[if_neg k6];simp only[vW,seval,bmV,k1,k2,k3,k4,k5,k6,n0]
 ·rw[if_pos ⟨k1,n0⟩];by_cases k2:e.k=2
  ·simp only[vW,seval,bmV,k2,n0]
  by_cases k3:e.k=3
  ·simp only[vW,seval,bmV,k3,n0]
  by_cases k4:e.k=4
  ·simp only[vW,seval,bmV,k4,n0]
  by_cases k5:e.k=5
  ·simp only[vW,seval,bmV,k5,n0]
  by_cases k6:e.k=6
  ·simp only[vW,seval,bmV,k6,n0]
  simp only[vW,seval,bmV,k1,k2,k3,k4,k5,k6]
end
section
open Go.Sh.Cd7
theorem zaC(b c:UInt8)(h:b≠c):¬(b.toNat:Int)=(c.toNat:Int):=fun e=>h (UInt8.toNat_inj.1 (by omega))
theorem z2R(g:Sh.Glob)(b:UInt8):zC g 146 [.pv (.v (.int .u8 (b.toNat:Int)))] [] (B (z1I b)) []:=by
 refine za tf_148 ?_;have hb:z1I b=(decide (48≤(b.toNat:Int))&&decide ((b.toNat:Int)≤57)):=by unfold z1I;rw[Bool.eq_iff_iff];simp;omega
 rw[hb];unfold B;by_cases h1:48≤(b.toNat:Int)
 ·simp only[vW,seval,h1]
 ·simp only[vW,seval,h1]
theorem z70(g:Sh.Glob)(b:UInt8):zC g 148 [.pv (.v (.int .u8 (b.toNat:Int)))] [] (B (zS b)) []:=by
 refine za tf_153 ?_;have h1:decide (97≤(b.toNat:Int))=decide (97≤b.toNat):=by rw[Bool.eq_iff_iff];simp;omega
 have h2:decide ((b.toNat:Int)≤122)=decide (b.toNat≤122):=by rw[Bool.eq_iff_iff];simp;omega
 have h3:decide (48≤(b.toNat:Int))=decide (48≤b.toNat):=by rw[Bool.eq_iff_iff];simp;omega
 have h4:decide ((b.toNat:Int)≤57)=decide (b.toNat≤57):=by rw[Bool.eq_iff_iff];simp;omega
 have h5:decide ((b.toNat:Int)=95)=(b.toNat==95):=by rw[Bool.eq_iff_iff];simp;omega
 unfold B zS small;rw[Bool.decide_and,Bool.decide_and];simp only[vW,seval]
 repeat' (first|(apply And.intro)|(intro _))
 all_goals(first|(simp_all;done)|(simp_all;omega)|(simp_all<;>omega))
def z6K(a:Nat)(r:Option (zB×Nat)):TV:=match r with|some (t,k)=> .tuple [S (str t),I ((a+k:Nat):Int)]|none=> .tuple [S (str []),I 0]
theorem zha(g:Sh.Glob)(s:zB)(a:Nat)(ha:a<s.length)(hs:s.length≤1000):zC g 147 [S (str s),I (a:Int)] [] (z6K a (quoG (s.drop (a+1)) [] 1)) []:=by
 obtain⟨R,hR⟩:∃R,quoG (s.drop (a+1)) [] 1=R:=⟨_,rfl⟩
 rw[hR];have e0:=bS [];have w0:=wS a;refine za tf_152 ?_;simp only[vW,seval,e0,w0];refine zk (σ:={x:Nat×zB // a<x.1∧x.1≤s.length∧quoG (s.drop x.1) x.2 (x.1-a)=R∧x.2.length≤x.1}) (fun x=>⟨[(0,S (str s)),(6,S (str x.1.2)),(7,I (x.1.1:Int))],[],[],[]⟩) (fun x=>s.length-x.1.1) ⟨(a+1,[]),by dsimp only;omega,by dsimp only;omega,by dsimp only;rw[show a+1-a=1 by omega];exact hR,by simp⟩ ?_ ?_
 ·apply z0e<;>simp[leL,lk,sv,Nat.beq,I,S,ES.kill,has,drp,zn,e0]
 rintro⟨⟨i,t⟩,h1,h2,h3,h4⟩
 dsimp only at h1 h2 h3 h4
 by_cases hlt:i<s.length
 ·have d1:(i:Int)<(s.length:Int):=by omega
  obtain⟨b,eb⟩:∃b,s[i]?=some b:=⟨_,gE hlt⟩
  have hd:s.drop i=b::s.drop (i+1):=by rw[List.drop_eq_getElem_cons hlt];congr 1;rw[gE hlt]at eb;exact Option.some.inj eb
  have w1:=wS i;rw[hd,quoG.eq_def]at h3
  dsimp only at h3
  have hbl:=b.toNat_lt;by_cases hq:b=34
  ·subst hq;rw[if_pos rfl]at h3;have HR:=zau g t (by omega);unfold nv B at HR;simp only[vW,seval,d1,eb,w1,e0];refine z7 HR ?_;cases hr:zl t
   ·rw[hr]at h3;simp only[Bool.false_eq_true,if_false]at h3;subst h3;unfold z6K;simp only[vW,seval,e0]
   ·rw[hr]at h3;simp only[if_true]at h3;subst h3;unfold z6K;simp only[vW,seval,w1];rw[show a+(i-a+1)=i+1 by omega]
  rw[if_neg hq]at h3;have t34:¬(b.toNat:Int)=34:=zaC b 34 hq;by_cases hq2:b=92
  ·subst hq2;rw[if_pos rfl]at h3;have t92:(92:UInt8).toNat=92:=rfl;by_cases hlt2:i+1<s.length
   ·have d2:¬(s.length:Int)≤((i+1:Nat):Int):=by omega
    obtain⟨c,ec⟩:∃c,s[i+1]?=some c:=⟨_,gE hlt2⟩
    have hd2:s.drop (i+1)=c::s.drop (i+1+1):=by rw[List.drop_eq_getElem_cons hlt2];congr 1;rw[gE hlt2]at ec;exact Option.some.inj ec
    rw[hd2]at h3
    dsimp only at h3
    have w2:IntKind.i64.wrap (((i+1:Nat):Int)+1)=((i+1+1:Nat):Int):=wG;have htk:List.take 1 (List.drop (i+1) s)=[c]:=by rw[hd2];rfl
    have go:∀(hc:c=34∨c=92),quoG (s.drop (i+1+1)) (t++[c]) (i+1+1-a)=R:=fun hc=>by
     rw[if_pos hc]at h3;rw[show i+1+1-a=i-a+2 by omega];exact h3
    by_cases c34:c=34
    ·subst c34;simp only[vW,seval,d1,eb,w1,d2,ec,w2];refine⟨⟨by omega,by omega⟩,by rw[List.length_take];omega,zc ⟨(i+1+1,t++[34]),by dsimp only;omega,by dsimp only;omega,go (.inl rfl),by simp;omega⟩ (by show s.length-(i+1+1)<s.length-i;omega) ?_⟩;apply z0e<;>simp[leL,lk,sv,Nat.beq,I,S,ES.kill,has,drp,zn,htk]
    have n34:¬(c.toNat:Int)=34:=zaC c 34 c34;by_cases c92:c=92
    ·subst c92;simp only[vW,seval,d1,eb,w1,d2,ec,w2,n34];refine⟨⟨by omega,by omega⟩,by rw[List.length_take];omega,zc ⟨(i+1+1,t++[92]),by dsimp only;omega,by dsimp only;omega,go (.inr rfl),by simp;omega⟩ (by show s.length-(i+1+1)<s.length-i;omega) ?_⟩;apply z0e<;>simp[leL,lk,sv,Nat.beq,I,S,ES.kill,has,drp,zn,htk]
    have n92:¬(c.toNat:Int)=92:=zaC c 92 c92;rw[if_neg (by simp[c34,c92])]at h3;subst h3;unfold z6K;simp only[vW,seval,d1,eb,w1,d2,ec,w2,n34,n92,e0]
   ·have d2:(s.length:Int)≤((i+1:Nat):Int):=by omega
    rw[List.drop_eq_nil_of_le (by omega)]at h3
    dsimp only at h3
    subst h3;unfold z6K;simp only[vW,seval,d1,eb,w1,d2,e0]
  rw[if_neg hq2]at h3;have t92:¬(b.toNat:Int)=92:=zaC b 92 hq2;have htk:List.take 1 (List.drop i s)=[b]:=by rw[hd];rfl
  simp only[vW,seval,d1,eb,w1,t34,t92];refine⟨⟨by omega,by omega⟩,by rw[List.length_take];omega,zc ⟨(i+1,t++[b]),by dsimp only;omega,by dsimp only;omega,by dsimp only;rw[show i+1-a=i-a+1 by omega];exact h3,by simp;omega⟩ (by show s.length-(i+1)<s.length-i;omega) ?_⟩;apply z0e<;>simp[leL,lk,sv,Nat.beq,I,S,ES.kill,has,drp,zn,htk]
 have d1:¬(i:Int)<(s.length:Int):=by omega
 rw[List.drop_eq_nil_of_le (by omega),quoG.eq_def]at h3
 dsimp only at h3
 subst h3;unfold z6K;simp only[vW,seval,d1,e0]
end
end Go.Proofs.YtpmlapgbmgbilaaGreatDoor
end

section
namespace Go.Mor
open Go
section
def z3x(L:List Pc)(sz p:Nat)(b:Int):Int:=if b<0 then((pkP L sz p).p:Int)else b
def z2i(L:List Pc)(sz:Nat)(t:zB)(p:Nat)(b:Int):Nat×Int:=if 0≤b then(p,b)else if z01 (pkP L sz p) t then(p+1,b)else(p,z3x L sz p b)
mutual
def mE(L:List Pc)(sz:Nat):Nat→Int→Nat→Int→Option (V×Nat×Int)
 |0,_,_,_=>none
 |f+1,zu,p,b=>match mT L sz f p b with
  |some (e,p',b')=>mL L sz f zu e p' b'
  |none=>none
def mL(L:List Pc)(sz:Nat):Nat→Int→V→Nat→Int→Option (V×Nat×Int)
 |0,_,_,_,_=>none
 |f+1,zu,e,p,b=>
  if b<0∧(pkP L sz p).k=4∧zu≤zM (pkP L sz p).s then(match mE L sz f (zM (pkP L sz p).s+1) (p+1) b with
   |some (e2,p2,b2)=>mL L sz f zu (.mk 4 0 (pkP L sz p).s [e,e2]) p2 b2
   |none=>none)
  else some (e,p,b)
def mT(L:List Pc)(sz:Nat):Nat→Nat→Int→Option (V×Nat×Int)
 |0,_,_=>none
 |f+1,p,b=>
  if 0≤b∨L.length≤p then some (V.nil,p,z3x L sz p b)
  else if(pkP L sz p).k=1∨(pkP L sz p).k=2 then some (.mk (pkP L sz p).k (pkP L sz p).n (pkP L sz p).s [],p+1,b)
  else if(pkP L sz p).k=3 then(if z01 (pkP L sz (p+1)) [40]=true∧0<zt (pkP L sz p).s then mH L sz f (pkP L sz p).s 0 (p+1+1) b []
   else some (.mk 3 0 (pkP L sz p).s [],p+1,b))
  else if(pkP L sz p).s=[45] then(match mT L sz f (p+1) b with
   |some (e,p',b')=>some (.mk 5 0 [45] [e],p',b')
   |none=>none)
  else if(pkP L sz p).s=[40] then(match mE L sz f 1 (p+1) b with
   |some (e,p',b')=>some (e,z2i L sz [41] p' b')
   |none=>none)
  else some (V.nil,p,z3x L sz p b)
def mH(L:List Pc)(sz:Nat):Nat→zB→Nat→Nat→Int→List V→Option (V×Nat×Int)
 |0,_,_,_,_,_=>none
 |f+1,s,k,p,b,acc=>
  if(k:Int)<zt s∧b<0 then(match mE L sz f 1 (if 0<k then z2i L sz [44] p b else(p,b)).1 (if 0<k then z2i L sz [44] p b else(p,b)).2 with
   |some (e,p2,b2)=>mH L sz f s (k+1) p2 b2 (acc++[e])
   |none=>none)
  else some (.mk 6 0 s acc,z2i L sz [41] p b)
end
structure PcOk(q:Pc):Prop where
 k:q.k=1∨q.k=2∨q.k=3∨q.k=4
 n:q.k=2→q.n=0
 s:q.k=1→q.s=[]
section
variable{L:List Pc}{sz:Nat}
theorem z5W{p:Nat}(h:L.length≤p):pkP L sz p=⟨0,0,[],sz⟩:=by grind [pkP,List.getElem?_eq_none]
theorem z7h{p:Nat}{q:Pc}(h:L[p]?=some q):pkP L sz p=q:=by grind [pkP]
theorem zaI(p:Nat):0≤z3x L sz p (-1):=by unfold z3x;simp
theorem znx{p:Nat}{b:Int}(h:0≤b):z3x L sz p b=b:=by grind [z3x]
theorem z8f{t:zB}{p:Nat}{b:Int}(h:0≤b):z2i L sz t p b=(p,b):=by grind [z2i]
theorem zd2{t:zB}{p:Nat}(h:z01 (pkP L sz p) t=true):z2i L sz t p (-1)=(p+1, -1):=by grind [z2i]
theorem zd3{t:zB}{p:Nat}(h:z01 (pkP L sz p) t=false):0≤(z2i L sz t p (-1)).2:=by
 unfold z2i;rw[if_neg (by omega),if_neg (by grind)];exact zaI p
theorem zrH{b:Int}(h:0≤b)(f:Nat)(zu:Int)(p:Nat):mE L sz (f+2) zu p b=some (V.nil,p,b):=by
 rw[mE,mT,if_pos (.inl h),znx h]
 grind [mL]
def z5G(r:Rs V)(o:Option (V×Nat×Int)):Prop:=match r with
 | .ok e p=>o=some (e,p, -1)
 | .bad _ _=>∃e q b,0≤b∧o=some (e,q,b)
theorem zkr(hL:∀q∈L,PcOk q):∀f:Nat,
  (∀zu p r,pE L sz f zu p=some r→z5G r (mE L sz (f+3) zu p (-1)))∧
  (∀zu e p r,pL L sz f zu e p=some r→z5G r (mL L sz (f+3) zu e p (-1)))∧
  (∀p r,pT L sz f p=some r→z5G r (mT L sz (f+3) p (-1)))∧
  (∀(s:zB) k p acc r,pH L sz f (zt s).toNat k p acc=some r→match r with
   | .ok l p'=>mH L sz (f+3) s k p (-1) acc=some (.mk 6 0 s l,p', -1)
   | .bad _ _=>∃e q b,0≤b∧mH L sz (f+3) s k p (-1) acc=some (e,q,b)):=by
 intro f
 induction f with
 |zero=>grind [pE,pL,pT,pH]
 |succ f ih=>
  obtain⟨iE,iL,iT,iH⟩:=ih;refine⟨fun zu p r h=> ?_,fun zu e p r h=> ?_,fun p r h=> ?_,fun s k p acc r h=> ?_⟩
  ·rw[pE]at h;rw[show f+1+3=(f+3)+1 by omega,mE];split at h
   ·rename_i e p' hT;have:=iT p _ hT
    grind [z5G]
   ·rename_i a p' hT;cases h;obtain⟨e,q,b,hb,ho⟩:=iT p _ hT;rw[ho];refine⟨e,q,b,hb,?_⟩
    dsimp only
    grind [mL]
   ·cases h
  ·rw[pL]at h;rw[show f+1+3=(f+3)+1 by omega,mL];split at h
   ·rename_i hc;cases h;show _=_
    grind
   ·rename_i hc;have h1:(pkP L sz p).k=4:=Decidable.byContradiction fun h=>hc (.inl h);have h2:zM (pkP L sz p).s≥zu:=by
     omega
    rw[if_pos ⟨by omega,h1,h2⟩];split at h
    ·grind [z5G]
    ·rename_i a p' hE;cases h;obtain⟨e2,q,b,hb,ho⟩:=iE _ _ _ hE;rw[ho];refine⟨.mk 4 0 (pkP L sz p).s [e,e2],q,b,hb,?_⟩
     dsimp only
     grind [mL]
    ·cases h
  ·rw[show f+1+3=(f+3)+1 by omega,mT];rw[pT]at h;by_cases hp:L.length≤p
   ·rw[if_pos (.inr hp)];rw[z5W hp]at h;simp[z01]at h;subst h;exact⟨V.nil,p,_,zaI p,rfl⟩
   have hpl:p<L.length:=by omega
   rw[if_neg (by omega)];have hq:=hL (L[p]) (List.getElem_mem hpl);rw[←z7h (sz:=sz) (gE hpl)]at hq;generalize pkP L sz p=x at*;rcases hq.k with k|k|k|k
   ·have s1:z01 x [40]=false:=by unfold z01;rw[k];rfl
    have s2:z01 x [45]=false:=by grind [z01]
    simp only[s1,s2,k,if_true,Bool.false_eq_true,if_false]at h;cases h;rw[if_pos (.inl k),k,hq.s k];rfl
   ·have s1:z01 x [40]=false:=by unfold z01;rw[k];rfl
    have s2:z01 x [45]=false:=by grind [z01]
    simp only[s1,s2,k,if_true,Bool.false_eq_true,if_false,show ¬(2:Int)=1 by decide]at h;cases h;rw[if_pos (.inr k),k,hq.n k];rfl
   ·have s1:z01 x [40]=false:=by unfold z01;rw[k];rfl
    have s2:z01 x [45]=false:=by grind [z01]
    simp only[s1,s2,k,if_true,Bool.false_eq_true,if_false,show ¬(3:Int)=1 by decide,show ¬(3:Int)=2 by decide]at h;rw[if_neg (by omega),if_pos k];split at h
    ·rename_i hc;rw[if_pos ⟨hc.2,hc.1⟩];split at h
     ·rename_i l p' hH;cases h;have:=iH x.s 0 (p+2) [] _ hH;exact this
     ·rename_i a p' hH;cases h;have:=iH x.s 0 (p+2) [] _ hH;exact this
     ·cases h
    ·rename_i hc;cases h;rw[if_neg (fun h=>hc ⟨h.2,h.1⟩)];rfl
   ·rw[if_neg (by omega),if_neg (by omega)];have hs:∀t,z01 x t=decide (x.s=t):=fun t=>by unfold z01;rw[k,Bool.eq_iff_iff];simp
    rw[hs,hs]at h;by_cases h40:x.s=[40]
    ·rw[if_neg (by grind),if_pos h40];rw[if_pos (by grind)]at h;split at h
     ·rename_i e p' hE;have:=iE _ _ _ hE;unfold z5G at this
      dsimp only at this
      rw[this]
      dsimp only
      split at h
      ·rename_i h41;cases h;rw[zd2 h41];rfl
      ·rename_i h41;cases h;exact⟨_,_,_,zd3 (by grind),rfl⟩
     ·rename_i a p' hE;cases h;obtain⟨e,q,b,hb,ho⟩:=iE _ _ _ hE;rw[ho]
      dsimp only
      grind [z8f]
     ·cases h
    rw[if_neg (by grind)]at h;by_cases h45:x.s=[45]
    ·rw[if_pos h45];rw[if_pos (by grind)]at h;split at h
     ·rename_i e p' hT;cases h;have:=iT _ _ hT;unfold z5G at this
      dsimp only at this
      rw[this];rfl
     ·rename_i a p' hT;cases h;obtain⟨e,q,b,hb,ho⟩:=iT _ _ hT;rw[ho];exact⟨_,_,_,hb,rfl⟩
     ·cases h
    rw[if_neg (by grind)]at h;rw[if_neg h45,if_neg h40];rw[if_neg (by omega),if_neg (by omega),if_neg (by omega)]at h;cases h;exact⟨_,_,_,zaI p,rfl⟩
  ·rw[show f+1+3=(f+3)+1 by omega,mH];rw[pH]at h;by_cases hk:k<(zt s).toNat
   ·rw[if_pos hk]at h;rw[if_pos ⟨by omega,by omega⟩];by_cases h0:0<k
    ·simp only[if_pos h0];by_cases h44:z01 (pkP L sz p) [44]=false
     ·rw[if_pos ⟨h0,h44⟩]at h;cases h;have hb:=zd3 h44;rw[show f+3=(f+1)+2 by omega,zrH hb]
      dsimp only
      rw[show f+1+2=(f+2)+1 by omega,mH,if_neg (by omega),z8f hb]
      grind
     ·rw[if_neg (fun h=>h44 h.2),if_pos h0]at h;rw[zd2 (by grind)]
      dsimp only
      split at h
      ·grind [z5G]
      ·rename_i a p' hE;cases h;obtain⟨e,q,b,hb,ho⟩:=iE _ _ _ hE;rw[ho]
       dsimp only
       grind [mH,z8f]
      ·cases h
    ·simp only[if_neg h0];rw[if_neg (fun h=>h0 h.1),if_neg h0]at h;split at h
     ·grind [z5G]
     ·rename_i a p' hE;cases h;obtain⟨e,q,b,hb,ho⟩:=iE _ _ _ hE;rw[ho]
      dsimp only
      grind [mH,z8f]
     ·cases h
   ·rw[if_neg hk]at h;rw[if_neg (by omega)];split at h
    ·rename_i h41;cases h
     dsimp only
     rw[zd2 h41]
    ·rename_i h41;cases h;exact⟨_,_,_,zd3 (by grind),rfl⟩
end
end
end Go.Mor
end

section
namespace Go.Proofs.YtpmlapgbmgbilaaGreatDoor
open Go Go.RowKit Go.Mor Go.Sh Go.Sh.Cd1 Go.Sh.Cd7
def qcK(k:Int):Int:=if k=4 then 0 else k
def qcT(q:Pc):TV:=.agg [I (qcK q.k),I q.n,S (str q.s),I (q.p:Int)]
def z77(g:Sh.Glob)(s:zB)(i:Nat)(r:Option (Pc×Nat)):Prop:=match r with
 |some (q,z)=>zC g 107 [S (str s),I (i:Int)] [] (.tuple [qcT q,I ((i+z:Nat):Int)]) []
 |none=>∃(k n:Int) (t:zB),zC g 107 [S (str s),I (i:Int)] [] (.tuple [.agg [I k,I n,S (str t),I (i:Int)],I 0]) []
theorem zo3(l:zB)(z:Nat):(z1f l 1000000000000001 z).1=1000000000000001:=by
 induction l generalizing z with
 |nil=>rfl
 |cons b r ih=>
  rw[z1f];split
  ·rename_i h;unfold z1I at h;simp only[decide_eq_true_eq]at h;rw[show min (10*(1000000000000001:Int)+((b.toNat:Int) - 48)) 1000000000000001=1000000000000001 by omega];exact ih _
  ·rfl
def ovf:zB→Int→Option Int
 |[],_=>none
 |b::r,n=>if z1I b then(if 1000000000000000<10*n+((b.toNat:Int) - 48)then some (10*n+((b.toNat:Int) - 48))else ovf r (10*n+((b.toNat:Int) - 48)))else none
theorem zqj(l:zB):∀(n:Int) (z:Nat),0≤n→n≤1000000000000000→(ovf l n=none∧¬1000000000000000<(z1f l n z).1)∨(∃m,ovf l n=some m∧1000000000000000<(z1f l n z).1):=by
 induction l with
 |nil=>intro n z h0 h1;exact .inl ⟨rfl,by show ¬_<n;omega⟩
 |cons b r ih=>
  intro n z h0 h1;rw[ovf,z1f];by_cases hd:z1I b=true
  ·rw[if_pos hd,if_pos hd];have hd':=hd;unfold z1I at hd';simp only[decide_eq_true_eq]at hd';by_cases hb:1000000000000000<10*n+((b.toNat:Int) - 48)
   ·rw[if_pos hb,show min (10*n+((b.toNat:Int) - 48)) 1000000000000001=1000000000000001 by omega,zo3];exact .inr ⟨_,rfl,by decide⟩
   ·rw[if_neg hb,show min (10*n+((b.toNat:Int) - 48)) 1000000000000001=10*n+((b.toNat:Int) - 48) by omega];exact ih _ _ (by omega) (by omega)
  ·rw[if_neg hd,if_neg hd];exact .inl ⟨rfl,by show ¬_<n;omega⟩
theorem zo2(g:Sh.Glob)(s:zB)(i:Nat)(hs:s.length≤1000){b:UInt8}(hb:s[i]?=some b)(hd:z1I b=true):z77 g s i (z0l (s.drop i) i):=by
 have hlt:i<s.length:=(gJ hb).1;have hdr:s.drop i=b::s.drop (i+1):=by rw[List.drop_eq_getElem_cons hlt];congr 1;rw[gE hlt]at hb;exact Option.some.inj hb
 have hD0:=z2R g b;rw[hd]at hD0;have e0:=bS [];have hR:z0l (s.drop i) i=if 1000000000000000<(z1f (s.drop i) 0 0).1 then none else some (⟨1,(z1f (s.drop i) 0 0).1,[],i⟩,(z1f (s.drop i) 0 0).2):=by
  rw[hdr,z0l];simp only[hd,if_true]
 rw[hR];obtain⟨R,hRn⟩:∃R,z1f (s.drop i) 0 0=R:=⟨_,rfl⟩
 have hov:=zqj (s.drop i) 0 0 (by omega) (by omega);rw[hRn]at hov ⊢;unfold B at hD0;rcases hov with⟨o1,o2⟩|⟨m,o1,o2⟩
 ·rw[if_neg o2];change SCalls _ _ _ _ _ (.tuple [.agg [I 1,I R.1,S (str []),I (i:Int)],I ((i+R.2:Nat):Int)]) _;refine za tf_149 ?_;simp only[vW,seval,hb,e0];refine z8 hD0 ?_;refine zk (σ:={x:Nat×Int // i≤x.1∧x.1≤s.length∧z1f (s.drop x.1) x.2 (x.1-i)=R∧ovf (s.drop x.1) x.2=none∧0≤x.2∧x.2≤1000000000000000}) (fun x=>⟨[(0,S (str s)),(1,I (i:Int)),(4,.ptr 4 0),(6,.ptr 6 0),(7,I (x.1.1:Int))],[(4,[I 0,I 0,S (str []),I 0]),(6,[I 0,I x.1.2,S (str []),I (i:Int)])],[],[]⟩) (fun x=>s.length-x.1.1) ⟨(i,0),Nat.le_refl _,by dsimp only;omega,by dsimp only;rw[Nat.sub_self];exact hRn,o1,Int.le_refl _,by dsimp only;omega⟩ ?_ ?_
  ·apply z0e<;>simp[leL,lk,sv,Nat.beq,I,S,ES.kill,has,drp,zn,e0]
  rintro⟨⟨t,n⟩,h1,h2,h3,h4,h5,h6⟩
  dsimp only at h1 h2 h3 h4 h5 h6
  by_cases hlt2:t<s.length
  ·have d1:(t:Int)<(s.length:Int):=by omega
   obtain⟨c,ec⟩:∃c,s[t]?=some c:=⟨_,gE hlt2⟩
   have hdr2:s.drop t=c::s.drop (t+1):=by rw[List.drop_eq_getElem_cons hlt2];congr 1;rw[gE hlt2]at ec;exact Option.some.inj ec
   have w1:=wS t;have hD:=z2R g c;unfold B at hD;rw[hdr2]at h3 h4;cases hc:z1I c
   ·rw[hc]at hD;rw[z1f,hc]at h3;simp only[Bool.false_eq_true,if_false]at h3;subst h3;simp only[vW,seval,d1,ec];refine z8 hD ?_;rw[show i+(t-i)=t by omega]
   ·rw[hc]at hD;have hc':=hc;unfold z1I at hc';simp only[decide_eq_true_eq]at hc';rw[ovf,if_pos hc]at h4;split at h4
    ·cases h4
    rename_i hno;rw[z1f,hc,if_pos rfl,show min (10*n+((c.toNat:Int) - 48)) 1000000000000001=10*n+((c.toNat:Int) - 48) by omega]at h3;have v1:IntKind.u8.wrap ((c.toNat:Int) - 48)=(c.toNat:Int) - 48:=by rw[IntKind.wrap_u8];omega
    have v2:IntKind.i64.wrap ((c.toNat:Int) - 48)=(c.toNat:Int) - 48:=wrap64 (by omega) (by omega);have v3:IntKind.i64.wrap (10*n)=10*n:=wrap64 (by omega) (by omega);have v4:IntKind.i64.wrap (10*n+((c.toNat:Int) - 48))=10*n+((c.toNat:Int) - 48):=wrap64 (by omega) (by omega);simp only[vW,seval,d1,ec];refine z7 hD ?_;simp only[vW,seval,ec,v1,v2,v3,v4,hno,w1];refine zc ⟨(t+1,10*n+((c.toNat:Int) - 48)),by dsimp only;omega,hlt2,by dsimp only;rw[show t+1-i=t-i+1 by omega];exact h3,h4,by dsimp only;omega,by dsimp only;omega⟩ (by show s.length-(t+1)<s.length-t;omega) ?_;exact lwA
  ·have d1:¬(t:Int)<(s.length:Int):=by omega
   rw[List.drop_eq_nil_of_le (by omega),z1f]at h3;subst h3;simp only[vW,seval,d1];rw[show i+(t-i)=t by omega]
 ·rw[if_pos o2];refine⟨0,m,[],?_⟩;refine za tf_149 ?_;simp only[vW,seval,hb,e0];refine z8 hD0 ?_;refine zk (σ:={x:Nat×Int // i≤x.1∧x.1≤s.length∧ovf (s.drop x.1) x.2=some m∧0≤x.2∧x.2≤1000000000000000}) (fun x=>⟨[(0,S (str s)),(1,I (i:Int)),(4,.ptr 4 0),(6,.ptr 6 0),(7,I (x.1.1:Int))],[(4,[I 0,I 0,S (str []),I 0]),(6,[I 0,I x.1.2,S (str []),I (i:Int)])],[],[]⟩) (fun x=>s.length-x.1.1) ⟨(i,0),Nat.le_refl _,by dsimp only;omega,o1,Int.le_refl _,by dsimp only;omega⟩ ?_ ?_
  ·apply z0e<;>simp[leL,lk,sv,Nat.beq,I,S,ES.kill,has,drp,zn,e0]
  rintro⟨⟨t,n⟩,h1,h2,h4,h5,h6⟩
  dsimp only at h1 h2 h4 h5 h6
  by_cases hlt2:t<s.length
  ·have d1:(t:Int)<(s.length:Int):=by omega
   obtain⟨c,ec⟩:∃c,s[t]?=some c:=⟨_,gE hlt2⟩
   have hdr2:s.drop t=c::s.drop (t+1):=by rw[List.drop_eq_getElem_cons hlt2];congr 1;rw[gE hlt2]at ec;exact Option.some.inj ec
   have w1:=wS t;have hD:=z2R g c;unfold B at hD;rw[hdr2,ovf]at h4;cases hc:z1I c
   ·rw[hc]at h4;simp at h4
   ·rw[hc]at hD;rw[if_pos hc]at h4;have hc':=hc;unfold z1I at hc';simp only[decide_eq_true_eq]at hc';have v1:IntKind.u8.wrap ((c.toNat:Int) - 48)=(c.toNat:Int) - 48:=by rw[IntKind.wrap_u8];omega
    have v2:IntKind.i64.wrap ((c.toNat:Int) - 48)=(c.toNat:Int) - 48:=wrap64 (by omega) (by omega);have v3:IntKind.i64.wrap (10*n)=10*n:=wrap64 (by omega) (by omega);have v4:IntKind.i64.wrap (10*n+((c.toNat:Int) - 48))=10*n+((c.toNat:Int) - 48):=wrap64 (by omega) (by omega);by_cases hno:1000000000000000<10*n+((c.toNat:Int) - 48)
    ·rw[if_pos hno]at h4;cases h4;simp only[vW,seval,d1,ec];refine z7 hD ?_;simp only[vW,seval,ec,v1,v2,v3,v4,hno,w1]
    ·rw[if_neg hno]at h4;simp only[vW,seval,d1,ec];refine z7 hD ?_;simp only[vW,seval,ec,v1,v2,v3,v4,hno,w1];refine zc ⟨(t+1,10*n+((c.toNat:Int) - 48)),by dsimp only;omega,hlt2,h4,by dsimp only;omega,by dsimp only;omega⟩ (by show s.length-(t+1)<s.length-t;omega) ?_;exact lwA
  ·rw[List.drop_eq_nil_of_le (by omega),ovf]at h4;cases h4
theorem zlI(g:Sh.Glob)(s:zB)(i:Nat)(hs:s.length≤1000)(hb:s[i]?=some 34):z77 g s i (z0l (s.drop i) i):=by
 have hlt:i<s.length:=(gJ hb).1;have hdr:s.drop i=34::s.drop (i+1):=by rw[List.drop_eq_getElem_cons hlt];congr 1;rw[gE hlt]at hb;exact Option.some.inj hb
 have hD:=z2R g 34;have hT:=zha g s i hlt hs;have e0:=bS [];have hR:z0l (s.drop i) i=match quoG (s.drop (i+1)) [] 1 with|some (t,k)=>some (⟨2,0,t,i⟩,k)|none=>none:=by rw[hdr,z0l];rfl
 rw[hR];generalize quoG (s.drop (i+1)) [] 1=R at*;rw[show z1I 34=false by decide]at hD;unfold B at hD;cases R with
 |none=>
  refine⟨2,0,[],?_⟩;unfold z6K at hT
  dsimp only at hT
  refine za tf_149 ?_;simp only[vW,seval,hb,e0];refine z7 hD ?_;simp only[vW,seval,hb];exact zf hT
 |some x=>
  obtain⟨t,k⟩:=x;change SCalls _ _ _ _ _ (.tuple [.agg [I 2,I 0,S (str t),I (i:Int)],I ((i+k:Nat):Int)]) _;unfold z6K at hT
  dsimp only at hT
  refine za tf_149 ?_;simp only[vW,seval,hb,e0];refine z7 hD ?_;simp only[vW,seval,hb];exact zf hT
theorem zlG(g:Sh.Glob)(s:zB)(i:Nat)(hs:s.length≤1000){b:UInt8}(hb:s[i]?=some b)(hd:z1I b=false)(hn:zS b=true):z77 g s i (z0l (s.drop i) i):=by
 have hlt:i<s.length:=(gJ hb).1;have hdr:s.drop i=b::s.drop (i+1):=by rw[List.drop_eq_getElem_cons hlt];congr 1;rw[gE hlt]at hb;exact Option.some.inj hb
 have hD:=z2R g b;have hW:=z70 g b;have e0:=bS [];rw[hd]at hD;rw[hn]at hW;unfold B at hD hW;have h34:¬b=34:=by rintro rfl;revert hn;decide
 have t34:¬(b.toNat:Int)=34:=zaC b 34 h34;obtain⟨nz,hnz⟩:∃nz,z0O (s.drop i)=nz:=⟨_,rfl⟩
 have hz1:1≤nz:=by rw[←hnz,hdr,z0O,if_pos hn];omega
 have hzl:i+nz≤s.length:=by have:=z7O (s.drop i);rw[hnz,List.length_drop]at this;omega
 have hsm:small b=false→zb ((s.drop i).take nz)=false:=fun h=>by
  rw[hdr];cases nz with
  |zero=>omega
  |succ k=>
   rw[List.take_succ_cons];unfold zb;rw[show(b::(s.drop (i+1)).take k).headD 0=b from rfl,h,Bool.and_false,Bool.false_and]
 have hR:z0l (s.drop i) i=if zb ((s.drop i).take nz)then some (⟨3,0,(s.drop i).take nz,i⟩,nz)else none:=by
  cases h:small b
  ·rw[hsm h];have h95:b=95:=by
    unfold zS at hn;unfold z1I at hd;rw[h]at hn;simp at hn hd;apply UInt8.toNat_inj.1;show b.toNat=95;omega
   rw[hdr,h95];rfl
  ·rw[←hnz,hdr];rw[z0l];simp only[hd,h,if_true,Bool.false_eq_true,if_false]
 rw[hR];have HN:=z33 g ((s.drop i).take nz) (by rw[List.length_take,List.length_drop];omega);unfold B at HN;have htk:List.take (i+nz-i) (List.drop i s)=(s.drop i).take nz:=by rw[Nat.add_sub_cancel_left]
 have main:∀Q,(zb ((s.drop i).take nz)=true→Q=.tuple [.agg [I 3,I 0,S (str ((s.drop i).take nz)),I (i:Int)],I ((i+nz:Nat):Int)])→(zb ((s.drop i).take nz)=false→Q=.tuple [.agg [I 3,I 0,S (str ((s.drop i).take nz)),I (i:Int)],I 0])→
   zC g 107 [S (str s),I (i:Int)] [] Q []:=fun Q q1 q2=>by
  refine za tf_149 ?_;simp only[vW,seval,hb,e0];refine z7 hD ?_;simp only[vW,seval,hb,t34];refine z8 hW ?_;refine zk (σ:={t:Nat // i≤t∧t≤s.length∧z0O (s.drop t)+(t-i)=nz}) (fun t=>⟨[(0,S (str s)),(1,I (i:Int)),(4,.ptr 4 0),(6,.ptr 6 0),(7,I (t.1:Int))],[(4,[I 0,I 0,S (str []),I 0]),(6,[I 0,I 0,S (str []),I (i:Int)])],[],[]⟩) (fun t=>s.length-t.1) ⟨i,Nat.le_refl _,by omega,by omega⟩ ?_ ?_
  ·apply z0e<;>simp[leL,lk,sv,Nat.beq,I,S,ES.kill,has,drp,zn,e0]
  rintro⟨t,h1,h2,h3⟩;by_cases hlt2:t<s.length
  ·have d1:(t:Int)<(s.length:Int):=by omega
   obtain⟨c,ec⟩:∃c,s[t]?=some c:=⟨_,gE hlt2⟩
   have hdr2:s.drop t=c::s.drop (t+1):=by rw[List.drop_eq_getElem_cons hlt2];congr 1;rw[gE hlt2]at ec;exact Option.some.inj ec
   have w1:=wS t;have hC:=z70 g c;unfold B at hC;rw[hdr2,z0O]at h3;cases hc:zS c
   ·rw[hc]at hC h3;simp only[Bool.false_eq_true,if_false]at h3;simp only[vW,seval,d1,ec];refine z7 hC ?_;obtain rfl:t=i+nz:=by omega
    simp only[vW,seval,htk];refine⟨⟨by omega,by omega⟩,?_⟩;refine z7 HN ?_;cases hr:zb ((s.drop i).take nz)
    ·simp only[vW,seval];rw[q2 hr];rfl
    ·simp only[vW,seval];rw[q1 hr];rfl
   ·rw[hc]at hC h3;simp only[if_true]at h3;simp only[vW,seval,d1,ec];refine z7 hC ?_;simp only[vW,seval,w1];refine zc ⟨t+1,by omega,hlt2,by omega⟩ (by show s.length-(t+1)<s.length-t;omega) ?_;exact lwA
  ·have d1:¬(t:Int)<(s.length:Int):=by omega
   rw[List.drop_eq_nil_of_le (by omega),z0O]at h3;obtain rfl:t=i+nz:=by omega
   simp only[vW,seval,d1,htk];refine⟨⟨by omega,by omega⟩,?_⟩;refine z7 HN ?_;cases hr:zb ((s.drop i).take nz)
   ·simp only[vW,seval];rw[q2 hr];rfl
   ·simp only[vW,seval];rw[q1 hr];rfl
 cases hr:zb ((s.drop i).take nz)
 ·exact⟨3,0,(s.drop i).take nz,main _ (fun h=>by rw[hr]at h;cases h) (fun _=>rfl)⟩
 ·exact main _ (fun _=>rfl) (fun h=>by rw[hr]at h;cases h)
def z9l(b c:UInt8):Bool:=([b,c]==[60,62]||[b,c]==[60,61])||[b,c]==[62,61]
def z3m(b:UInt8):Bool:=((decide (0<zM [b])||[b]==[40])||[b]==[41])||[b]==[44]
theorem zsk(b:UInt8):∀c,z9l b c=true→(b=60∧(c=62∨c=61))∨(b=62∧c=61):=by
 intro c h;unfold z9l at h;simp at h;rcases h with(h|h)|h
 ·exact .inl ⟨h.1,.inl h.2⟩
 ·exact .inl ⟨h.1,.inr h.2⟩
 ·exact .inr h
theorem zoD{b c:UInt8}(r:zB)(h:z9l b c=true):z19 (b::c::r)=[b,c]:=by
 rcases zsk b c h with⟨rfl,rfl|rfl⟩|⟨rfl,rfl⟩<;>rfl
theorem zoC{b:UInt8}(r:zB)(h:∀c,r.head?=some c→z9l b c=false):z19 (b::r)=if z3m b then [b] else []:=by
 have h62:b=60→r.head?≠some 62:=fun e h'=>by have:=h 62 h';rw[e]at this;revert this;decide
 have h61:b=60→r.head?≠some 61:=fun e h'=>by have:=h 61 h';rw[e]at this;revert this;decide
 have h63:b=62→r.head?≠some 61:=fun e h'=>by have:=h 61 h';rw[e]at this;revert this;decide
 rw[z19];by_cases e60:b=60
 ·rw[if_pos e60,if_neg (h62 e60),if_neg (h61 e60),e60];rfl
 rw[if_neg e60];by_cases e62:b=62
 ·rw[if_pos e62,if_neg (h63 e62),e62];rfl
 rw[if_neg e62];have:z3m b=decide (b=61∨b=38∨b=43∨b=45∨b=42∨b=47∨b=37∨b=40∨b=41∨b=44):=by
  rw[Bool.eq_iff_iff];unfold z3m zM;simp only[List.cons.injEq,and_true,Bool.or_eq_true,decide_eq_true_eq,beq_iff_eq];constructor
  ·rintro(((h|h)|h)|h)
   ·repeat' (split at h)
    all_goals first|omega|(rename_i h1;rcases h1 with h1|h1|h1|h1|h1|h1<;>simp_all;done)|(rename_i h1;rcases h1 with h1|h1|h1<;>simp_all;done)|(rename_i h1;rcases h1 with h1|h1<;>simp_all;done)|(simp_all;done)
   ·simp[h]
   ·simp[h]
   ·simp[h]
  ·rintro(h|h|h|h|h|h|h|h|h|h)<;>simp[h]
 rw[this];by_cases hc:b=61∨b=38∨b=43∨b=45∨b=42∨b=47∨b=37∨b=40∨b=41∨b=44
 ·rw[if_pos hc,decide_eq_true hc,if_pos rfl]
 ·rw[if_neg hc,decide_eq_false hc];rfl
theorem zlH(g:Sh.Glob)(s:zB)(i:Nat)(hs:s.length≤1000){b:UInt8}(hb:s[i]?=some b)(hn:zS b=false)(h34:b≠34):z77 g s i (z0l (s.drop i) i):=by
 have hlt:i<s.length:=(gJ hb).1;have hdr:s.drop i=b::s.drop (i+1):=by rw[List.drop_eq_getElem_cons hlt];congr 1;rw[gE hlt]at hb;exact Option.some.inj hb
 have hD:=z2R g b;have hW:=z70 g b;have HB:=z6Z g [b];have e0:=bS [];have hsm:small b=false∧z1I b=false:=by
  unfold zS at hn;unfold z1I;simp at hn ⊢;exact⟨hn.1.1,hn.1.2⟩
 rw[hsm.2]at hD;rw[hn]at hW;unfold B at hD hW;have t34:¬(b.toNat:Int)=34:=zaC b 34 h34;have hR:z0l (s.drop i) i=if z19 (s.drop i)=[] then none else some (⟨4,0,z19 (s.drop i),i⟩,(z19 (s.drop i)).length):=by
  rw[hdr,z0l];simp only[hsm.1,hsm.2,Bool.false_eq_true,if_false,h34]
 rw[hR];have q1:=bS [60,62];have q2:=bS [60,61];have q3:=bS [62,61];have q4:=bS [40];have q5:=bS [41];have q6:=bS [44];have w1:=wS i;have w2:IntKind.i64.wrap ((i:Int)+2)=((i+2:Nat):Int):=wG;have k1:List.take (i+1-i) (List.drop i s)=[b]:=by rw[hdr,Nat.add_sub_cancel_left];rfl
 have k1':List.take 1 (List.drop i s)=[b]:=by rw[hdr];rfl
 have last:∀(h:∀c,s[i+1]?=some c→z9l b c=false),z77 g s i (if z19 (s.drop i)=[] then none else some (⟨4,0,z19 (s.drop i),i⟩,(z19 (s.drop i)).length)):=fun h=>by
  have hsg:z19 (s.drop i)=if z3m b then [b] else []:=by
   rw[hdr];refine zoC _ fun c hc=>h c ?_;rw[List.head?_drop]at hc;exact hc
  rw[hsg];have main:∀Q,(z3m b=true→Q=.tuple [.agg [I 0,I 0,S (str [b]),I (i:Int)],I ((i+1:Nat):Int)])→(z3m b=false→Q=.tuple [.agg [I 0,I 0,S (str [b]),I (i:Int)],I 0])→zC g 107 [S (str s),I (i:Int)] [] Q []:=fun Q f1 f2=>by
   refine za tf_149 ?_;simp only[vW,seval,hb,e0];refine z7 hD ?_;simp only[vW,seval,hb,t34];refine z7 hW ?_;by_cases hlt2:i+1<s.length
   ·have d1:((i+1:Nat):Int)<(s.length:Int):=by omega
    obtain⟨c,ec⟩:∃c,s[i+1]?=some c:=⟨_,gE hlt2⟩
    have hdr2:s.drop (i+1)=c::s.drop (i+1+1):=by rw[List.drop_eq_getElem_cons hlt2];congr 1;rw[gE hlt2]at ec;exact Option.some.inj ec
    have k2:List.take (i+2-i) (List.drop i s)=[b,c]:=by rw[hdr,hdr2,Nat.add_sub_cancel_left];rfl
    have k2':List.take 2 (List.drop i s)=[b,c]:=by rw[hdr,hdr2];rfl
    have hno:=h c ec;unfold z9l at hno;simp only[Bool.or_eq_false_iff]at hno;obtain⟨⟨x1,x2⟩,x3⟩:=hno;simp only[vW,seval,w1,w2,d1,k1,k2,k1',k2',q1,q2,q3,x1,x2,x3];repeat(with_reducible refine And.intro (And.intro (by omega) (by omega)) ?_)
    refine z7 HB ?_;by_cases y1:0<zM [b]
    ·simp only[vW,seval,y1,q4,q5,q6,w1];rw[f1 (by unfold z3m;rw[decide_eq_true y1];rfl)];rfl
    cases y2:([b]==[40])
    ·cases y3:([b]==[41])
     ·cases y4:([b]==[44])
      ·simp only[vW,seval,y1,y2,y3,y4,q4,q5,q6,w1];rw[f2 (by unfold z3m;rw[decide_eq_false y1,y2,y3,y4];rfl)];rfl
      ·simp only[vW,seval,y1,y2,y3,y4,q4,q5,q6,w1];rw[f1 (by unfold z3m;rw[decide_eq_false y1,y2,y3,y4];rfl)];rfl
     ·simp only[vW,seval,y1,y2,y3,q4,q5,q6,w1];rw[f1 (by unfold z3m;rw[decide_eq_false y1,y2,y3];rfl)];rfl
    ·simp only[vW,seval,y1,y2,q4,q5,q6,w1];rw[f1 (by unfold z3m;rw[decide_eq_false y1,y2];rfl)];rfl
   ·have d1:¬((i+1:Nat):Int)<(s.length:Int):=by omega
    simp only[vW,seval,w1,w2,d1,k1,k1',q1,q2,q3];repeat(with_reducible refine And.intro (And.intro (by omega) (by omega)) ?_)
    refine z7 HB ?_;by_cases y1:0<zM [b]
    ·simp only[vW,seval,y1,q4,q5,q6,w1];rw[f1 (by unfold z3m;rw[decide_eq_true y1];rfl)];rfl
    cases y2:([b]==[40])
    ·cases y3:([b]==[41])
     ·cases y4:([b]==[44])
      ·simp only[vW,seval,y1,y2,y3,y4,q4,q5,q6,w1];rw[f2 (by unfold z3m;rw[decide_eq_false y1,y2,y3,y4];rfl)];rfl
      ·simp only[vW,seval,y1,y2,y3,y4,q4,q5,q6,w1];rw[f1 (by unfold z3m;rw[decide_eq_false y1,y2,y3,y4];rfl)];rfl
     ·simp only[vW,seval,y1,y2,y3,q4,q5,q6,w1];rw[f1 (by unfold z3m;rw[decide_eq_false y1,y2,y3];rfl)];rfl
    ·simp only[vW,seval,y1,y2,q4,q5,q6,w1];rw[f1 (by unfold z3m;rw[decide_eq_false y1,y2];rfl)];rfl
  cases ho:z3m b
  ·exact⟨0,0,[b],main _ (fun h=>by rw[ho]at h;cases h) (fun _=>rfl)⟩
  ·exact main _ (fun _=>rfl) (fun h=>by rw[ho]at h;cases h)
 by_cases hlt2:i+1<s.length
 ·obtain⟨c,ec⟩:∃c,s[i+1]?=some c:=⟨_,gE hlt2⟩
  cases hx:z9l b c
  ·exact last fun c' hc'=>by rw[ec]at hc';cases hc';exact hx
  ·have d1:((i+1:Nat):Int)<(s.length:Int):=by omega
   have hdr2:s.drop (i+1)=c::s.drop (i+1+1):=by rw[List.drop_eq_getElem_cons hlt2];congr 1;rw[gE hlt2]at ec;exact Option.some.inj ec
   have k2:List.take (i+2-i) (List.drop i s)=[b,c]:=by rw[hdr,hdr2,Nat.add_sub_cancel_left];rfl
   have k2':List.take 2 (List.drop i s)=[b,c]:=by rw[hdr,hdr2];rfl
   have hsg:z19 (s.drop i)=[b,c]:=by rw[hdr,hdr2];exact zoD _ hx
   rw[hsg];change SCalls _ _ _ _ _ (.tuple [.agg [I 0,I 0,S (str [b,c]),I (i:Int)],I ((i+2:Nat):Int)]) _;refine za tf_149 ?_;have hc3:([b,c]==[60,62])=true∨(([b,c]==[60,62])=false∧([b,c]==[60,61])=true)∨(([b,c]==[60,62])=false∧([b,c]==[60,61])=false∧([b,c]==[62,61])=true):=by
    unfold z9l at hx;generalize([b,c]==[60,62])=p at*;generalize([b,c]==[60,61])=q at*;generalize([b,c]==[62,61])=r at*;revert hx;cases p<;>cases q<;>cases r<;>decide
   simp only[vW,seval,hb,e0];refine z7 hD ?_;simp only[vW,seval,hb,t34];refine z7 hW ?_;rcases hc3 with x1|⟨x1,x2⟩|⟨x1,x2,x3⟩
   ·simp only[vW,seval,w1,w2,d1,k1,k2,k1',k2',q1,q2,q3,x1]
    repeat' (first|(apply And.intro)|omega|rfl)
   ·simp only[vW,seval,w1,w2,d1,k1,k2,k1',k2',q1,q2,q3,x1,x2]
    repeat' (first|(apply And.intro)|omega|rfl)
   ·simp only[vW,seval,w1,w2,d1,k1,k2,k1',k2',q1,q2,q3,x1,x2,x3]
    repeat' (first|(apply And.intro)|omega|rfl)
 ·exact last fun c hc=>by have:=(gJ hc).1;omega
theorem zjL(g:Sh.Glob)(s:zB)(i:Nat)(hs:s.length≤1000)(hi:i<s.length):z77 g s i (z0l (s.drop i) i):=by
 obtain⟨b,hb⟩:∃b,s[i]?=some b:=⟨_,gE hi⟩
 cases hd:z1I b
 ·by_cases h34:b=34
  ·subst h34;exact zlI g s i hs hb
  ·cases hn:zS b
   ·exact zlH g s i hs hb hn h34
   ·exact zlG g s i hs hb hd hn
 ·exact zo2 g s i hs hb hd
end Go.Proofs.YtpmlapgbmgbilaaGreatDoor
end
