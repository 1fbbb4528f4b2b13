/- Merged texts: Zo2 Pk9 Zo3 Zo4 Zu3. No statement of the program is proved here. -/
import Derived.Test.YtpmlapgbmgbilaaGreatDoorR33
set_option linter.unusedSimpArgs false
set_option linter.unusedVariables false
set_option maxRecDepth 100000
set_option maxHeartbeats 8000000
section
namespace Go.Proofs.YtpmlapgbmgbilaaGreatDoor
open Go Go.RowKit Go.Mor Go.Sh Go.Sh.Cd1 Go.Sh.Cd7
theorem z97(g:Sh.Glob)(k:Int):zC g 106 [I k] [] (B (decide (1≤k)&&decide (k≤4))) []:=by
 refine za tf_143 ?_;unfold B;by_cases h1:1≤k
 ·simp only[vW,seval,h1]
 ·simp only[vW,seval,h1]
theorem zg4(g:Sh.Glob)(t:Ty):zC g 84 [tyT t] [] (B (zi t)) []:=by
 obtain⟨k,o⟩:=t;have H1:=z97 g k;have H2:=z97 g o;refine za tf_142 ?_;have hR:zi ⟨k,o⟩=((decide (1≤k)&&decide (k≤4))&&decide (o=0)||decide (k=5)&&(decide (1≤o)&&decide (o≤4))):=by
  unfold zi;rw[Bool.eq_iff_iff];by_cases h:k=5
  ·subst h;simp
  ·rw[if_neg h];simp[h];omega
 rw[hR];have h15:(decide (1≤k)&&decide (k≤4))=true→decide (k=5)=false:=fun h=>by simp at h ⊢;omega
 generalize(decide (1≤k)&&decide (k≤4))=x at*;generalize(decide (1≤o)&&decide (o≤4))=y at*;unfold B tyT at*;simp only[vW,seval];refine z7 H1 ?_;cases x
 ·by_cases h5:k=5
  ·simp only[vW,seval,h5];exact zf H2
  ·simp only[vW,seval,h5]
 ·by_cases h0:o=0
  ·simp only[vW,seval,h0];rw[Bool.true_or]
  ·have h5:¬k=5:=by simpa using h15 rfl
   simp only[vW,seval,h0,h5]
theorem z78{α:Type}(p:α→Bool)(l:List α)(k:Nat)(h:z0N p l=k)(i:Nat)(y:α)(hi:i<k)(hy:l[i]?=some y):p y=false:=by
 cases hp:p y with
 |false=>rfl
 |true=>
  exfalso;obtain⟨q,hq⟩:∃q,l.findIdx? p=some q:=by
   cases hf:l.findIdx? p with
   |some q=>exact⟨q,rfl⟩
   |none=>
    rw[List.findIdx?_eq_none_iff]at hf;have:=hf y (gM hy);rw[hp]at this;cases this
  have hqk:(q:Int)=k:=by rw[←h];simp[z0N,hq]
  rw[List.findIdx?_eq_some_iff_getElem]at hq;obtain⟨h1,_,h3⟩:=hq;obtain⟨hi2,rfl⟩:=gJ hy;exact h3 i (by omega) hp
theorem z6e(g:Sh.Glob)(c:Cls)(hc:ClsOk c):zC g 57 [clT c] [] (B (zd c)) []:=by
 have HN:=z33 g c.n hc.n;have hlen:=hc.len;obtain⟨R,hR⟩:∃R,zd c=R:=⟨_,rfl⟩
 rw[hR];unfold zd at hR;refine za tf_141 ?_;unfold B at*;simp only[vW,seval,clV];refine z7 HN ?_;cases h1:zb c.n
 ·rw[h1]at hR;subst hR;simp only[vW,seval]
 rw[h1,Bool.true_and]at hR;by_cases h8:c.fs.length≤8
 ·rw[decide_eq_true h8,Bool.true_and]at hR;have d8:¬(8:Int)<(c.fs.length:Int):=by omega
  simp only[vW,seval,d8,clV];refine zk (σ:={k:Nat // k≤c.fs.length∧z36 c.fs k (c.fs.drop k)=R}) (fun k=>⟨[(1,.ptr 1 0),(3,I (k.1:Int))],[(1,[S (str c.n),.pv (.sl 4 (flR c.fs))])],[],[]⟩) (fun k=>c.fs.length-k.1) ⟨0,Nat.zero_le _,by simpa using hR⟩ ?_ ?_
  ·exact lwA
  rintro⟨k,hk,hT⟩;by_cases hlt:k<c.fs.length
  ·have d1:(k:Int)<(c.fs.length:Int):=by omega
   obtain⟨f,ef⟩:∃f,c.fs[k]?=some f:=⟨_,gE hlt⟩
   have hmem:=gM ef;have HF:=z33 g f.n (hc.fs f hmem);have HT:=zg4 g f.t;have w1:=wS k;have hdr:c.fs.drop k=f::c.fs.drop (k+1):=by
    rw[List.drop_eq_getElem_cons hlt];congr 1;rw[gE hlt]at ef;exact Option.some.inj ef
   rw[hdr,z8S]at hT;have hrf:zD f=(zb f.n&&zi f.t&&(!f.ix||decide (f.t.k≤3))):=rfl;unfold tyT B at*;simp only[vW,seval,d1,ef,clV];refine z7 HF ?_;cases h2:zb f.n
   ·rw[hrf,h2]at hT;simp only[Bool.false_and]at hT;subst hT;simp only[vW,seval]
   simp only[vW,seval];refine z7 HT ?_;cases h3:zi f.t
   ·rw[hrf,h2,h3]at hT;simp only[Bool.false_and,Bool.and_false]at hT;subst hT;simp only[vW,seval]
   rw[hrf,h2,h3,Bool.true_and,Bool.true_and]at hT;have inner:∀(hR2:(fieldAt c.fs f.n==(k:Int)&&z36 c.fs (k+1) (c.fs.drop (k+1)))=R),True:=fun _=>trivial;have hix:(f.ix=false∧(!f.ix||decide (f.t.k≤3))=true)∨(f.ix=true∧f.t.k≤3∧(!f.ix||decide (f.t.k≤3))=true)∨(f.ix=true∧¬f.t.k≤3∧(!f.ix||decide (f.t.k≤3))=false):=by
    cases f.ix
    ·exact .inl ⟨rfl,rfl⟩
    ·by_cases h:f.t.k≤3
     ·exact .inr (.inl ⟨rfl,h,by rw[decide_eq_true h];rfl⟩)
     ·exact .inr (.inr ⟨rfl,h,by rw[decide_eq_false h];rfl⟩)
   rcases hix with⟨e1,e2⟩|⟨e1,e3,e2⟩|⟨e1,e3,e2⟩
   ·rw[e2,Bool.true_and]at hT;simp only[vW,seval,e1];refine zk (σ:={j:Nat // j≤k∧∀i y,i<j→c.fs[i]?=some y→(y.n==f.n)=false}) (fun j=>⟨[(1,.ptr 1 0),(3,I (k:Int)),(4,.ptr 4 0),(5,I (j.1:Int))],[(1,[S (str c.n),.pv (.sl 4 (flR c.fs))]),(4,[S (str f.n),I f.t.k,I f.t.o,.pv (.v (.bool f.ix))])],[],[]⟩) (fun j=>k-j.1) ⟨0,Nat.zero_le _,fun i y h=>by omega⟩ ?_ ?_
    ·apply z0e<;>simp[leL,lk,sv,Nat.beq,I,S,ES.kill,has,drp,zn,e1]
    rintro⟨j,hj,hno⟩;by_cases hjk:j<k
    ·have d2:(j:Int)<(k:Int):=by omega
     obtain⟨y,ey⟩:∃y,c.fs[j]?=some y:=⟨_,gE (by omega)⟩
     have w2:=wS j;cases hy:(y.n==f.n)
     ·simp only[vW,seval,d2,ey,hy,clV,w2];refine zc ⟨j+1,by omega,fun i z hi hz=> ?_⟩ (by show k-(j+1)<k-j;omega) ?_
      ·by_cases hij:i=j
       ·subst hij;rw[ey]at hz;cases hz;exact hy
       ·exact hno i z (by omega) hz
      ·exact lwA
     ·have hne:(fieldAt c.fs f.n==(k:Int))=false:=by
       rw[beq_eq_false_iff_ne];intro he;have:=z78 (fun x:Fld=>x.n==f.n) c.fs k he j y hjk ey;rw[hy]at this;cases this
      rw[hne,Bool.false_and]at hT;subst hT;simp only[vW,seval,d2,ey,hy,clV]
    ·have d2:¬(j:Int)<(k:Int):=by omega
     obtain rfl:j=k:=by omega
     have he:(fieldAt c.fs f.n==(j:Int))=true:=by
      rw[beq_iff_eq];exact z7E (fun x:Fld=>x.n==f.n) c.fs j f ef (by simp) (fun i y hi hy=>hno i y hi hy)
     rw[he,Bool.true_and]at hT;simp only[vW,seval,d2,w1];refine zc ⟨j+1,hlt,hT⟩ (by show c.fs.length-(j+1)<c.fs.length-j;omega) ?_;exact lwA
   ·rw[e2,Bool.true_and]at hT;have e4:¬(3:Int)<f.t.k:=by omega
    simp only[vW,seval,e1,e4];refine zk (σ:={j:Nat // j≤k∧∀i y,i<j→c.fs[i]?=some y→(y.n==f.n)=false}) (fun j=>⟨[(1,.ptr 1 0),(3,I (k:Int)),(4,.ptr 4 0),(5,I (j.1:Int))],[(1,[S (str c.n),.pv (.sl 4 (flR c.fs))]),(4,[S (str f.n),I f.t.k,I f.t.o,.pv (.v (.bool f.ix))])],[],[]⟩) (fun j=>k-j.1) ⟨0,Nat.zero_le _,fun i y h=>by omega⟩ ?_ ?_
    ·apply z0e<;>simp[leL,lk,sv,Nat.beq,I,S,ES.kill,has,drp,zn,e1]
    rintro⟨j,hj,hno⟩;by_cases hjk:j<k
    ·have d2:(j:Int)<(k:Int):=by omega
     obtain⟨y,ey⟩:∃y,c.fs[j]?=some y:=⟨_,gE (by omega)⟩
     have w2:=wS j;cases hy:(y.n==f.n)
     ·simp only[vW,seval,d2,ey,hy,clV,w2];refine zc ⟨j+1,by omega,fun i z hi hz=> ?_⟩ (by show k-(j+1)<k-j;omega) ?_
      ·by_cases hij:i=j
       ·subst hij;rw[ey]at hz;cases hz;exact hy
       ·exact hno i z (by omega) hz
      ·exact lwA
     ·have hne:(fieldAt c.fs f.n==(k:Int))=false:=by
       rw[beq_eq_false_iff_ne];intro he;have:=z78 (fun x:Fld=>x.n==f.n) c.fs k he j y hjk ey;rw[hy]at this;cases this
      rw[hne,Bool.false_and]at hT;subst hT;simp only[vW,seval,d2,ey,hy,clV]
    ·have d2:¬(j:Int)<(k:Int):=by omega
     obtain rfl:j=k:=by omega
     have he:(fieldAt c.fs f.n==(j:Int))=true:=by
      rw[beq_iff_eq];exact z7E (fun x:Fld=>x.n==f.n) c.fs j f ef (by simp) (fun i y hi hy=>hno i y hi hy)
     rw[he,Bool.true_and]at hT;simp only[vW,seval,d2,w1];refine zc ⟨j+1,hlt,hT⟩ (by show c.fs.length-(j+1)<c.fs.length-j;omega) ?_;exact lwA
   ·rw[e2]at hT;simp only[Bool.false_and]at hT;subst hT;have e4:(3:Int)<f.t.k:=by omega
    simp only[vW,seval,e1,e4]
  ·have d1:¬(k:Int)<(c.fs.length:Int):=by omega
   have hdr:c.fs.drop k=[]:=List.drop_eq_nil_of_le (by omega);rw[hdr]at hT;simp only[vW,seval,d1,clV];rw[←hT];rfl
 ·rw[decide_eq_false h8]at hR;subst hR;have d8:(8:Int)<(c.fs.length:Int):=by omega
  simp only[vW,seval,d8,clV]
end Go.Proofs.YtpmlapgbmgbilaaGreatDoor
end

section
namespace Go.Mor
open Go
def zR(r:Ty×Bool):Int:=if r.2=true∧(r.1.k=1∨r.1.k=2)then r.1.k else 0
theorem zfR{r:Ty×Bool}{i:Int}(hi:i=1∨i=2):zR r=i ↔ r.2=true∧r.1.k=i:=by
 grind [zR]
def z0v(t:V→Ty×Bool)(l:List V)(F:List Ty→Ty×Bool):Ty×Bool:=match z17 t l with
 |none=>(ty0,false)
 |some ps=>F ps
theorem zki(fs:List Fld)(d:Nat)(e:V):zm fs (d+1) e=z0v (zm fs d) e.l (z2Y fs e):=rfl
theorem z8b(t:V→Ty×Bool)(k:Int):∀(l:List V) (ks:List Int),l.length=ks.length→(∀i∈ks,i=1∨i=2)→
  ((z0v t l (zG k ks)).2=true ↔ ∀(j:Nat) y i,l[j]?=some y→ks[j]?=some i→zR (t y)=i)∧((z0v t l (zG k ks)).2=true→(z0v t l (zG k ks)).1=⟨k,0⟩):=by
 intro l ks hl hk;have key:∀(l:List V) (ks:List Int),l.length=ks.length→(∀i∈ks,i=1∨i=2)→((∃ps,z17 t l=some ps∧z2h ps ks=true) ↔ ∀(j:Nat) y i,l[j]?=some y→ks[j]?=some i→zR (t y)=i):=by
  intro l
  induction l with
  |nil=>
   intro ks h _;refine⟨fun _ j y i hj=>by simp at hj,fun _=>⟨[],rfl,by cases ks<;>rfl⟩⟩
  |cons x l ih=>
   intro ks h hk;cases ks with
   |nil=>simp at h
   |cons i ks=>
    have ih:=ih ks (by grind) (fun j hj=>hk j (List.mem_cons_of_mem _ hj));have hi:=hk i (List.mem_cons_self ..);constructor
    ·rintro⟨ps,h1,h2⟩ j y i' hj hi';rw[z17]at h1;split at h1
     ·rename_i hx;obtain⟨qs,h3,rfl⟩:=gO h1;simp only[z2h,Bool.and_eq_true,beq_iff_eq]at h2;cases j with
      |zero=>
       simp at hj hi';subst hj;subst hi';exact(zfR hi).2 ⟨hx,h2.1⟩
      |succ j=>grind
     ·cases h1
    ·intro hq;have h0:=(zfR hi).1 (hq 0 x i rfl rfl);obtain⟨qs,h3,h4⟩:=ih.2 fun j y i' hj hi'=>hq (j+1) y i' (by grind) (by grind);refine⟨(t x).1::qs,by rw[z17,if_pos h0.1,h3];rfl,?_⟩;simp only[z2h,Bool.and_eq_true,beq_iff_eq]
     grind
 have:=key l ks hl hk;rw[←this];unfold z0v;cases h:z17 t l with
 |none=>simp
 |some ps=>
  grind [zG,z2h]
theorem zku(t:V→Ty×Bool)(a b:V)(hz:∀y∈[a,b],(t y).2=true→((t y).1.k=1∨(t y).1.k=2)→(t y).1.o=0)(F:List Ty→Ty×Bool)(hF:∀p q,F [p,q]=(⟨1,0⟩,z1S p q)):
  ((z0v t [a,b] F).2=true ↔ 0<zR (t a)∧zR (t a)=zR (t b))∧((z0v t [a,b] F).2=true→(z0v t [a,b] F).1=⟨1,0⟩):=by
 unfold z0v;simp only[z17]
 grind [zR,z1S,z0g]
theorem zeS(t:V→Ty×Bool)(a b d:V)(hz:∀y∈[a,b,d],(t y).2=true→((t y).1.k=1∨(t y).1.k=2)→(t y).1.o=0):
  ((z0v t [a,b,d] z2m).2=true ↔ zR (t a)=1∧0<zR (t b)∧zR (t b)=zR (t d))∧((z0v t [a,b,d] z2m).2=true→(z0v t [a,b,d] z2m).1=⟨zR (t b),0⟩):=by
 unfold z0v;have hb:=hz b (by simp);have hd:=hz d (by simp);simp only[z17];unfold zR;generalize t a=p at*;generalize t b=q at*;generalize t d=r at*;obtain⟨⟨k,o⟩,x⟩:=p;obtain⟨⟨k',o'⟩,x'⟩:=q;obtain⟨⟨k2,o2⟩,x2⟩:=r;cases x<;>cases x'<;>cases x2<;>simp[z2m,z1S,z0g]at*<;>(try omega)
 grind
theorem zmz{fs:List Fld}(hfs:∀f∈fs,zi f.t=true){d:Nat}{e:V}{t:Ty}(he:okE d e=true)(ht:zm fs d e=(t,true)):zi t=true:=by
 have h:z5Z fs (fs.map fun f=>z41 f.t):=⟨hfs,by simp,fun i f v hf hv=>by
  rw[List.getElem?_map,hf]at hv;cases hv;exact z6s _ (hfs f (gM hf))⟩
 have:=z5I h d e t he ht;unfold zJ at this;simp at this;exact this.1.1.2
theorem zoP{fs:List Fld}(hfs:∀f∈fs,zi f.t=true){d:Nat}{e:V}(he:okE d e=true)(h:(zm fs d e).2=true)(hk:(zm fs d e).1.k=1∨(zm fs d e).1.k=2):(zm fs d e).1.o=0:=by
 have:=zmz hfs he (t:=(zm fs d e).1) (by rw[←h])
 grind [zi]
end Go.Mor
end

section
namespace Go.Proofs.YtpmlapgbmgbilaaGreatDoor
open Go Go.RowKit Go.Mor Go.Sh Go.Sh.Cd1 Go.Sh.Cd7
theorem zoh(g:Sh.Glob)(c:Cls)(e:V)(r:Ty×Bool)(t:Ty)(HK:zC g 111 [tv e,clT c] [] (.tuple [tyT t,B r.2]) [])(ht:r.2=true→t=r.1):zC g 152 [tv e,clT c] [] (I (zR r)) []:=by
 obtain⟨⟨k,o⟩,b⟩:=r;unfold clT tyT B at*;cases b with
 |false=>
  rw[show zR (⟨k,o⟩,false)=0 by unfold zR;simp];refine z0u tf_157 ?_;exact zf HK
 |true=>
  obtain rfl:=ht rfl;refine za tf_157 ?_;by_cases h1:k=1
  ·rw[show zR (⟨k,o⟩,true)=k by unfold zR;simp[h1]];simp only[vW,seval];refine z7 HK ?_;simp only[vW,seval,h1]
  by_cases h2:k=2
  ·rw[show zR (⟨k,o⟩,true)=k by unfold zR;simp[h2]];simp only[vW,seval];refine z7 HK ?_;simp only[vW,seval,h1,h2]
  rw[show zR (⟨k,o⟩,true)=0 by unfold zR;simp[h1,h2]];simp only[vW,seval];refine z7 HK ?_;simp only[vW,seval,h1,h2]
def z2I(s:zB):zB:=if s=z4J∨s=z4K then [116] else if s=z1B∨s=z11∨s=z1A then [116,110] else if s=z3f then [116,116] else if s=z1P then [110] else if s=z50∨s=z5D then [110,110] else []
theorem zoT(g:Sh.Glob)(s:zB):zC g 182 [S (str s)] [] (S (str (z2I s))) []:=by
 refine za tf_158 ?_;have q0:=bS [108,101,110];have q1:=bS [116,101,120,116];have q2:=bS [110,117,109];have q3:=bS [108,101,102,116];have q4:=bS [114,105,103,104,116];have q5:=bS [102,114,111,109];have q6:=bS [102,105,110,100];have q7:=bS [109,105,110];have q8:=bS [109,97,120];have q9:=bS [116];have q10:=bS [116,110];have q11:=bS [116,116];have q12:=bS [110];have q13:=bS [110,110];have q14:=bS [];have hb:∀t:zB,(s==t)=decide (s=t):=fun t=>by rw[Bool.eq_iff_iff];simp
 unfold z2I z4J z1P z4K z1B z11 z1A z3f z50 z5D;simp only[vW,seval,q0,q1,q2,q3,q4,q5,q6,q7,q8,q9,q10,q11,q12,q13,q14,hb]
 repeat' (first|(apply And.intro)|(intro _))
 all_goals simp_all
def z3R(w:zB):List Int:=w.map fun b=>if b=110 then 1 else 2
def z4G(s:zB):Int:=if s=z1B∨s=z11∨s=z1A∨s=z1P then 2 else 1
theorem ziC{s:zB}(h:0<zt s)(hi:s≠nIf):z7w s=zG (z4G s) (z3R (z2I s))∧((z2I s).length:Int)=zt s∧(∀b∈z2I s,b=110∨b=116)∧0<(z2I s).length:=by
 rcases z3V h with rfl|rfl|rfl|rfl|rfl|rfl|rfl|rfl|rfl|rfl
 all_goals first|exact absurd rfl hi|exact⟨by funext ps;simp[z7w,z2I,z4G,z3R,z4J,z1P,z4K,z1B,z11,z1A,z3f,z50,z5D,nIf],by decide,by decide,by decide⟩
def zeB(g:Sh.Glob)(c:Cls)(e:V)(R:Ty×Bool):Prop:=∃t,zC g 153 [tv e,clT c] [] (.tuple [tyT t,B R.2]) []∧(R.2=true→t=R.1)
theorem zg2(g:Sh.Glob)(c:Cls)(n:Int)(a b d:V)(T:V→Ty×Bool)(hz:∀y∈[a,b,d],(T y).2=true→((T y).1.k=1∨(T y).1.k=2)→(T y).1.o=0)
  (HP:∀y∈[a,b,d],zC g 152 [tv y,clT c] [] (I (zR (T y))) []):zeB g c (.mk 6 n nIf [a,b,d]) (z0v T [a,b,d] z2m):=by
 obtain⟨h1,h2⟩:=zeS T a b d hz;have HA:=HP a (by simp);have HB:=HP b (by simp);have HD:=HP d (by simp);refine⟨⟨zR (T b),0⟩,?_,fun h=>(h2 h).symm⟩;have hR:(z0v T [a,b,d] z2m).2=(decide (zR (T a)=1)&&(decide (0<zR (T b))&&decide (zR (T b)=zR (T d)))):=by rw[Bool.eq_iff_iff,h1];simp
 rw[hR];generalize zR (T a)=pa at*;generalize zR (T b)=pb at*;generalize zR (T d)=pd at*;have qi:(⟨#[105,102]⟩:ByteArray)=str nIf:=rfl;unfold clT tyT B at*;refine za tf_155 ?_;by_cases x1:pa=1<;>by_cases x2:0<pb<;>by_cases x3:pb=pd
 all_goals(
  simp only[vW,seval,qi];refine z8 HA ?_;refine z8 HB ?_;refine z7 HD ?_;simp only[vW,seval,x1,x2,x3];try(repeat' (first|(apply And.intro)|(intro _)))
  all_goals simp_all)
theorem zh7(g:Sh.Glob)(c:Cls)(e:V)(hs:0<zt e.s)(hi:e.s≠nIf)(hl:(e.l.length:Int)=zt e.s)(T:V→Ty×Bool)
  (HP:∀y∈e.l,zC g 152 [tv y,clT c] [] (I (zR (T y))) []):zeB g c e (z0v T e.l (z7w e.s)):=by
 obtain⟨k,n,s,l⟩:=e;simp only[Vs,Vl]at*;obtain⟨hk,hw,hb,hp⟩:=ziC hs hi;have ht3:=z7l s;rw[hk];have hlen:l.length=(z3R (z2I s)).length:=by unfold z3R;rw[List.length_map];omega
 have hks:∀i∈z3R (z2I s),i=1∨i=2:=fun i hi=>by
  unfold z3R at hi;obtain⟨b,_,rfl⟩:=List.mem_map.1 hi;split<;>omega
 obtain⟨h1,h2⟩:=z8b T (z4G s) l (z3R (z2I s)) hlen hks;generalize z0v T l (zG (z4G s) (z3R (z2I s)))=R at*;have HW:=zoT g s;have hif:(s==nIf)=false:=by simpa using hi
 have qi:(⟨#[105,102]⟩:ByteArray)=str nIf:=rfl;have e0:=bS [];have hgood:∀(j:Nat) b,(z2I s)[j]?=some b→(z3R (z2I s))[j]?=some (if b=110 then 1 else 2):=fun j b hj=>by unfold z3R;rw[List.getElem?_map,hj];rfl
 have hko:z4G s=if s=z1B∨s=z11∨s=z1A∨s=z1P then 2 else 1:=rfl
 have hw0:(z2I s==[])=false:=by
  cases h:z2I s with
  |nil=>rw[h]at hp;simp at hp
  |cons b r=>rfl
 generalize z2I s=w at*;refine⟨if R.2=true then⟨z4G s,0⟩ else⟨0,0⟩,?_,fun h=>by rw[if_pos h,h2 h]⟩;have d9:¬(w.length:Int)=0:=by omega
 have dl:(w.length:Int)=(l.length:Int):=by omega
 unfold clT tyT B at*;refine za tf_155 ?_;simp only[vW,seval,qi,hif];refine z7 HW ?_;simp only[vW,seval,e0,hw0,dl];refine zk (σ:={i:Nat // i≤w.length∧∀(j:Nat) y b,j<i→l[j]?=some y→w[j]?=some b→zR (T y)=(if b=110 then 1 else 2)}) (fun i=>⟨[(2,.ptr 2 0),(3,.ptr 3 0),(4,.ptr 4 0),(9,S (str w)),(10,I (i.1:Int))],[(2,[I k,I n,S (str s),.pv (.sl 4 (V.rows l))]),(3,[S (str c.n),.pv (.sl 4 (flR c.fs))]),(4,[I 0,I 0])],[],[]⟩) (fun i=>w.length-i.1) ⟨0,Nat.zero_le _,fun j y b hj=>by omega⟩ ?_ ?_
 ·exact lwA
 rintro⟨i,hi,hno⟩;by_cases hlt:i<w.length
 ·have d1:(i:Int)<(w.length:Int):=by omega
  obtain⟨b,eb⟩:∃b,w[i]?=some b:=⟨_,gE hlt⟩
  obtain⟨y,ey⟩:∃y,l[i]?=some y:=⟨_,gE (by omega)⟩
  have HY:=HP y (gM ey);have w1:=wS i;by_cases hm:zR (T y)=(if b=110 then 1 else 2)
  ·have hno2:∀(j:Nat) y b,j<i+1→l[j]?=some y→w[j]?=some b→zR (T y)=(if b=110 then 1 else 2):=fun j z b' hj hz hb'=>by
    by_cases hji:j=i
    ·subst hji;rw[ey]at hz;rw[eb]at hb';cases hz;cases hb';exact hm
    ·exact hno j z b' (by omega) hz hb'
   rcases hb b (gM eb)with rfl|rfl
   ·rw[if_pos rfl]at hm;rw[hm]at HY;simp only[vW,seval,d1,ey];refine z7 HY ?_;simp only[vW,seval,eb,w1];refine zc ⟨i+1,hlt,hno2⟩ (by show w.length-(i+1)<w.length-i;omega) ?_;exact lwA
   ·rw[if_neg (by decide)]at hm;rw[hm]at HY;simp only[vW,seval,d1,ey];refine z7 HY ?_;simp only[vW,seval,eb,w1];refine zc ⟨i+1,hlt,hno2⟩ (by show w.length-(i+1)<w.length-i;omega) ?_;exact lwA
  ·have hf:R.2=false:=by
    cases hR:R.2 with
    |false=>rfl
    |true=>exact absurd (h1.1 hR i y _ ey (hgood i b eb)) hm
   rw[hf];rw[if_neg (by simp)];rcases hb b (gM eb)with rfl|rfl
   ·rw[if_pos rfl]at hm;simp only[vW,seval,d1,ey];refine z7 HY ?_;simp only[vW,seval,eb,w1,hm]
   ·rw[if_neg (by decide)]at hm;simp only[vW,seval,d1,ey];refine z7 HY ?_;simp only[vW,seval,eb,w1,hm]
 ·have d1:¬(i:Int)<(w.length:Int):=by omega
  have ht:R.2=true:=h1.2 fun j y i' hj hi'=>by
   have hjl:j<w.length:=by have:=(gJ hj).1;omega
   have hb':=gE hjl;rw[hgood j _ hb']at hi';cases hi';exact hno j y _ (by omega) hj hb'
  rw[ht];rw[if_pos rfl];have q1:(⟨#[108,101,102,116]⟩:ByteArray)=str z1B:=rfl;have q2:(⟨#[114,105,103,104,116]⟩:ByteArray)=str z11:=rfl;have q3:(⟨#[102,114,111,109]⟩:ByteArray)=str z1A:=rfl;have q4:(⟨#[116,101,120,116]⟩:ByteArray)=str z1P:=rfl;by_cases s1:s=z1B
  ·have b1:(s==z1B)=true:=by simpa using s1
   rw[show z4G s=2 by rw[hko,if_pos (.inl s1)]];simp only[vW,seval,d1,q1,q2,q3,q4,b1]
  have b1:(s==z1B)=false:=by simpa using s1
  by_cases s2:s=z11
  ·have b2:(s==z11)=true:=by simpa using s2
   rw[show z4G s=2 by rw[hko,if_pos (.inr (.inl s2))]];simp only[vW,seval,d1,q1,q2,q3,q4,b1,b2]
  have b2:(s==z11)=false:=by simpa using s2
  by_cases s3:s=z1A
  ·have b3:(s==z1A)=true:=by simpa using s3
   rw[show z4G s=2 by rw[hko,if_pos (.inr (.inr (.inl s3)))]];simp only[vW,seval,d1,q1,q2,q3,q4,b1,b2,b3]
  have b3:(s==z1A)=false:=by simpa using s3
  by_cases s4:s=z1P
  ·have b4:(s==z1P)=true:=by simpa using s4
   rw[show z4G s=2 by rw[hko,if_pos (.inr (.inr (.inr s4)))]];simp only[vW,seval,d1,q1,q2,q3,q4,b1,b2,b3,b4]
  have b4:(s==z1P)=false:=by simpa using s4
  rw[show z4G s=1 by rw[hko,if_neg (by simp[s1,s2,s3,s4])]];simp only[vW,seval,d1,q1,q2,q3,q4,b1,b2,b3,b4]
theorem zgH{s:zB}(h:0<zM s):s=[38]∨(s=[43]∨s=[45]∨s=[42]∨s=[47]∨s=[37])∨(s=[61]∨s=[60,62]∨s=[60]∨s=[60,61]∨s=[62]∨s=[62,61]):=by
 unfold zM at h
 repeat' (split at h)
 all_goals first|(simp_all;done)|(rename_i h1;rcases h1 with h1|h1|h1|h1|h1|h1<;>simp[h1];done)|(rename_i h1;rcases h1 with h1|h1|h1<;>simp[h1];done)|(rename_i h1;rcases h1 with h1|h1<;>simp[h1];done)|omega
theorem zie{T:V→Int}{x y:V}{i:Int}:(∀(j:Nat) z k,[x,y][j]?=some z→[i,i][j]?=some k→T z=k) ↔ T x=i∧T y=i:=by
 refine⟨fun h=>⟨h 0 x i rfl rfl,h 1 y i rfl rfl⟩,fun h j z k hz hk=> ?_⟩
 match j with
 |0=>cases hz;cases hk;exact h.1
 |1=>cases hz;cases hk;exact h.2
 |j+2=>simp at hz
theorem sgB:((([61]:zB)==[38])=false)∧((([61]:zB)==[61])=true)∧((([60,62]:zB)==[38])=false)∧((([60,62]:zB)==[61])=false)∧((([60,62]:zB)==[60,62])=true)∧((([60]:zB)==[38])=false)∧((([60]:zB)==[61])=false)∧((([60]:zB)==[60,62])=false)∧((([60]:zB)==[60])=true)∧((([60,61]:zB)==[38])=false)∧((([60,61]:zB)==[61])=false)∧((([60,61]:zB)==[60,62])=false)∧((([60,61]:zB)==[60])=false)∧((([60,61]:zB)==[60,61])=true)∧((([62]:zB)==[38])=false)∧((([62]:zB)==[61])=false)∧((([62]:zB)==[60,62])=false)∧((([62]:zB)==[60])=false)∧((([62]:zB)==[60,61])=false)∧((([62]:zB)==[62])=true)∧((([62,61]:zB)==[38])=false)∧((([62,61]:zB)==[61])=false)∧((([62,61]:zB)==[60,62])=false)∧((([62,61]:zB)==[60])=false)∧((([62,61]:zB)==[60,61])=false)∧((([62,61]:zB)==[62])=false)∧((([62,61]:zB)==[62,61])=true):=by decide
def zbl(g:Sh.Glob)(c:Cls)(d:Nat)(e:V):Prop:=∃t,zC g 111 [tv e,clT c] [] (.tuple [tyT t,B (zm c.fs d e).2]) []∧((zm c.fs d e).2=true→t=(zm c.fs d e).1)
theorem zjb(g:Sh.Glob)(c:Cls)(hc:c.fs.length≤4611686018427387904)(hr:∀f∈c.fs,zi f.t=true)(d:Nat)(IH:∀e,okE d e=true→zbl g c d e):∀e,okE (d+1) e=true→zbl g c (d+1) e:=by
  intro e he
  obtain⟨hn,hk⟩:=z9R he
  have HP:∀y∈e.l,zC g 152 [tv y,clT c] [] (I (zR (zm c.fs d y))) []:=fun y hy=>by
    obtain⟨t,h1,h2⟩:=IH y (hk y hy)
    exact zoh g c y _ t h1 h2
  have hz:∀y∈e.l,(zm c.fs d y).2=true→((zm c.fs d y).1.k=1∨(zm c.fs d y).1.k=2)→(zm c.fs d y).1.o=0:=fun y hy=>zoP hr (hk y hy)
  unfold zbl
  rw[zki]
  obtain⟨k,n,s,l⟩:=e
  simp only[Vk,Vn,Vs,Vl]at*
  rcases z4p hn with rfl|rfl|rfl|rfl|rfl|rfl
  · obtain⟨_,_,hs,hl⟩:=zjm hn rfl
    simp only[Vs,Vl]at hs hl
    subst hs;subst hl
    refine⟨⟨1,0⟩,?_,fun _=>rfl⟩
    rw[show(z0v (zm c.fs d) [] (z2Y c.fs (.mk 1 n [] []))).2=true from rfl]
    unfold clT tyT B
    refine za tf_156 ?_
    simp only[vW,seval]
  · obtain⟨_,_,hl⟩:=zbQ hn rfl
    simp only[Vl]at hl
    subst hl
    refine⟨⟨2,0⟩,?_,fun _=>rfl⟩
    rw[show(z0v (zm c.fs d) [] (z2Y c.fs (.mk 2 n s []))).2=true from rfl]
    unfold clT tyT B
    refine za tf_156 ?_
    simp only[vW,seval]
  · obtain⟨_,_,hl⟩:=zjn hn rfl
    simp only[Vl]at hl
    subst hl
    have HA:=z3U g c s hc
    have hR:z0v (zm c.fs d) [] (z2Y c.fs (.mk 3 n s []))=if fieldAt c.fs s<0 then(ty0,false)else((c.fs.getD (fieldAt c.fs s).toNat ⟨[],ty0,false⟩).t,true):=rfl
    rw[hR]
    unfold z29 at HA
    by_cases hf:fieldAt c.fs s<0
    · rw[if_pos hf]at HA ⊢
      refine⟨⟨0,0⟩,?_,fun h=>by cases h⟩
      unfold clT tyT B at*
      refine z0u tf_156 ?_
      exact zf HA
    · rw[if_neg hf]at HA ⊢
      obtain⟨q,hq⟩:∃q:Nat,fieldAt c.fs s=q:=⟨(fieldAt c.fs s).toNat,by omega⟩
      obtain⟨f,hf1,_⟩:=z2W _ _ q hq
      rw[hq]at HA
      refine⟨f.t,?_,fun _=>by rw[hq,Int.toNat_natCast,z7a hf1]⟩
      unfold clT tyT B at*
      refine z0u tf_156 ?_
      refine z7 HA ?_
      simp only[vW,seval,clV,hf1]
  · obtain⟨_,hb,x,y,hl⟩:=z9M hn rfl
    simp only[Vs,Vl]at hb hl
    subst hl
    have HX:=HP x (by simp)
    have HY:=HP y (by simp)
    have q0:=bS [38]
    have q1:=bS [61]
    have q2:=bS [60,62]
    have q3:=bS [60]
    have q4:=bS [60,61]
    have q5:=bS [62]
    have q6:=bS [62,61]
    rcases zgH hb with hs|hs|hs
    · obtain⟨h1,h2⟩:=z8b (zm c.fs d) 2 [x,y] [2,2] rfl (by simp)
      rw[show z0v (zm c.fs d) [x,y] (z2Y c.fs (.mk 4 n s [x,y]))=z0v (zm c.fs d) [x,y] (zG 2 [2,2]) by subst hs;rfl]
      refine⟨⟨2,0⟩,?_,fun h=>(h2 h).symm⟩
      have hR:(z0v (zm c.fs d) [x,y] (zG 2 [2,2])).2=(decide (zR (zm c.fs d x)=2)&&decide (zR (zm c.fs d y)=2)):=by
        rw[Bool.eq_iff_iff,h1]
        simp only[Bool.and_eq_true,decide_eq_true_eq]
        exact zie (T:=fun z=>zR (zm c.fs d z))
      rw[hR]
      generalize zR (zm c.fs d x)=px at*
      generalize zR (zm c.fs d y)=py at*
      subst hs
      unfold clT tyT B at*
      refine z0u tf_156 ?_
      refine z8 HX ?_
      refine z7 HY ?_
      simp only[vW,seval,q0,q1,q2,q3,q4,q5,q6]
      try(repeat' (first|(apply And.intro)|(intro _)))
      all_goals simp_all
    · obtain⟨h1,h2⟩:=z8b (zm c.fs d) 1 [x,y] [1,1] rfl (by simp)
      rw[show z0v (zm c.fs d) [x,y] (z2Y c.fs (.mk 4 n s [x,y]))=z0v (zm c.fs d) [x,y] (zG 1 [1,1]) by rcases hs with rfl|rfl|rfl|rfl|rfl<;>rfl]
      refine⟨⟨1,0⟩,?_,fun h=>(h2 h).symm⟩
      have hR:(z0v (zm c.fs d) [x,y] (zG 1 [1,1])).2=(decide (zR (zm c.fs d x)=1)&&decide (zR (zm c.fs d y)=1)):=by
        rw[Bool.eq_iff_iff,h1]
        simp only[Bool.and_eq_true,decide_eq_true_eq]
        exact zie (T:=fun z=>zR (zm c.fs d z))
      rw[hR]
      generalize zR (zm c.fs d x)=px at*
      generalize zR (zm c.fs d y)=py at*
      unfold clT tyT B at*
      refine za tf_156 ?_
      rcases hs with rfl|rfl|rfl|rfl|rfl
      all_goals(
        simp only[vW,seval]
        refine z8 HX ?_
        refine z7 HY ?_
        simp only[vW,seval,q0,q1,q2,q3,q4,q5,q6]
        try(repeat' (first|(apply And.intro)|(intro _)))
        all_goals simp_all)
    · obtain⟨h1,h2⟩:=zku (zm c.fs d) x y hz (z2Y c.fs (.mk 4 n s [x,y])) (fun p q=>by rcases hs with rfl|rfl|rfl|rfl|rfl|rfl<;>rfl)
      refine⟨⟨1,0⟩,?_,fun h=>(h2 h).symm⟩
      have hR:(z0v (zm c.fs d) [x,y] (z2Y c.fs (.mk 4 n s [x,y]))).2=(decide (0<zR (zm c.fs d x))&&decide (zR (zm c.fs d x)=zR (zm c.fs d y))):=by rw[Bool.eq_iff_iff,h1];simp
      rw[hR]
      generalize zR (zm c.fs d x)=px at*
      generalize zR (zm c.fs d y)=py at*
      unfold clT tyT B at*
      refine za tf_156 ?_
      by_cases a1:0<px
      · by_cases a2:px=py
        · subst a2
          rcases hs with rfl|rfl|rfl|rfl|rfl|rfl
          all_goals(
            simp only[vW,seval]
            refine z8 HX ?_
            refine z7 HY ?_
            simp only[vW,seval,q0,q1,q2,q3,q4,q5,q6,a1,sgB]
            try rfl)
        · rcases hs with rfl|rfl|rfl|rfl|rfl|rfl
          all_goals(
            simp only[vW,seval]
            refine z8 HX ?_
            refine z7 HY ?_
            simp only[vW,seval,q0,q1,q2,q3,q4,q5,q6,a1,a2,sgB]
            try rfl)
      · rcases hs with rfl|rfl|rfl|rfl|rfl|rfl
        all_goals(
          simp only[vW,seval]
          refine z8 HX ?_
          refine z7 HY ?_
          simp only[vW,seval,q0,q1,q2,q3,q4,q5,q6,a1,sgB]
          try rfl)
  · obtain⟨_,hs,x,hl⟩:=zbR hn rfl
    simp only[Vs,Vl]at hs hl
    subst hs;subst hl
    have HX:=HP x (by simp)
    obtain⟨h1,h2⟩:=z8b (zm c.fs d) 1 [x] [1] rfl (by simp)
    refine⟨⟨1,0⟩,?_,fun h=>(h2 h).symm⟩
    have hR:(z0v (zm c.fs d) [x] (z2Y c.fs (.mk 5 n [45] [x]))).2=decide (zR (zm c.fs d x)=1):=by
      rw[Bool.eq_iff_iff,decide_eq_true_eq]
      refine Iff.trans h1 ⟨fun h=>h 0 x 1 rfl rfl,fun h j z i hz hi=> ?_⟩
      cases j with
      |zero=>cases hz;cases hi;exact h
      |succ j=>simp at hz
    rw[hR]
    generalize zR (zm c.fs d x)=px at*
    unfold clT tyT B at*
    refine z0u tf_156 ?_
    exact zf HX
  · obtain⟨_,hs,hl⟩:=z9N hn rfl
    simp only[Vs,Vl]at hs hl
    have HC:zeB g c (.mk 6 n s l) (z0v (zm c.fs d) l (z7w s)):=by
      by_cases hi:s=nIf
      · subst hi
        have h3 : l.length = 3 := by have : zt nIf = 3 := by decide
                                     omega
        obtain⟨a,b,e,rfl⟩:∃a b e,l=[a,b,e]:=by
          match l,h3 with
          |[a,b,e],_=>exact⟨a,b,e,rfl⟩
        exact zg2 g c n a b e (zm c.fs d) hz HP
      · exact zh7 g c (.mk 6 n s l) hs hi hl (zm c.fs d) HP
    obtain⟨t,h1,h2⟩:=HC
    refine⟨t,?_,h2⟩
    rw[show(z0v (zm c.fs d) l (z2Y c.fs (.mk 6 n s l)))=z0v (zm c.fs d) l (z7w s) from rfl]
    generalize z0v (zm c.fs d) l (z7w s)=R at*
    unfold clT tyT B at*
    refine z0u tf_156 ?_
    exact zf h1
theorem zft(g:Sh.Glob)(c:Cls)(hc:c.fs.length≤4611686018427387904)(hr:∀f∈c.fs,zi f.t=true):∀(d:Nat) (e:V),okE d e=true→zbl g c d e
 |0,e,h=>by simp[okE]at h
 |d+1,e,h=>zjb g c hc hr d (zft g c hc hr d) e h
theorem zav(g:Sh.Glob)(c:Cls)(e:V)(hc:ClsOk c)(he:ESmall e):zC g 88 [tv e,clT c] [] (.tuple [tyT (z2H c e).1,I (z2H c e).2]) []:=by
 have HE:=z96 g e he;have HC:=z6e g c hc;obtain⟨R,hR⟩:∃R,z2H c e=R:=⟨_,rfl⟩
 rw[hR];unfold z2H at hR;refine za tf_154 ?_;unfold clT tyT B at*;cases h1:z15 e
 ·rw[h1]at hR HE;simp only[Bool.false_eq_true,if_false]at hR;subst hR;simp only[vW,seval];refine z8 HE ?_;rfl
 rw[h1]at hR HE;cases h2:zd c
 ·rw[h2]at hR HC;simp only[Bool.false_eq_true,if_false,if_true]at hR;subst hR;simp only[vW,seval];refine z8 HE ?_;refine z8 HC ?_;rfl
 rw[h2]at hR HC;have hr:=(z0X c).1 h2;have hd:okE 8 e=true:=by unfold z15 at h1;simp only[Bool.and_eq_true]at h1;exact h1.1
 obtain⟨t,HK,ht⟩:=zft g c hc.len (fun f hf=>by have:=hr.2.2.1 f hf;unfold zD at this;simp only[Bool.and_eq_true]at this;exact this.1.2) 8 e hd;unfold clT tyT B at HK;simp only[if_true]at hR;cases h3:(zm c.fs 8 e).2
 ·rw[h3]at hR HK;simp only[Bool.false_eq_true,if_false]at hR;subst hR;simp only[vW,seval];refine z8 HE ?_;refine z8 HC ?_;refine z8 HK ?_;rfl
 ·rw[h3]at hR HK;simp only[if_true]at hR;obtain rfl:=ht h3;subst hR;simp only[vW,seval];refine z8 HE ?_;refine z8 HC ?_;exact zf HK
theorem zq6:∀(f:Nat) (l:zB) (a:Nat) (acc L:List Pc),(∀q∈acc,PcOk q)→z10 f l a acc=some (.ok L)→∀q∈L,PcOk q:=by
 intro f
 induction f with
 |zero=>intro l a acc L _ h;cases h
 |succ f ih=>
  intro l a acc L ha h;cases l with
  |nil=>rw[z10]at h;cases h;exact ha
  |cons b r=>
   rw[z10]at h;split at h
   ·exact ih _ _ _ _ ha h
   ·split at h
    ·cases h
    ·rename_i q z hr;refine ih _ _ _ _ (fun y hy=> ?_) h;rcases List.mem_append.1 hy with hy|hy
     ·exact ha y hy
     ·obtain rfl:=List.mem_singleton.1 hy;exact zg0 hr
theorem zas(g:Sh.Glob)(s:zB){f:Nat}{r:V×Int×Int}(h:z2P f s=some r):
  (r.2.2=0→zC g 87 [S (str s)] [] (.tuple [tv r.1,I 0,I 0]) [])∧(r.2.2≠0→∃a c,c≠0∧zC g 87 [S (str s)] [] (z6S a c) []):=by
 unfold z2P at h;by_cases hl:200<s.length
 ·rw[if_pos hl]at h;cases h;refine⟨fun h=>by simp at h,fun _=>⟨200,50,by decide,?_⟩⟩;have d1:(200:Int)<(s.length:Int):=by omega
  have e0:=bS [];refine za tf_146 ?_;unfold z6S zH;simp only[vW,seval,d1]
 rw[if_neg hl]at h;cases hX:z10 (s.length+1) s 0 []with
 |none=>rw[hX]at h;cases h
 |some X=>
  rw[hX]at h;cases X with
  |bad a=>
   cases h;exact⟨fun h=>by simp at h,fun _=>⟨a,50,by decide,z6d g s (by omega) _ _ hX _ (fun a' h'=>by cases h';rfl) (fun L h'=>by cases h')⟩⟩
  |ok L=>
   dsimp only at h
   have hL:=zq6 _ _ _ _ _ (by simp) hX;have hsm:=(z6W (z3F _ _ _ _ _ (by simp) hX).1 s.length f).1;cases hp:pE L s.length f 1 0 with
   |none=>rw[hp]at h;cases h
   |some rs=>
    rw[hp]at h;have hag:=(zkr (sz:=s.length) hL f).1 1 0 rs hp;cases rs with
    |bad a p=>
     cases h;obtain⟨e,q,b,hb,hm⟩:=hag;refine⟨fun h=>by simp at h,fun _=>⟨b,50,by decide,z6d g s (by omega) _ _ hX _ (fun a' h'=>by cases h') (fun L' h'=> ?_)⟩⟩;cases h';exact⟨e,q,b,f+3,hm,fun h=>by omega,by unfold zf4;rw[if_pos hb]⟩
    |ok e p=>
     have hm:mE L s.length (f+3) 1 0 (-1)=some (e,p, -1):=hag;have he:=hsm _ _ _ _ hp
     dsimp only at h
     have run:zC g 87 [S (str s)] [] (zf4 L s.length e p (-1)) []:=z6d g s (by omega) _ _ hX _ (fun a' h'=>by cases h') (fun L' h'=>by
      cases h';exact⟨e,p, -1,f+3,hm,fun _=>he,rfl⟩)
     unfold zf4 at run;rw[if_neg (by omega)]at run;by_cases hlt:p<L.length
     ·rw[if_pos hlt]at h run;cases h;exact⟨fun h=>by simp at h,fun _=>⟨_,50,by decide,run⟩⟩
     ·rw[if_neg hlt]at h run;by_cases hr:z15 e=true
      ·rw[if_pos hr]at h run;cases h;exact⟨fun _=>run,fun h=>absurd rfl h⟩
      ·rw[if_neg hr]at h run;cases h;exact⟨fun h=>by simp at h,fun _=>⟨0,51,by decide,run⟩⟩
def RTx(s:zB):Prop:=(∃r,z2P 1000 s=some r)∧(s≠[]→ESmall (rdV s).1)
theorem z94(g:Sh.Glob)(s:zB)(h:RTx s):zC g 86 [S (str s)] [] (B (s==[]||decide ((rdV s).2.2=0))) []:=by
 obtain⟨⟨r,hr⟩,_⟩:=h;have hrd:rdV s=r:=by unfold rdV;rw[hr];rfl
 rw[hrd];obtain⟨h1,h2⟩:=zas g s hr;have e0:=bS [];refine za tf_164 ?_;unfold B;by_cases hz:r.2.2=0
 ·have HP:=h1 hz;cases hs:(s==[])
  ·simp only[vW,seval];refine z7 HP ?_;simp only[vW,seval,e0,hs,hz];try rfl
  ·simp only[vW,seval];refine z7 HP ?_;simp only[vW,seval,e0,hs,hz];try rfl
 ·obtain⟨a,c,hc,HP⟩:=h2 hz;unfold z6S zH at HP;cases hs:(s==[])
  ·simp only[vW,seval];refine z7 HP ?_;simp only[vW,seval,e0,hs,hz,hc];try rfl
  ·simp only[vW,seval];refine z7 HP ?_;simp only[vW,seval,e0,hs,hz,hc];try rfl
theorem zmA(c:Cls):z2H c V.nil=(ty0,50):=rfl
theorem zat(g:Sh.Glob)(s:zB)(c:Cls)(t:Ty)(h:RTx s)(hc:ClsOk c):zC g 59 [S (str s),clT c,tyT t] [] (B (zz c s t).is) []:=by
 obtain⟨⟨r,hr⟩,hsm⟩:=h;have hrd:rdV s=r:=by unfold rdV;rw[hr];rfl
 obtain⟨h1,h2⟩:=zas g s hr;have e0:=bS [];unfold B;by_cases hs:s=[]
 ·subst hs;refine za tf_165 ?_;unfold clT tyT;simp only[vW,seval,e0];try rfl
 have hs':(s==[])=false:=by simpa using hs
 unfold zz;rw[if_neg hs,hrd];rw[hrd]at hsm;by_cases hz:r.2.2=0
 ·rw[if_neg (by simpa using hz)];have HP:=h1 hz;have HT:=zav g c r.1 hc (hsm hs);generalize z2H c r.1=w at*;obtain⟨⟨k,o⟩,z⟩:=w;obtain⟨tk,ot⟩:=t;unfold clT tyT at*
  dsimp only at HT ⊢
  by_cases z0:z=0
  ·cases he:z0g ⟨k,o⟩ ⟨tk,ot⟩
   ·rw[if_neg (by simp)];refine za tf_165 ?_;simp only[vW,seval,e0,hs'];refine z8 HP ?_;refine z7 HT ?_;simp only[vW,seval,z0,z5d,he];try rfl
   ·rw[if_pos ⟨z0,rfl⟩];refine za tf_165 ?_;simp only[vW,seval,e0,hs'];refine z8 HP ?_;refine z7 HT ?_;simp only[vW,seval,z0,z5d,he];try rfl
  ·rw[if_neg (fun h=>z0 h.1)];refine za tf_165 ?_;simp only[vW,seval,e0,hs'];refine z8 HP ?_;refine z7 HT ?_;simp only[vW,seval,z0];try rfl
 ·rw[if_pos hz];obtain⟨a,q,hq,HP⟩:=h2 hz;have HT:=(zav g c V.nil hc z5U).inp (xs:=[nv V.nil,clT c]) rfl (fun j x y hx hy=>by
   match j with
   |0=>simp at hx hy;subst hx;subst hy;exact z4L rfl
   |1=>simp at hx hy;subst hx;subst hy;exact .refl _
   |j+2=>simp at hx)
  rw[zmA]at HT;unfold z6S zH at HP;unfold nv clT tyT at*;refine za tf_165 ?_;simp only[vW,seval,e0,hs'];refine z7 HP ?_;simp only[vW,seval,e0];refine z8 HT ?_;try trivial
end Go.Proofs.YtpmlapgbmgbilaaGreatDoor
end
