/- Merged texts: Zg1 Pe9 S26 Zg2 PrT PrE Zw1 Zy2. No statement of the program is proved here. -/
import Derived.Test.YtbkgnekfigknhaaGreatDoorR18
import Derived.Test.YtbkgnekfigknhaaGreatDoorR19
import Derived.Lib.SmallJoins
import Derived.Lib.ItoaLen
import Derived.Lib.ItoaMem
set_option linter.unusedSimpArgs false
set_option linter.unusedVariables false
set_option maxRecDepth 100000
set_option maxHeartbeats 8000000
section
namespace Go.Proofs.YtbkgnekfigknhaaGreatDoor
open Go Go.RowKit Go.Mor Go.Sh Go.Sh.Cd1 Go.Sh.Cd6
def flR1(f:Fld):List PV:=[.v (.string (str f.n)),.v (.int .i64 f.t.k),.v (.int .i64 f.t.o),.v (.bool f.ix)]
def flR(l:List Fld):List (List PV):=l.map flR1
def flT(f:Fld):TV:=.agg [S (str f.n),I f.t.k,I f.t.o,.pv (.v (.bool f.ix))]
def clT(c:Cls):TV:=.agg [S (str c.n),.pv (.sl 4 (flR c.fs))]
theorem ziL(l:List Fld)(k:Nat):(flR l)[k]?=(l[k]?).map flR1:=by unfold flR;rw[List.getElem?_map]
theorem z3f(l:List Fld):(flR l).length=l.length:=by unfold flR;rw[List.length_map]
theorem clV:(type_of% @ziL)∧(type_of% @z3f)∧(type_of% @flR1.eq_1)∧(type_of% @flT.eq_1)∧(type_of% @clT.eq_1):=⟨@ziL,@z3f,@flR1.eq_1,@flT.eq_1,@clT.eq_1⟩
def z0t(s:zB):Prop:=s.length<4611686018427387904
structure ClsOk(c:Cls):Prop where
 n:z0t c.n
 fs:∀f∈c.fs,z0t f.n
 len:c.fs.length≤4611686018427387904
theorem z8d(g:Sh.Glob)(t:Ty):zC g 128 [tyT t] [] (B (zg t)) []:=by
 refine za tf_57 ?_;obtain⟨k,o⟩:=t;unfold B;simp only[vW,seval];unfold zg
 repeat' (first|(apply And.intro)|(intro _))
 all_goals(first|(simp_all;done)|(simp_all;omega))
theorem zkC(g:Sh.Glob)(f:Fld)(s:zB):zC g 44 [flT f,.ptr 1000 0] [.box [S (str s)]] (B (f.n==s)) [.box [S (str s)]]:=by
 refine zo tf_55 ?_;unfold B;simp only[vW,seval,clV]
theorem zgK(g:Sh.Glob)(l:List Fld)(s:zB)(hl:l.length≤maxLen):zC g 43 [.pv (.sl 4 (flR l)),.fn (.func 44) [] [.ptr 1000 0]] [.box [S (str s)]] (I (fieldAt l s)) [.box [S (str s)]]:=by
 refine zo tf_186 ?_;have hm:maxLen=9223372036854775807:=rfl;simp only[vW,seval,clV];refine zp (σ:={i:Nat // i≤l.length∧∀j x,j<i→l[j]?=some x→(x.n==s)=false}) (fun i=>⟨[(0,.pv (.sl 4 (flR l))),(1,.fn (.func 44) [] [.ptr 1000 0]),(7,I (l.length:Int)),(8,I (i.1:Int))],[(1000,[S (str s)])],[],[]⟩) (fun i=>l.length-i.1) ⟨0,Nat.zero_le _,fun j x hj=>by omega⟩ (z0M (by simp[I,S])) ?_;rintro⟨i,hi,hno⟩;by_cases hlt:i<l.length
 ·have d1:(i:Int)<(l.length:Int):=by omega
  obtain⟨x,ex⟩:∃x,l[i]?=some x:=⟨_,gE hlt⟩
  have HN:=zkC g x s;have w1:=wS i;unfold flT B at HN;simp only[vW,seval,d1,ex,clV];(with_reducible apply zG);exact kv;exact HN;rfl;exact kv;cases hp:(x.n==s)
  ·simp only[vW,seval,w1];refine zc ⟨i+1,by omega,fun j y hj hy=> ?_⟩ (by show l.length-(i+1)<l.length-i;omega) ?_
   ·by_cases hji:j=i
    ·subst hji;rw[ex]at hy;cases hy;exact hp
    ·exact hno j y (by omega) hy
   ·exact lwA
  ·simp only[vW,seval];unfold fieldAt;rw[z3m (fun f=>f.n==s) l i hno x ex hp]
 ·have d1:¬(i:Int)<(l.length:Int):=by omega
  simp only[vW,seval,d1];unfold fieldAt;rw[z3n (fun f=>f.n==s) l (fun x hx=>by
   obtain⟨j,hj⟩:=List.getElem?_of_mem hx;exact hno j x (by have:=(gJ hj).1;omega) hj)]
def z1L(l:List Fld)(s:zB):TV:=if fieldAt l s<0 then .tuple [I 0,B false] else .tuple [I (fieldAt l s),B true]
theorem z4Q(g:Sh.Glob)(c:Cls)(s:zB)(hl:c.fs.length≤4611686018427387904):zC g 18 [clT c,S (str s)] [] (z1L c.fs s) []:=by
 have HI:=zgK g c.fs s (by unfold maxLen;omega);unfold z1L;refine za tf_54 ?_;by_cases h:fieldAt c.fs s<0
 ·rw[if_pos h];simp only[vW,seval,clV];refine z7 HI ?_;simp only[vW,seval,h,B]
 ·rw[if_neg h];simp only[vW,seval,clV];refine z7 HI ?_;simp only[vW,seval,h,B]
theorem ze8(g:Sh.Glob)(f:Fld)(hf:z0t f.n):zC g 73 [flT f] [] (B (zF f)) []:=by
 have HN:=z6j g f.n hf;have HT:=z8d g f.t;unfold zF;refine za tf_59 ?_;unfold B at*;simp only[vW,seval,clV];refine z7 HN ?_;cases h1:zb f.n
 ·simp only[vW,seval]
 ·simp only[vW,seval];refine z7 HT ?_;cases h2:zg f.t
  ·simp only[vW,seval]
  ·cases h3:f.ix
   ·simp only[vW,seval,h3];rfl
   ·simp only[vW,seval,h3]
theorem z8P{all:List Fld}{k:Nat}{f:Fld}{r:List Fld}:z38 all k (f::r)=(zF f&&fieldAt all f.n==k&&z38 all (k+1) r):=rfl
theorem zgG{l:List Fld}{f:Fld}(h:f∈l):¬fieldAt l f.n<0:=by
 unfold fieldAt;rw[z5f];intro hn;have:=hn f h;simp at this
theorem z0E(g:Sh.Glob)(c:Cls)(hc:ClsOk c):zC g 38 [clT c] [] (B (ze c)) []:=by
 have HN:=z6j g c.n hc.n;have hlen:=hc.len;obtain⟨R,hR⟩:∃R,ze c=R:=⟨_,rfl⟩
 rw[hR];unfold ze at hR;refine za tf_56 ?_;unfold B at*;simp only[vW,seval,clV];refine z7 HN ?_;cases h1:zb c.n
 ·rw[h1]at hR;subst hR;simp only[vW,seval]
 rw[h1,Bool.true_and]at hR;by_cases h8:c.fs.length≤8
 ·rw[decide_eq_true h8,Bool.true_and]at hR;have d8:¬(8:Int)<(c.fs.length:Int):=by omega
  simp only[vW,seval,d8,clV];refine zp (σ:={k:Nat // k≤c.fs.length∧z38 c.fs k (c.fs.drop k)=R}) (fun k=>⟨[(18,.pv (.sl 4 (flR c.fs))),(19,I (c.fs.length:Int)),(20,I (k.1:Int)),(1,.ptr 1 0)],[(1,[S (str c.n),.pv (.sl 4 (flR c.fs))])],[],[]⟩) (fun k=>c.fs.length-k.1) ⟨0,Nat.zero_le _,by simpa using hR⟩ ?_ ?_
  ·exact lwA
  rintro⟨k,hk,hT⟩;by_cases hlt:k<c.fs.length
  ·have d1:(k:Int)<(c.fs.length:Int):=by omega
   obtain⟨f,ef⟩:∃f,c.fs[k]?=some f:=⟨_,gE hlt⟩
   have hmem:=gM ef;have HF:=ze8 g f (hc.fs f hmem);have HA:=z4Q g c f.n hlen;have hne:=zgG hmem;have w1:=wS k;have hdr:c.fs.drop k=f::c.fs.drop (k+1):=by
    rw[List.drop_eq_getElem_cons hlt];congr 1;rw[gE hlt]at ef;exact Option.some.inj ef
   rw[hdr,z8P]at hT;unfold z1L at HA;rw[if_neg hne]at HA;unfold flT clT B at*;simp only[vW,seval,d1,ef,clV];refine z7 HF ?_;cases h2:zF f
   ·rw[h2]at hT;subst hT;simp only[vW,seval]
   rw[h2,Bool.true_and]at hT;simp only[vW,seval];refine z7 HA ?_;by_cases hat:fieldAt c.fs f.n=(k:Int)
   ·have hb:(fieldAt c.fs f.n==(k:Int))=true:=by simpa using hat
    rw[hb,Bool.true_and]at hT;simp only[vW,seval,hat,w1];refine zc ⟨k+1,hlt,hT⟩ (by show c.fs.length-(k+1)<c.fs.length-k;omega) ?_;exact lwA
   ·have hb:(fieldAt c.fs f.n==(k:Int))=false:=by simpa using hat
    rw[hb]at hT;subst hT;simp only[vW,seval,hat]
  ·have d1:¬(k:Int)<(c.fs.length:Int):=by omega
   have hdr:c.fs.drop k=[]:=List.drop_eq_nil_of_le (by omega);rw[hdr]at hT;simp only[vW,seval,d1];rw[←hT];rfl
 ·rw[decide_eq_false h8]at hR;subst hR;have d8:(8:Int)<(c.fs.length:Int):=by omega
  simp only[vW,seval,d8,clV]
def z65(r:Int×Int):TV:=.tuple [I r.1,I r.2]
theorem z5y(m:Nat)(c:Cls)(vs:List V)(hc:ClsOk c)(hv:∀x∈vs,VOk x∧x.l.length≤maxLen)(hl:vs.length≤4611686018427387904):zC (gl0 m) 13 [clT c,.pv (.sl 4 (V.rows vs))] [] (z65 (check c vs)) []:=by
 have HR:=z0E (gl0 m) c hc;have hlen:=hc.len;obtain⟨R,hR⟩:∃R,check c vs=R:=⟨_,rfl⟩
 rw[hR];unfold check at hR;refine za tf_53 ?_;unfold z65 clT B at*;simp only[vW,seval,clV];refine z7 HR ?_;cases h1:ze c
 ·rw[h1]at hR;simp at hR;subst hR;simp only[vW,seval]
 rw[h1]at hR;simp only[Bool.not_true,Bool.false_eq_true,if_false]at hR;by_cases h2:vs.length=c.fs.length
 ·have d2:(vs.length:Int)=(c.fs.length:Int):=by omega
  rw[if_neg (by simpa using h2)]at hR;simp only[vW,seval,d2,clV];refine zp (σ:={k:Nat // k≤c.fs.length∧z2C k (c.fs.drop k) (vs.drop k)=R}) (fun k=>⟨[(1,.pv (.sl 4 (V.rows vs))),(24,.pv (.sl 4 (flR c.fs))),(25,I (c.fs.length:Int)),(26,I (k.1:Int))],[(2,[S (str c.n),.pv (.sl 4 (flR c.fs))])],[],[]⟩) (fun k=>c.fs.length-k.1) ⟨0,Nat.zero_le _,by simpa using hR⟩ ?_ ?_
  ·exact lwA
  rintro⟨k,hk,hT⟩;by_cases hlt:k<c.fs.length
  ·have d1:(k:Int)<(c.fs.length:Int):=by omega
   obtain⟨f,ef⟩:∃f,c.fs[k]?=some f:=⟨_,gE hlt⟩
   have hlt2:k<vs.length:=by omega
   obtain⟨v,ev⟩:∃v,vs[k]?=some v:=⟨_,gE hlt2⟩
   obtain⟨hv1,hv2⟩:=hv v (gM ev);have HF:=zn0 m v f.t hv1 hv2;have w1:=wS k;have hdr:c.fs.drop k=f::c.fs.drop (k+1):=by
    rw[List.drop_eq_getElem_cons hlt];congr 1;rw[gE hlt]at ef;exact Option.some.inj ef
   have hdv:vs.drop k=v::vs.drop (k+1):=by
    rw[List.drop_eq_getElem_cons hlt2];congr 1;rw[gE hlt2]at ev;exact Option.some.inj ev
   rw[hdr,hdv,z2C]at hT;unfold B at HF;simp only[vW,seval,d1,ef,ev,clV];refine z7 HF ?_;cases h3:zI v f.t
   ·rw[h3]at hT;simp only[Bool.false_eq_true,if_false]at hT;subst hT;simp only[vW,seval]
   ·rw[h3]at hT;simp only[if_true]at hT;simp only[vW,seval,w1];refine zc ⟨k+1,hlt,hT⟩ (by show c.fs.length-(k+1)<c.fs.length-k;omega) ?_;exact lwA
  ·have d1:¬(k:Int)<(c.fs.length:Int):=by omega
   have hdr:c.fs.drop k=[]:=List.drop_eq_nil_of_le (by omega);rw[hdr,z2C]at hT;subst hT;simp only[vW,seval,d1]
 ·have d2:¬(vs.length:Int)=(c.fs.length:Int):=by omega
  rw[if_pos h2]at hR;subst hR;have hmin:min (vs.length:Int) (c.fs.length:Int)=((min vs.length c.fs.length:Nat):Int):=by omega
  simp only[vW,seval,d2,hmin,clV]
theorem z41(g:Sh.Glob)(c:Cls)(s:zB)(hl:c.fs.length≤4611686018427387904):zC g 47 [clT c,S (str s)] [] (z1L c.fs s) []:=by
 unfold z1L;refine za tf_136 ?_;simp only[vW,seval,clV];refine zp (σ:={i:Nat // i≤c.fs.length∧∀j x,j<i→c.fs[j]?=some x→(x.n==s)=false}) (fun i=>⟨[(1,S (str s)),(6,I (i.1:Int)),(2,.ptr 2 0)],[(2,[S (str c.n),.pv (.sl 4 (flR c.fs))])],[],[]⟩) (fun i=>c.fs.length-i.1) ⟨0,Nat.zero_le _,fun j x hj=>by omega⟩ ?_ ?_
 ·exact lwA
 rintro⟨i,hi,hno⟩;by_cases hlt:i<c.fs.length
 ·have d1:(i:Int)<(c.fs.length:Int):=by omega
  obtain⟨x,ex⟩:∃x,c.fs[i]?=some x:=⟨_,gE hlt⟩
  have w1:=wS i;cases hp:(x.n==s)
  ·simp only[vW,seval,d1,ex,hp,w1,clV];refine zc ⟨i+1,by omega,fun j y hj hy=> ?_⟩ (by show c.fs.length-(i+1)<c.fs.length-i;omega) ?_
   ·by_cases hji:j=i
    ·subst hji;rw[ex]at hy;cases hy;exact hp
    ·exact hno j y (by omega) hy
   ·exact lwA
  ·have hf:fieldAt c.fs s=(i:Int):=z3m (fun f:Fld=>f.n==s) c.fs i hno x ex hp;rw[hf,if_neg (by omega)];simp only[vW,seval,d1,ex,hp,clV];rfl
 ·have d1:¬(i:Int)<(c.fs.length:Int):=by omega
  have hf:fieldAt c.fs s= -1:=z3n (fun f:Fld=>f.n==s) c.fs (fun x hx=>by
   obtain⟨j,hj⟩:=List.getElem?_of_mem hx;exact hno j x (by have:=(gJ hj).1;omega) hj)
  rw[hf,if_pos (by omega)];simp only[vW,seval,d1,clV];rfl
end Go.Proofs.YtbkgnekfigknhaaGreatDoor
end

section
namespace Go.Mor
open Go
theorem z2E{l:zB}(h:l≠[]):1≤(Lib.decodeL l).2∧(Lib.decodeL l).2≤l.length:=by
 grind [Lib.decodeL_width,Lib.decodeL_le]
theorem ziB:∀(f:Nat) (l:zB) (a:Nat),l.length≤f→z4q f l a=z4q l.length l a:=by
 intro f
 induction f using Nat.strongRecOn with
 |_ f ih=>
  intro l a hl;cases f with
  |zero=>grind
  |succ f=>
   by_cases h:l=[]
   ·grind [z4q]
   ·obtain⟨n,hn⟩:∃n,l.length=n+1:=⟨l.length-1,by have:=List.length_pos_iff.2 h;omega⟩
    grind [z2E,Lib.decodeL,List.length_drop,z4q]
def zco(l:zB)(a:Nat):Nat:=z4q l.length l a
theorem zkm(l:zB)(a:Nat):zco l a=if l=[] then a else if 60<(a:Int)+Lib.runeLen ((Lib.decodeL l).1:Int)then a else zco (l.drop (Lib.decodeL l).2) (a+(Lib.decodeL l).2):=by
 unfold zco;by_cases h:l=[]
 ·subst h;rfl
 ·obtain⟨n,hn⟩:∃n,l.length=n+1:=⟨l.length-1,by have:=List.length_pos_iff.2 h;omega⟩
  grind [z2E,Lib.decodeL,List.length_drop,z4q,ziB]
theorem zqX(s:zB):z5z s=s.take (zco s 0):=rfl
theorem zga:∀(f:Nat) (l:zB),l.length≤f→z56 f l=z56 l.length l:=by
 intro f
 induction f using Nat.strongRecOn with
 |_ f ih=>
  intro l hl;cases f with
  |zero=>grind
  |succ f=>
   by_cases h:l=[]
   ·grind [z56]
   ·obtain⟨n,hn⟩:∃n,l.length=n+1:=⟨l.length-1,by have:=List.length_pos_iff.2 h;omega⟩
    grind [z2E,Lib.decodeL,List.length_drop,z56]
theorem zc6(l:zB):z16 l=if l=[] then 0 else z16 (l.drop (Lib.decodeL l).2)+1:=by
 unfold z16;by_cases h:l=[]
 ·subst h;rfl
 ·obtain⟨n,hn⟩:∃n,l.length=n+1:=⟨l.length-1,by have:=List.length_pos_iff.2 h;omega⟩
  grind [z2E,Lib.decodeL,List.length_drop,z56,zga]
theorem zgb:∀(n:Nat) (l:zB),l.length≤n→z16 l≤l.length:=by
 intro n
 induction n using Nat.strongRecOn with
 |_ n ih=>
  intro l hl;rw[zc6];split
  ·omega
  ·rename_i h;have hd:=z2E h;have h1:(l.drop (Lib.decodeL l).2).length<n:=by grind
   grind
theorem zio:∀(f:Nat) (l:zB) (a k:Nat) (n:Int),l.length≤f→z4o f l a k n=z4o l.length l a k n:=by
 intro f
 induction f using Nat.strongRecOn with
 |_ f ih=>
  intro l a k m hl;cases f with
  |zero=>grind
  |succ f=>
   by_cases h:l=[]
   ·grind [z4o]
   ·obtain⟨n,hn⟩:∃n,l.length=n+1:=⟨l.length-1,by have:=List.length_pos_iff.2 h;omega⟩
    grind [z2E,Lib.decodeL,List.length_drop,z4o]
def zaw(l:zB)(a k:Nat)(n:Int):Nat:=z4o l.length l a k n
theorem zd0(l:zB)(a k:Nat)(m:Int):zaw l a k m=if l=[] then a else if m≤(k:Int)then a else zaw (l.drop (Lib.decodeL l).2) (a+(Lib.decodeL l).2) (k+1) m:=by
 unfold zaw;by_cases h:l=[]
 ·subst h;rfl
 ·obtain⟨n,hn⟩:∃n,l.length=n+1:=⟨l.length-1,by have:=List.length_pos_iff.2 h;omega⟩
  grind [z2E,Lib.decodeL,List.length_drop,z4o,zio]
theorem zk9(s:zB)(n:Int):z1S s n=zaw s 0 0 n:=rfl
theorem zpt:∀(n:Nat) (l:zB) (a k:Nat) (m:Int),l.length≤n→a≤zaw l a k m∧zaw l a k m≤a+l.length:=by
 intro n
 induction n using Nat.strongRecOn with
 |_ n ih=>
  intro l a k m hl;rw[zd0];split
  ·omega
  ·rename_i h;have hd:=z2E h;split
   ·omega
   ·have h1:(l.drop (Lib.decodeL l).2).length<n:=by rw[List.length_drop];omega
    have h2:=ih _ h1 (l.drop (Lib.decodeL l).2) (a+(Lib.decodeL l).2) (k+1) m (Nat.le_refl _);rw[List.length_drop]at h2;omega
theorem zck(s:zB)(n:Int):z1S s n≤s.length:=by
 have:=(zpt _ s 0 0 n (Nat.le_refl _)).2;rw[zk9];omega
end Go.Mor
end

section
namespace Go.Sh
open Go Go.RowKit
def z3t:Nat→Nat→List TV
 |_,0=>[]
 |d,n+1=> .ptr d 0::z3t (d+1) n
theorem zfN:∀(n d j:Nat),j<n→(z3t d n)[j]?=some (.ptr (d+j) 0)
 |0,d,j,h=>by omega
 |n+1,d,0,_=>rfl
 |n+1,d,j+1,h=>by
  rw[z3t,List.getElem?_cons_succ,zfN n (d+1) j (by omega)]
  grind
theorem zfO:∀(n d:Nat),(z3t d n).length=n
 |0,_=>rfl
 |n+1,d=>by rw[z3t,List.length_cons,zfO n (d+1)]
theorem SCalls.frz{P:Program}{g:Glob}{f:Nat}{xs:List TV}{k:Fn}{pss:List (List PV)}(h:SCalls P g f xs [] (.fn k [] (z3t 1000 pss.length)) (pss.map fun ps=> .box (ps.map .pv))):SCalls P g f xs [] (.pv (.fn k [] (pss.map .el))) []:=by
 refine⟨h.1,fun w E vs hG hm hX hl hr=>(h.2 w E vs hG hm hX hl hr).mono ?_⟩;rintro e w' ⟨v,E',h1,h2,h3,h4⟩;have hob:∀(j:Nat) ps,pss[j]?=some ps→z0k (pss.map fun ps=>MO.box (ps.map TV.pv)) (1000+j)=some (ps.map TV.pv):=fun j ps hj=>by
  grind [z0k,Nat.add_sub_cancel_left]
 let K':Nat→Nat→Prop:=fun b o=>E'.K b o∨∃(j:Nat) (ps:List PV),pss[j]?=some ps∧b=E'.β (1000+j)∧o<ps.length
 have hk:∀b o u,E'.K b o→w'.cell? ⟨b,o,none⟩=some u→K' b o∧w'.cell? ⟨b,o,none⟩=some u:=fun b o u h1 h2=>⟨.inl h1,h2⟩
 have ho:∀d,¬(start w E [] 0).old d:=fun d h=>by have h1:=h.1;have h2:d<1000+0:=h.2;omega
 refine⟨v,{ E' with K:=K' },h1,⟨fun d cs hd=> ?_,fun d e W n hd=> ?_,fun d d' cs cs' hd=> ?_,fun d d' cs q k cap hd=> ?_,fun d d' q q' k cap cap' hd=> ?_,fun k o hko=> ?_,h2.low,fun k o u a1 a2=>⟨.inl (h2.keep k o u a1 a2).1,(h2.keep k o u a1 a2).2⟩,fun k o hko=> ?_,⟨fun d hd=>absurd hd (ho d),fun d hd=>absurd hd (ho d),fun d e W n hd=>absurd hd (ho d)⟩⟩,?_,⟨fun d h1 h2=> ?_,fun d h1 h2=> ?_,fun d e W n hd=> ?_⟩⟩
 ·simp[z0k]at hd
 ·simp[zx]at hd
 ·simp[z0k]at hd
 ·simp[z0k]at hd
 ·simp[zx]at hd
 ·rcases hko with hko|⟨j,ps,hj,rfl,_⟩
  ·exact h2.lt k o hko
  ·exact(h2.box _ _ (hob j ps hj)).1.lt
 ·rcases hko with hko|⟨j,ps,hj,rfl,_⟩
  ·exact h2.knew k o hko
  ·rcases(h2.box _ _ (hob j ps hj)).2 with h5|h5<;>grind
 ·cases h3 with
  |fn _ _ _ us us' e1 e2 r1 r2=>
   have hus:us=[]:=List.eq_nil_of_length_eq_zero e1.symm;subst hus;rw[zfO]at e2;refine .pv (.fn k [] (pss.map .el) [] us' rfl (by grind) (fun j c v hc=>by simp at hc) (fun j c u hc hu=> ?_));rw[List.getElem?_map]at hc;obtain⟨ps,hps,rfl⟩:=gO hc;have hjl:j<pss.length:=(gJ hps).1;have hrel:=r2 j _ u (zfN pss.length 1000 j hjl) hu;cases hrel;obtain⟨hbx,_⟩:=h2.box _ _ (hob j ps hps);have hcell:∀(i:Nat) c,ps[i]?=some c→∃v,w'.cell? ⟨E'.β (1000+j),i,none⟩=some v∧one v∧RelV w' E'.K c v:=fun i c hi=>by
    obtain⟨v,c1,c2,c3⟩:=hbx.cell i (.pv c) (by grind);cases c3 with|pv c3=>exact⟨v,c1,c2,c3⟩
   refine .el ps (E'.β (1000+j)) 0 (fun i=>(w'.cell? ⟨E'.β (1000+j),i,none⟩).getD undef) (fun i c hi=> ?_) (fun i c hi=> ?_)
   ·grind
   ·obtain⟨v,c1,c2,c3⟩:=hcell i c hi;rw[c1];exact c3.mono hk
 ·grind
 ·grind
 ·simp[zx]at hd
end Go.Sh
end

section
namespace Go.Proofs.YtbkgnekfigknhaaGreatDoor
open Go Go.RowKit Go.Mor Go.Sh
section
open Go.Sh.Cd1 Go.Sh.Cd6
def tyP(t:Ty):List PV:=[.v (.int .i64 t.k),.v (.int .i64 t.o)]
def tyC(ps:List Ty):List TV:=pvC (ps.flatMap tyP)
def inR(l:List Int):List (List PV):=l.map fun n=>[.v (.int .i64 n)]
def tyB(r:Ty×Bool):TV:=.tuple [tyT r.1,B r.2]
theorem ziM{ps:List Ty}{i:Nat}{t:Ty}(h:ps[i]?=some t):List.take 2 (List.drop (i*2) (tyC ps))=[I t.k,I t.o]:=by
 induction ps generalizing i with
 |nil=>simp at h
 |cons p ps ih=>
  cases i with
  |zero=>simp at h;subst h;rfl
  |succ i=>
   have:=ih (i:=i) (by simpa using h);rw[←this];show List.take 2 (List.drop ((i+1)*2) (I p.k::I p.o::tyC ps))=_;rw[show(i+1)*2=i*2+2 by omega];rfl
theorem zia(ps:List Ty):(tyC ps).length=ps.length*2:=by
 induction ps with
 |nil=>rfl
 |cons p ps ih=>
  show(I p.k::I p.o::tyC ps).length=_;simp[ih];omega
theorem zi8(ids:List Nat)(ps:List Ty):List.map (fgt3 ids) (tyC ps)=tyC ps:=z7m ids _
theorem zi9(ps:List Ty):List.flatMap TV.ids1 (tyC ps)=[]:=z9P _
theorem zib(ρ:Nat→Option Nat)(ps:List Ty):seqO (TV.ren1 ρ) (tyC ps)=some (tyC ps):=z9Q ρ _
theorem zoU(l:List Int)(k:Nat):(inR l)[k]?=(l[k]?).map fun n=>[.v (.int .i64 n)]:=by unfold inR;rw[List.getElem?_map]
theorem zoV(l:List Int):(inR l).length=l.length:=by unfold inR;rw[List.length_map]
theorem tyV:(type_of% @zi8)∧(type_of% @zi9)∧(type_of% @zib)∧(type_of% @zia)∧(type_of% @zoU)∧(type_of% @zoV)∧(type_of% @tyB.eq_1)∧(type_of% @B.eq_1):=⟨@zi8,@zi9,@zib,@zia,@zoU,@zoV,@tyB.eq_1,@B.eq_1⟩
def z0c(k:Int)(ks:List Int):TV:=.pv (.fn (.func 175) [] [.el [.sl 1 (inR ks)],.el [.v (.int .i64 k)]])
theorem z2h(g:Sh.Glob)(k:Int)(ks:List Int):zC g 101 [I k,.pv (.sl 1 (inR ks))] [] (z0c k ks) []:=by
 refine SCalls.frz (pss:=[[.sl 1 (inR ks)],[.v (.int .i64 k)]]) ?_;refine z0x tf_91 ?_;rfl
theorem z1o(g:Sh.Glob)(k:Int)(ks:List Int)(ps:List Ty)(hl:ps.length=ks.length)(h60:ps.length≤60):zC g 175 [.bs 1000 0 ps.length ps.length,.pv (.el [.sl 1 (inR ks)]),.pv (.el [.v (.int .i64 k)])] [.box (tyC ps)] (tyB (zK k ks ps)) [.box (tyC ps)]:=by
 obtain⟨R,hR⟩:∃R,zK k ks ps=R:=⟨_,rfl⟩
 rw[hR];refine zo tf_92 ?_;simp only[vW,seval,tyV];refine zp (σ:={i:Nat // i≤ps.length∧(if z29 (ps.drop i) (ks.drop i)then((⟨k,0⟩:Ty),true)else(ty0,false))=R}) (fun i=>⟨[(1,.pv (.el [.sl 1 (inR ks)])),(2,.pv (.el [.v (.int .i64 k)])),(8,.bs 1000 0 ps.length ps.length),(9,I (ps.length:Int)),(10,I (i.1:Int)),(4,.ptr 4 0)],[(1000,tyC ps),(4,[I 0,I 0])],[],[]⟩) (fun i=>ps.length-i.1) ⟨0,Nat.zero_le _,hR⟩ ?_ ?_
 ·exact lwA
 rintro⟨i,hi,hT⟩;by_cases hlt:i<ps.length
 ·have d1:(i:Int)<(ps.length:Int):=by omega
  obtain⟨t,et⟩:∃t,ps[i]?=some t:=⟨_,gE hlt⟩
  obtain⟨q,eq⟩:∃q,ks[i]?=some q:=⟨_,gE (by omega)⟩
  have w1:=wS i;have hdr:ps.drop i=t::ps.drop (i+1):=by
   rw[List.drop_eq_getElem_cons hlt];congr 1;rw[gE hlt]at et;exact Option.some.inj et
  have hdk:ks.drop i=q::ks.drop (i+1):=by
   rw[List.drop_eq_getElem_cons (show i<ks.length by omega)];congr 1;rw[gE (show i<ks.length by omega)]at eq;exact Option.some.inj eq
  rw[hdr,hdk,z29]at hT;have f2:=ziM et;by_cases h:t.k=q
  ·have hb:(t.k==q)=true:=by simpa using h
   rw[hb,Bool.true_and]at hT;simp only[vW,seval,tyV,d1,f2,eq,h,w1];refine⟨by omega,zc ⟨i+1,hlt,hT⟩ (by show ps.length-(i+1)<ps.length-i;omega) ?_⟩;exact lwA
  ·have hb:(t.k==q)=false:=by simpa using h
   rw[hb,Bool.false_and,if_neg (by decide)]at hT;simp only[vW,seval,tyV,d1,f2,eq,h];refine⟨by omega,?_⟩;rw[←hT];rfl
 ·have d1:¬(i:Int)<(ps.length:Int):=by omega
  have hdr:ps.drop i=[]:=List.drop_eq_nil_of_le (by omega);rw[hdr,z29,if_pos rfl]at hT;simp only[vW,seval,tyV,d1];rw[←hT]
theorem zb7:∃f g:Field,(Tryz.prog.fieldsOf 49).toList=[f,g]∧f.name≠ "_" ∧g.name≠ "_" ∧(∀a b:Int,zr Tryz.prog (part f.type #[.int .i64 a,.int .i64 b] f.offset)=some (.int .i64 a))∧(∀a b:Int,zr Tryz.prog (part g.type #[.int .i64 a,.int .i64 b] g.offset)=some (.int .i64 b))∧
  (∀(n:Nat) (a c:Int),zr Tryz.prog (Op.equalIn (n+1) f.type (.int .i64 a) (.int .i64 c))=some (a==c))∧(∀(n:Nat) (a c:Int),zr Tryz.prog (Op.equalIn (n+1) g.type (.int .i64 a) (.int .i64 c))=some (a==c)):=by
 refine⟨(Tryz.prog.fieldsOf 49).toList.getD 0 default,(Tryz.prog.fieldsOf 49).toList.getD 1 default,by kernel_rfl,?_,?_,fun a b=>by kernel_rfl,fun a b=>by kernel_rfl,fun n a c=>by kernel_rfl,fun n a c=>by kernel_rfl⟩
 ·exact of_decide_eq_true (by kernel_rfl)
 ·exact of_decide_eq_true (by kernel_rfl)
theorem z5d(a b c d:Int):z04 Tryz.prog (do eqGuard .eql 49 (.const (.agg #[.int .i64 a,.int .i64 b])) (.const (.agg #[.int .i64 c,.int .i64 d])) (.agg #[.int .i64 a,.int .i64 b]) (.agg #[.int .i64 c,.int .i64 d]);binOp .eql 49 (.agg #[.int .i64 a,.int .i64 b]) (.agg #[.int .i64 c,.int .i64 d]))=
  some (.pv (.v (.bool (z0i ⟨a,b⟩ ⟨c,d⟩))),.no):=by
 unfold z04;rw[z01];have hg:zr Tryz.prog (eqGuard .eql 49 (.const (.agg #[.int .i64 a,.int .i64 b])) (.const (.agg #[.int .i64 c,.int .i64 d])) (.agg #[.int .i64 a,.int .i64 b]) (.agg #[.int .i64 c,.int .i64 d]))=some ():=by kernel_rfl
 rw[hg,Option.bind_some];have hb:binOp .eql 49 (.agg #[.int .i64 a,.int .i64 b]) (.agg #[.int .i64 c,.int .i64 d])=(Op.equal 49 (.agg #[.int .i64 a,.int .i64 b]) (.agg #[.int .i64 c,.int .i64 d])>>=fun r=>pure (.bool r)):=rfl;rw[hb,z01];have he:zr Tryz.prog (Op.equal 49 (.agg #[.int .i64 a,.int .i64 b]) (.agg #[.int .i64 c,.int .i64 d]))=some (z0i ⟨a,b⟩ ⟨c,d⟩):=by
  unfold Op.equal;obtain⟨n,hn⟩:∃n,Op.maxDepth=n+1+1:=⟨_,rfl⟩
  rw[hn,z2n _ _ _ _ (by kernel_rfl) (by kernel_rfl)];obtain⟨f,g,hl,nf,ng,pf,pg,ef,eg⟩:=zb7;rw[hl];simp only[Op.eqFields,nf,ng,ne_eq,not_false_eq_true,if_true,z01,pf,pg,ef,eg,Option.bind_some];unfold z0i;cases h:(a==c)
  ·simp[h,z25]
  ·cases h2:(b==d)<;>simp[h,h2,z25,z01,pg,eg,ng]
 rw[he];rfl
theorem zk6(g:Sh.Glob)(a b:Ty):zC g 179 [.bs 1000 0 2 2] [.box (tyC [a,b])] (B (z1Q a b)) [.box (tyC [a,b])]:=by
 have e:tyC [a,b]=[I a.k,I a.o,I b.k,I b.o]:=rfl;rw[e];unfold z1Q;refine zo tf_68 ?_;obtain⟨ak,ao⟩:=a;obtain⟨bk,bo⟩:=b;simp only;cases h:z0i ⟨ak,ao⟩ ⟨bk,bo⟩
 ·simp only[vW,seval,tyV,z5d,h]
 ·by_cases h1:ak=1
  ·subst h1;simp only[vW,seval,tyV,z5d,h]
  ·have hb:(ak==1)=false:=by simpa using h1
   have hc:decide (ak=2)=(ak==2):=by rw[Bool.eq_iff_iff];simp
   simp only[vW,seval,tyV,z5d,h,h1,hb,hc]
theorem zk7(g:Sh.Glob)(c a b:Ty):zC g 179 [.bs 1000 2 2 2] [.box (tyC [c,a,b])] (B (z1Q a b)) [.box (tyC [c,a,b])]:=by
 have e:tyC [c,a,b]=[I c.k,I c.o,I a.k,I a.o,I b.k,I b.o]:=rfl;rw[e];unfold z1Q;refine zo tf_68 ?_;obtain⟨ak,ao⟩:=a;obtain⟨bk,bo⟩:=b;simp only;cases h:z0i ⟨ak,ao⟩ ⟨bk,bo⟩
 ·simp only[vW,seval,tyV,z5d,h]
 ·by_cases h1:ak=1
  ·subst h1;simp only[vW,seval,tyV,z5d,h]
  ·have hb:(ak==1)=false:=by simpa using h1
   have hc:decide (ak=2)=(ak==2):=by rw[Bool.eq_iff_iff];simp
   simp only[vW,seval,tyV,z5d,h,h1,hb,hc]
theorem zkf(g:Sh.Glob)(a b c:Ty):zC g 115 [.bs 1000 0 3 3] [.box (tyC [a,b,c])] (tyB (z2c [a,b,c])) [.box (tyC [a,b,c])]:=by
 have HA:=zk7 g a b c;have e:tyC [a,b,c]=[I a.k,I a.o,I b.k,I b.o,I c.k,I c.o]:=rfl;have hu:z2c [a,b,c]=if a.k=1∧z1Q b c=true then(b,true)else(ty0,false):=rfl
 rw[e]at HA ⊢;rw[hu];refine zo tf_80 ?_;unfold B at HA;obtain⟨ak,ao⟩:=a;simp only at HA ⊢;by_cases h1:ak=1
 ·subst h1;simp only[vW,seval,tyV];refine z7 HA ?_;cases h2:z1Q b c
  ·simp only[vW,seval,tyV];simp[ty0]
  ·simp only[vW,seval,tyV]
 ·rw[if_neg (fun h=>h1 h.1)];simp only[vW,seval,tyV,h1];rfl
theorem znF(g:Sh.Glob)(a b:Ty):zC g 210 [.bs 1000 0 2 2] [.box (tyC [a,b])] (tyB (⟨1,0⟩,z1Q a b)) [.box (tyC [a,b])]:=by
 have HA:=zk6 g a b;have e:tyC [a,b]=[I a.k,I a.o,I b.k,I b.o]:=rfl;rw[e]at HA ⊢;refine zo tf_87 ?_;unfold B at HA;simp only[vW,seval,tyV];refine z7 HA ?_;simp only[vW,seval,tyV]
def zj8(s:zB):TV:=if s=[43]∨s=[45]∨s=[42]∨s=[47]∨s=[37] then z0c 1 [1,1] else if s=[38] then z0c 2 [2,2] else .pv (.v (.func (.func 210) #[] #[]))
theorem in2(a b:Int):inR [a,b]=[[.v (.int .i64 a)],[.v (.int .i64 b)]]:=rfl
theorem zgQ(g:Sh.Glob)(s:zB):zC g 174 [S (str s)] [] (zj8 s) []:=by
 have H1:=z2h g 1 [1,1];have H2:=z2h g 2 [2,2];have q1:=bS [43];have q2:=bS [45];have q3:=bS [42];have q4:=bS [47];have q5:=bS [37];have q6:=bS [38];have hb:∀a b:zB,a≠b→(a==b)=false:=fun a b h=>by simpa using h
 unfold zj8;unfold z0c at*;refine za tf_86 ?_;by_cases h1:s=[43]
 ·subst h1;simp only[vW,seval,q1];(with_reducible apply zR);simp only[vW,seval,in2];rfl;rfl;exact H1;exact km;simp only[vW,seval,in2];rfl;simp only[vW,seval];rfl
 have d1:=hb _ _ h1;by_cases h2:s=[45]
 ·subst h2;simp only[vW,seval,q1,q2,d1];(with_reducible apply zR);simp only[vW,seval,in2];rfl;rfl;exact H1;exact km;simp only[vW,seval,in2];rfl;simp only[vW,seval];rfl
 have d2:=hb _ _ h2;by_cases h3:s=[42]
 ·subst h3;simp only[vW,seval,q1,q2,q3,d1,d2];(with_reducible apply zR);simp only[vW,seval,in2];rfl;rfl;exact H1;exact km;simp only[vW,seval,in2];rfl;simp only[vW,seval];rfl
 have d3:=hb _ _ h3;by_cases h4:s=[47]
 ·subst h4;simp only[vW,seval,q1,q2,q3,q4,d1,d2,d3];(with_reducible apply zR);simp only[vW,seval,in2];rfl;rfl;exact H1;exact km;simp only[vW,seval,in2];rfl;simp only[vW,seval];rfl
 have d4:=hb _ _ h4;by_cases h5:s=[37]
 ·subst h5;simp only[vW,seval,q1,q2,q3,q4,q5,d1,d2,d3,d4];(with_reducible apply zR);simp only[vW,seval,in2];rfl;rfl;exact H1;exact km;simp only[vW,seval,in2];rfl;simp only[vW,seval];rfl
 have d5:=hb _ _ h5;rw[if_neg (by simp[h1,h2,h3,h4,h5])];by_cases h6:s=[38]
 ·subst h6;simp only[vW,seval,q1,q2,q3,q4,q5,q6,d1,d2,d3,d4,d5];(with_reducible apply zR);simp only[vW,seval,in2];rfl;rfl;exact H2;exact km;simp only[vW,seval,in2];rfl;simp only[vW,seval];rfl
 have d6:=hb _ _ h6;rw[if_neg h6];simp only[vW,seval,q1,q2,q3,q4,q5,q6,d1,d2,d3,d4,d5,d6]
end
structure GlobT(w:World):Prop where
 tab:Lib.TabIs Tryz.prog w "internal/strconv.uint64pow10" .u64 Lib.pow10Tab
 mx:∃k,w.cell? ⟨2,0,none⟩=some (.int .i64 k)
theorem zag:Tryz.prog.globalNamed "internal/strconv.uint64pow10" =some 3:=by kernel_rfl
theorem zs3{P:Program}{w w':World}{n g:Nat}{nm:String}{k:IntKind}{zs:List Int}(hg:P.globalNamed nm=some g)(hn:g<n)(h:Lib.TabIs P w nm k zs)(hk:∀k,k<n→w'.heap[k]?=w.heap[k]?):Lib.TabIs P w' nm k zs:=by
 unfold Lib.TabIs World.var? at*;rw[hg]at*;simp only[Option.bind_some]at*;rw[hk g hn];exact h
theorem zna{w w':World}{n:Nat}(hv:8≤n)(h:GlobT w)(hk:∀k,k<n→w'.heap[k]?=w.heap[k]?):GlobT w':=by
 refine⟨zs3 zag (by omega) h.tab hk,?_⟩;obtain⟨k,h0⟩:=h.mx;exact⟨k,by rw[World.cell?_of_block (w:=w) (hk _ (show 2<n by omega))];exact h0⟩
structure GlobNT(n:Nat)(w:World):Prop extends GlobN0 n w where
 t:GlobT w
def glT(n:Nat):Sh.Glob where
 G:=GlobNT n
 n:=n
 st:=fun w w' h hk=>⟨⟨zfd h.hv h.u hk,zi2 h.sz hk,h.hv⟩,zna h.hv h.t hk⟩
 le:=fun w h=>h.sz
theorem zpb{m f:Nat}{xs:List TV}{os:List MO}{y:TV}{os':List MO}(h:zC (gl0 m) f xs os y os'):zC (glT m) f xs os y os':=
 zpc (g:=gl0 m) (g':=glT m) rfl (fun w (hG:GlobNT m w)=>hG.toGlobN0) h
structure GlobE(w:World):Prop where
 sy:∃t p,w.cell? ⟨4,0,none⟩=some (.iface t p)
 rg:∃t p,w.cell? ⟨5,0,none⟩=some (.iface t p)
theorem zn9{w w':World}{n:Nat}(hv:8≤n)(h:GlobE w)(hk:∀k,k<n→w'.heap[k]?=w.heap[k]?):GlobE w':=by
 obtain⟨⟨t,p,h1⟩,⟨t',p',h2⟩⟩:=h;exact⟨⟨t,p,by rw[World.cell?_of_block (w:=w) (hk _ (show 4<n by omega))];exact h1⟩,⟨t',p',by rw[World.cell?_of_block (w:=w) (hk _ (show 5<n by omega))];exact h2⟩⟩
structure GlobNE(n:Nat)(w:World):Prop extends GlobNT n w where
 e:GlobE w
def glE(n:Nat):Sh.Glob where
 G:=GlobNE n
 n:=n
 st:=fun w w' h hk=>⟨(glT n).st w w' h.toGlobNT hk,zn9 h.hv h.e hk⟩
 le:=fun w h=>h.sz
theorem zeu{m f:Nat}{xs:List TV}{os:List MO}{y:TV}{os':List MO}(h:zC (glT m) f xs os y os'):zC (glE m) f xs os y os':=
 zpc (g:=glT m) (g':=glE m) rfl (fun w (hG:GlobNE m w)=>hG.toGlobNT) h
theorem z9T{m f:Nat}{xs:List TV}{os:List MO}{y:TV}{os':List MO}(h:zC (gl0 m) f xs os y os'):zC (glE m) f xs os y os':=zeu (zpb h)
theorem zh4{P:Program}{g:Sh.Glob}{f:Nat}{xs:List TV}{os:List MO}{y:TV}(hb:z3I P f)
  (h:∀(w:World) (E:Env) (vs:List Value),g.G w→MSim (Sh.start w E os 0) (z0k os) (zx os) w E→xs.length=vs.length→(∀(j:Nat) x v,xs[j]?=some x→vs[j]?=some v→RelT w E (zx os) x v)→
   ∃v,(∀w' E r,RelT w' E r y v)∧Calls P f vs.toArray w fun e w'=>e=.returned v∧Below w.heap.size w w'):SCalls P g f xs os y os:=by
 refine⟨hb,fun w E us hG hm hX hl hr=> ?_⟩;obtain⟨v,hy,hc⟩:=h w E us hG hm hl hr;refine hc.mono ?_;rintro e w' ⟨rfl,hb⟩;refine⟨v,E,rfl,?_,hy _ _ _,⟨fun _ _ _=>rfl,fun _ _ _ _=>rfl,fun d e W n hd=>⟨n,hd,Nat.le_refl _,fun _=>rfl⟩⟩⟩;exact MSim.ext (s:=⟨fun _=>none,z0k os,zx os,fun _=>none⟩) hm hb E (fun _ _ h=>h) (fun _ _ h=> .inl h) (fun _ _=>⟨rfl,rfl⟩) (fun _ _ _=>rfl) (fun _ _=>⟨rfl,rfl⟩)
theorem zbe{w:World}{k:Nat}{os:Array Obj}:Below w.heap.size w (Go.Sort.grow (w.drewN k) os):=by
 have h1:∀k,Below w.heap.size w (w.drewN k):=by
  intro k
  induction k with
  |zero=>exact Below.refl _ _
  |succ k ih=>exact ih.trans (by have:=(Below.refl w.heap.size (w.drewN k)).drew;exact this)
 have h:=h1 k;refine⟨h.os,h.tape,h.output,?_,fun j hj=> ?_⟩
 ·show _≤((w.drewN k).heap++os).size;rw[Array.size_append];have:=h.size;omega
 ·show((w.drewN k).heap++os)[j]?=_;rw[Array.getElem?_append_left (by have:=h.size;omega)];exact h.block j hj
theorem zhv(m:Nat)(n:Int)(h0: -9223372036854775808≤n)(h1:n≤9223372036854775807):zC (glT m) 91 [I n] [] (S (str (Lib.itoa n))) []:=
 z3u (vs:=[.int .i64 n]) (z1y (by kernel_rfl)) (fun w E r=> .pv (.v _)) (fun w hG=>(Tryz.strconv_Itoa n h0 h1 w hG.t.tab).mono fun e w' ⟨he,k,os,hw⟩=>⟨he,by rw[hw];exact zbe⟩)
theorem zhV(m:Nat)(s o n:zB)(hs:s.length<4294967281)(ho:1≤o.length)(hl:s.length+Lib.countB (str s) (str o)*n.length≤140737488355328):
  zC (glT m) 92 [S (str s),S (str o),S (str n)] [] (S (str (Lib.replaceAll s o n))) []:=
 z3u (vs:=[.string (str s),.string (str o),.string (str n)]) (z1y (by kernel_rfl)) (fun w E r=> .pv (.v _)) (fun w hG=>by
  obtain⟨k,hk⟩:=hG.t.mx;have:=Tryz.strings_ReplaceAll (str s) (str o) (str n) k w (by rw[z4d];exact hs) hk (by rw[z4d];exact ho) (by rw[z4d,z4d];exact hl);simp only[str_toList]at this;exact this)
def zcO(l:List (zB)):List TV:=pvC (l.map fun s=> .v (.string (str s)))
theorem zpR(m:Nat)(l:List (zB))(sep:zB)(hN:l.length≤140737488355328)(hl:(Lib.join l sep).length≤140737488355328):
  zC (glT m) 94 [.bs 1000 0 l.length l.length,S (str sep)] [.box (zcO l)] (S (str (Lib.join l sep))) [.box (zcO l)]:=by
 refine zh4 (z1y (by kernel_rfl)) fun w E vs hG hm hlen hr=>⟨.string (str (Lib.join l sep)),fun w' E r=> .pv (.v _),?_⟩
 obtain⟨v0,v1,rfl⟩:∃v0 v1,vs=[v0,v1]:=by
  match vs,hlen with
  |[v0,v1],_=>exact⟨v0,v1,rfl⟩
 obtain rfl:=zp8 (hr 1 _ v1 rfl rfl);have r0:=hr 0 _ v0 rfl rfl;cases r0 with
 |bs _ _ _ _ C _ hcC _=>
 obtain⟨hbox,_⟩:=hm.box 1000 (zcO l) rfl;have:=Tryz.strings_Join (E.β 1000) 0 C (l.map str) (str sep) w (fun j x hx=>by
  rw[List.getElem?_map]at hx;obtain⟨y,hy,rfl⟩:=gO hx;obtain⟨v,h1,_,h3⟩:=hbox.cell j (S (str y)) (by simp[zcO,pvC,hy];rfl);rw[Nat.zero_add,h1,zp8 h3]) hbox.lt (by simpa using hN) (by simpa using hcC) (by simpa [Function.comp_def,str_toList]using hl)
 simp only[List.length_map,List.map_map,Function.comp_def,str_toList,List.map_id']at this;exact this
section
open Go.Sh.Cd1
theorem zhG(g:Sh.Glob)(a:Int):zC g 159 [I a] [] (.pv (.v (.bool false))) []:=by
 refine za tf_64 ?_;simp only[vW,seval]
theorem zhH(g:Sh.Glob)(a:ByteArray):zC g 160 [S a] [] (.pv (.v (.bool false))) []:=by
 refine za tf_65 ?_;simp only[vW,seval]
theorem zcm(g:Sh.Glob)(a b:Int):zC g 83 [I a,I b] [] (I (z1i a b)) []:=by
 refine z0w tf_62 ?_;refine z8 (zhG g _) ?_;refine z8 (zhG g _) ?_;unfold z1i;refine⟨fun h=>by rw[if_pos h],fun h=>⟨fun h'=>by rw[if_neg h,if_pos h'],fun h'=>by rw[if_neg h,if_neg h']⟩⟩
theorem zpB(g:Sh.Glob)(a b:zB):zC g 84 [S (str a),S (str b)] [] (I (z2t a b)) []:=by
 refine z0w tf_63 ?_;refine z8 (zhH g _) ?_;refine z8 (zhH g _) ?_;unfold z2t;cases hb:Op.bytesLess a b
 ·by_cases he:a=b
  ·subst he;simp[z0B]
  ·simp[z0B,he]
 ·simp[z0B]
theorem zir(g:Sh.Glob)(l l':List V)(hl:l.length≤maxLen)(H:∀(i:Nat) x y,l[i]?=some x→l'[i]?=some y→zC g 45 [tv x,tv y] [] (I (cmpV x y)) []):
  zC g 85 [.pv (.sl 4 (V.rows l)),.pv (.sl 4 (V.rows l')),.pv (.v (.func (.func 45) #[] #[]))] [] (I (z0P l l')) []:=by
 refine z0w tf_195 ?_;refine zp (σ:={ i:Nat // i≤min l.length l'.length∧z0P l l'=z0P (l.drop i) (l'.drop i) }) (fun i=>⟨[(0,.pv (.sl 4 (V.rows l))),(1,.pv (.sl 4 (V.rows l'))),(2,.pv (.v (.func (.func 45) #[] #[]))),(13,I (min (l.length:Int) (l'.length:Int))),(14,I (i.1:Int))],[],[],[]⟩) (fun i=>min l.length l'.length-i.1) ⟨0,Nat.zero_le _,rfl⟩ (z0M rfl) ?_;rintro⟨i,hi,hc⟩;simp only[vW,seval];have hm:maxLen=9223372036854775807:=rfl;refine⟨fun hlt=> ?_,fun hge=> ?_⟩
 ·refine⟨by omega,fun x hx=>⟨by omega,fun y hy=> ?_⟩⟩;(with_reducible apply zG);exact kv;exact H i x y hx hy;rfl;exact kv;have hd:=zd3 hx hy;rw[←hc]at hd;unfold zZ at hd;simp only[vW,seval];refine⟨fun h0=> ?_,fun h0=> ?_⟩
  ·rw[if_pos h0]at hd;have w1:IntKind.i64.wrap ((i:Int)+1)=(i:Int)+1:=wrap64 (by omega) (by omega);refine zc ⟨i+1,by omega,hd⟩ (by show _-(i+1)<_-i;omega) ?_;apply z0o<;>simp[leL,lk,sv,Nat.beq,I,S,ES.kill,has,drp,zD,w1]
  ·rw[if_neg h0]at hd;rw[hd]
 ·refine z8 (zcm g _ _) ?_;rw[hc,zay (by omega)]
theorem zd6(g:Sh.Glob):∀(n:Nat) (x y:V),SizeOf.sizeOf x≤n→VSmall x→zC g 45 [tv x,tv y] [] (I (cmpV x y)) []
 |0,x,y,h,_=>by cases x;simp at h
 |n+1,x,y,h,hx=>by
  have HB:=zir g x.l y.l hx.len (fun i a b ha hb=>zd6 g n a b (by
   have hm:=gM ha;have:=List.sizeOf_lt_of_mem hm;cases x;simp[V.l]at h this ⊢;omega) (hx.sub (gM ha)))
  refine za tf_189 ?_;rw[z4O];simp only[vW,seval];refine z8 (zcm g _ _) ?_;refine⟨fun h1=> ?_,fun h1=>by rw[zZ,if_neg h1]⟩;rw[zZ,if_pos h1];refine z8 (zcm g _ _) ?_;refine⟨fun h2=> ?_,fun h2=>by rw[zZ,if_neg h2]⟩;rw[zZ,if_pos h2];refine z8 (zpB g _ _) ?_;refine⟨fun h3=> ?_,fun h3=>by rw[zZ,if_neg h3]⟩;rw[zZ,if_pos h3];exact zd HB
theorem ziz(g:Sh.Glob)(x y:V)(hx:VSmall x):zC g 45 [tv x,tv y] [] (I (cmpV x y)) []:=zd6 g _ x y (Nat.le_refl _) hx
theorem zql(g:Sh.Glob)(x y:V)(hx:VSmall x)(H:∀(i:Nat) a b,x.l[i]?=some a→y.l[i]?=some b→zC g 79 [tv a,tv b] [] (I (cmpV a b)) [])(c:Int):
  swp Tryz.prog g (.loop c_130_12) (z1s 0 (z2y (swp Tryz.prog g (.seq (.seq c_130_13 (.cond (.tmp 67) (.seq c_130_14 .ret) .skip)) (.seq c_130_15 .ret)) (Post0 [.tmp 4] (I (zZ c (z0P x.l y.l))))) (Post0 [.tmp 4] (I (zZ c (z0P x.l y.l))))))
   ⟨[(2,.ptr 2 0),(3,.ptr 3 0),(5,I c),(6,I 0)],[(2,[I x.k,I x.n,S (str x.s),.pv (.sl 4 (V.rows x.l))]),(3,[I y.k,I y.n,S (str y.s),.pv (.sl 4 (V.rows y.l))])],[],[]⟩:=by
 refine zp (σ:={ p:Nat×Int // p.1≤min x.l.length y.l.length∧zZ c (z0P x.l y.l)=zZ p.2 (z0P (x.l.drop p.1) (y.l.drop p.1)) })
  (fun p=>⟨[(2,.ptr 2 0),(3,.ptr 3 0),(5,I p.1.2),(6,I (p.1.1:Int))],[(2,[I x.k,I x.n,S (str x.s),.pv (.sl 4 (V.rows x.l))]),(3,[I y.k,I y.n,S (str y.s),.pv (.sl 4 (V.rows y.l))])],[],[]⟩)
  (fun p=>min x.l.length y.l.length-p.1.1) ⟨(0,c),Nat.zero_le _,rfl⟩ (z0M rfl) ?_
 rintro⟨⟨i,d⟩,hi,hc⟩;have hm:maxLen=9223372036854775807:=rfl;have hl:=hx.len;simp only at hi hc;simp only[vW,seval];refine⟨fun h0=>⟨fun h1=>⟨fun h2=>⟨by omega,fun a ha=>⟨by omega,fun b hb=> ?_⟩⟩,fun h2=>⟨fun _=> ?_,fun h=>absurd h0 h⟩⟩,fun h1=>⟨fun _=> ?_,fun h=>absurd h0 h⟩⟩,fun h0=>⟨fun h=>absurd h h0,fun _=> ?_⟩⟩
 ·refine z8 (H i a b ha hb) ?_;have w1:IntKind.i64.wrap ((i:Int)+1)=(i:Int)+1:=wrap64 (by omega) (by omega);refine zc ⟨(i+1,cmpV a b),by show i+1≤_;omega,?_⟩ (by show _-(i+1)<_-i;omega) ?_
  ·show _=zZ (cmpV a b) (z0P (x.l.drop (i+1)) (y.l.drop (i+1)));rw[hc,h0,zd3 ha hb];simp[zZ]
  apply z0o<;>simp[leL,lk,sv,Nat.beq,I,S,ES.kill,has,drp,zD,w1]
 ·refine z8 (z6b g _ _) ?_;rw[hc,h0,zZ,if_pos rfl,zay (by omega)]
 ·refine z8 (z6b g _ _) ?_;rw[hc,h0,zZ,if_pos rfl,zay (by omega)]
 ·rw[hc,zZ,if_neg h0]
theorem z90(g:Sh.Glob):∀(n:Nat) (x y:V),SizeOf.sizeOf x≤n→VSmall x→zC g 79 [tv x,tv y] [] (I (cmpV x y)) []
 |0,x,y,h,_=>by cases x;simp at h
 |n+1,x,y,h,hx=>by
  have H:∀(i:Nat) a b,x.l[i]?=some a→y.l[i]?=some b→zC g 79 [tv a,tv b] [] (I (cmpV a b)) []:=fun i a b ha hb=>z90 g n a b (by
   have hm:=gM ha;have:=List.sizeOf_lt_of_mem hm;cases x;simp[V.l]at h this ⊢;omega) (hx.sub (gM ha))
  have HL:=zql g x y hx H;refine z7v zk tf_130 rfl ?_;rw[z4O];by_cases h1:z1i x.k y.k=0
  ·rw[h1,zZ,if_pos rfl];simp only[vW,seval];refine z7 (z6b g _ _) ?_;simp only[vW,seval,h1];refine z7 (z6b g _ _) ?_;by_cases h2:z1i x.n y.n=0
   ·rw[h2,zZ,if_pos rfl];cases hb:Op.bytesLess x.s y.s
    ·by_cases he:x.s=y.s
     ·have e:z2t x.s y.s=0:=by rw[z2t,hb];simp[he]
      have he':(x.s==y.s)=true:=by simp[he]
      rw[e];simp only[vW,seval,h2,hb,he'];exact HL 0
     ·have e:z2t x.s y.s=1:=by simp[z2t,hb,he]
      have he':(x.s==y.s)=false:=by simp[he]
      rw[e];simp only[vW,seval,h2,hb,he'];exact HL 1
    ·have e:z2t x.s y.s= -1:=by simp[z2t,hb]
     rw[e];simp only[vW,seval,h2,hb];exact HL (-1)
   ·rw[show zZ (z1i x.n y.n) (zZ (z2t x.s y.s) (z0P x.l y.l))=zZ (z1i x.n y.n) (z0P x.l y.l) by simp[zZ,h2]];simp only[vW,seval,h2];exact HL _
  ·rw[show zZ (z1i x.k y.k) (zZ (z1i x.n y.n) (zZ (z2t x.s y.s) (z0P x.l y.l)))=zZ (z1i x.k y.k) (z0P x.l y.l) by simp[zZ,h1]];simp only[vW,seval];refine z7 (z6b g _ _) ?_;simp only[vW,seval,h1];exact HL _
theorem ze7(g:Sh.Glob)(x y:V)(hx:VSmall x):zC g 79 [tv x,tv y] [] (I (cmpV x y)) []:=z90 g _ x y (Nat.le_refl _) hx
theorem zjt(g:Sh.Glob)(x y:V)(hx:VSmall x):zC g 40 [tv x,tv y] [] (.pv (.v (.bool (decide (cmpV x y=0))))) []:=by
 refine z0w tf_134 ?_;exact zd (ze7 g x y hx)
end
end Go.Proofs.YtbkgnekfigknhaaGreatDoor
end
