/- Merged texts: Ze5 Ze10 Ze11 PSign Sy1 Px5. No statement of the program is proved here. -/
import Derived.Test.YtbkgnekfigknhaaGreatDoorR17
set_option linter.unusedSimpArgs false
set_option linter.unusedVariables false
set_option maxRecDepth 100000
set_option maxHeartbeats 8000000
section
namespace Go.Proofs.YtbkgnekfigknhaaGreatDoor
open Go Go.RowKit Go.Mor Go.Sh Go.Sh.Cd1 Go.Sh.Cd4 Go.Sh.Cd5
def p0T(r:Option (Pc×Nat)):TV:=match r with
 |some (q,z)=> .tuple [.agg [I q.k,I q.n,S (str q.s),I 0],I (z:Int)]
 |none=> .tuple [.agg [I 0,I 0,S (str []),I 0],I 0]
def znA(l:zB):Option (Pc×Nat):=if 1000000000000000<(z0v l 0 0).1 then none else some (⟨1,(z0v l 0 0).1,[],0⟩,(z0v l 0 0).2)
theorem ze6(g:Sh.Glob)(l:zB)(hl:l.length<4611686018427387904):zC g 247 [S (str l)] [] (p0T (znA l)) []:=by
 unfold znA;generalize hR:z0v l 0 0=R;refine z0w tf_102 ?_;refine zp (σ:={ q:Int×Nat // 0≤q.1∧q.1≤1000000000000001∧q.2≤l.length∧z0v (l.drop q.2) q.1 q.2=R })
  (fun q=>⟨[(0,S (str l)),(2,.ptr 2 0),(4,I q.1.1),(5,I (q.1.2:Int))],[(2,[I 0,I 0,S ⟨#[]⟩,I 0])],[],[]⟩) (fun q=>l.length-q.1.2) ⟨(0,0),by decide,by decide,Nat.zero_le _,hR⟩ ?_ ?_
 ·exact lwA
 rintro⟨⟨n,z⟩,h0,h1,hz,hd⟩;simp only at h0 h1 hz hd;by_cases hk:z<l.length
 ·have d1:(z:Int)<(l.length:Int):=by omega
  obtain⟨c,ec⟩:∃c,l[z]?=some c:=⟨_,gE hk⟩
  rw[z22 ec,z0v]at hd;have hc:=c.toNat_lt;by_cases q1:48≤c.toNat
  ·have d2:(48:Int)≤(c.toNat:Int):=by omega
   by_cases q2:c.toNat≤57
   ·have d3:(c.toNat:Int)≤57:=by omega
    rw[if_pos (by unfold z0Q;simp[q1,q2])]at hd;have w0:IntKind.i64.wrap (10*n)=10*n:=wrap64 (by omega) (by omega);have w1:IntKind.u8.wrap ((c.toNat:Int) - 48)=(c.toNat:Int) - 48:=by rw[IntKind.wrap_u8];omega
    have w2:IntKind.i64.wrap ((c.toNat:Int) - 48)=(c.toNat:Int) - 48:=wrap64 (by omega) (by omega);have w3:IntKind.i64.wrap (10*n+((c.toNat:Int) - 48))=10*n+((c.toNat:Int) - 48):=wrap64 (by omega) (by omega);have w4:=wS z;simp only[vW,seval,d1,d2,d3,ec,w0,w1,w2,w3,w4];refine zc ⟨(min (10*n+((c.toNat:Int) - 48)) 1000000000000001,z+1),by omega,by omega,hk,hd⟩ (by show l.length-(z+1)<l.length-z;omega) ?_;exact lwA
   ·have d3:¬(c.toNat:Int)≤57:=by omega
    rw[if_neg (by unfold z0Q;simp[q2])]at hd;subst hd;by_cases hn:1000000000000000<n
    ·simp only[vW,seval,d1,d2,d3,ec,hn,p0T];rfl
    ·simp only[vW,seval,d1,d2,d3,ec,hn,p0T];rfl
  ·have d2:¬(48:Int)≤(c.toNat:Int):=by omega
   rw[if_neg (by unfold z0Q;simp[q1])]at hd;subst hd;by_cases hn:1000000000000000<n
   ·simp only[vW,seval,d1,d2,ec,hn,p0T];rfl
   ·simp only[vW,seval,d1,d2,ec,hn,p0T];rfl
 ·have d1:¬(z:Int)<(l.length:Int):=by omega
  rw[List.drop_eq_nil_of_le (by omega),z0v]at hd;subst hd;by_cases hn:1000000000000000<n
  ·simp only[vW,seval,d1,hn,p0T];rfl
  ·simp only[vW,seval,d1,hn,p0T];rfl
theorem z8b(g:Sh.Glob)(l:zB)(hl:l.length<4611686018427387904):zC g 198 [S (str l)] [] (B (zb l)) []:=by
 refine za tf_104 ?_;have HR:=zcl g l hl;unfold B at*;simp only[vW,seval];exact zd HR
theorem z8c(m:Nat)(l:zB)(hl:l.length<4611686018427387904):zC (gl0 m) 197 [S (str l)] [] (B (zi l)) []:=by
 refine za tf_105 ?_;have HR:=zbZ m (.mk 2 0 l []) ⟨by unfold z1w V.s;simp only;omega,by simp[V.l]⟩;have hk:z1f (.mk 2 0 l [])=zi l:=by unfold z1f z15;simp[V.k,V.n,V.l,V.s]
 rw[hk]at HR;have HR:=HR.inp (xs:=[nv (.mk 2 0 l [])]) rfl (fun j c d hc hd=>by
  match j with
  |0=>simp at hc hd;subst hc;subst hd;exact z1q rfl
  |j+1=>simp at hc)
 unfold B nv at*;simp only[vW,seval];exact zd HR
inductive ESmall:V→Prop where
 |mk {k n:Int} {s:zB} {l:List V} (h:l.length<4611686018427387904) (ht:s.length<4611686018427387904) (hs:∀y∈l,ESmall y):ESmall (.mk k n s l)
theorem ESmall.len{x:V}(h:ESmall x):x.l.length<4611686018427387904:=by cases h;assumption
theorem ESmall.txt{x:V}(h:ESmall x):x.s.length<4611686018427387904:=by cases h;assumption
theorem ESmall.sub{x y:V}(h:ESmall x)(hy:y∈x.l):ESmall y:=by cases h with|mk _ _ hs=>exact hs y hy
theorem zqP(s t:zB):(s==t)=decide (s=t):=by rw[Bool.eq_iff_iff];simp
theorem zq4(m:Nat)(e:V)(he:ESmall e)(n:Int):zC (gl0 m) 162 [.ptr 1000 0,tv e] [.box [z0u,I n]] (B (z0p e)) [.box [z0u,I n]]:=by
 refine zo tf_20 ?_;have HT:=z8c m e.s he.txt;have HN:=z8b (gl0 m) e.s he.txt;have HK:=zb3 (gl0 m) e.s;have e0:=bS [];have hlen0:decide ((e.l.length:Int)=0)=(e.l.length==0):=by rw[Bool.eq_iff_iff];simp
 have hlen1:decide ((e.l.length:Int)=1)=(e.l.length==1):=by rw[Bool.eq_iff_iff];simp;omega
 have hlen2:decide ((e.l.length:Int)=2)=(e.l.length==2):=by rw[Bool.eq_iff_iff];simp;omega
 have e45:=bS [45];unfold B at*;unfold z0p;by_cases k1:e.k=1
 ·rw[if_neg (by simp[k1]),if_pos k1];simp only[vW,seval,bmV,k1,e0,zqP]
  repeat' (first|(apply And.intro)|(intro _))
  all_goals(first|(simp_all;done)|(simp only[Option.some.injEq,Prod.mk.injEq,TV.pv.injEq,PV.v.injEq,Value.bool.injEq];rw[Bool.eq_iff_iff];simp_all<;>omega))
 by_cases n0:e.n=0
 ·rw[if_neg (by simp[n0]),if_neg k1];by_cases k2:e.k=2
  ·rw[if_pos k2];simp only[vW,seval,bmV,k2,n0];refine z7 HT ?_;cases zi e.s
   ·simp only[vW,seval,bmV]
   ·simp only[vW,seval,bmV,hlen0,Bool.true_and]
  rw[if_neg k2];by_cases k3:e.k=3
  ·rw[if_pos k3];simp only[vW,seval,bmV,k3,n0];refine z7 HN ?_;cases zb e.s
   ·simp only[vW,seval,bmV]
   ·simp only[vW,seval,bmV,hlen0,Bool.true_and]
  rw[if_neg k3];by_cases k4:e.k=4
  ·rw[if_pos k4];simp only[vW,seval,bmV,k4,n0];refine⟨fun h=> ?_,fun h=> ?_⟩
   ·rw[decide_eq_true h,hlen2,Bool.true_and]
   ·rw[decide_eq_false h,Bool.false_and]
  rw[if_neg k4];by_cases k5:e.k=5
  ·rw[if_pos k5];simp only[vW,seval,bmV,k5,n0,e45];cases e.s==[45]
   ·simp only[vW,seval,bmV]
   ·simp only[vW,seval,bmV,hlen1,Bool.true_and]
  rw[if_neg k5];by_cases k6:e.k=6
  ·rw[if_pos k6];simp only[vW,seval,bmV,k6,n0];refine z7 HK ?_;simp only[vW,seval,bmV];refine⟨fun h=> ?_,fun h=> ?_⟩
   ·refine z7 HK ?_;simp only[vW,seval,bmV,h]
   ·rw[decide_eq_false h,Bool.false_and]
  ·rw[if_neg k6];simp only[vW,seval,bmV,k1,k2,k3,k4,k5,k6,n0]
 ·rw[if_pos ⟨k1,n0⟩];simp only[vW,seval,bmV,k1,n0]
def rtL(r:V→Nat→Bool×Nat):List V→Nat→Bool×Nat
 |[],n=>(true,n)
 |x::l,n=>match r x n with
  |(true,n')=>rtL r l n'
  |(false,n')=>(false,n')
def rt:Nat→V→Nat→Bool×Nat
 |0,_,n=>(false,n+1)
 |d+1,e,n=>if n+1≤40∧z0p e=true then rtL (rt d) e.l (n+1)else(false,n+1)
theorem zrQ{d:Nat}(ih:∀(e:V) (n:Nat),n≤40→((rt d e n).1=(okE d e&&decide (n+szE d e≤40))∧((rt d e n).1=true→(rt d e n).2=n+szE d e))):
  ∀(l:List V) (n:Nat),n≤40→((rtL (rt d) l n).1=(l.all (okE d)&&decide (n+(l.map (szE d)).sum≤40))∧((rtL (rt d) l n).1=true→(rtL (rt d) l n).2=n+(l.map (szE d)).sum)):=by
 intro l
 induction l with
 |nil=>intro n hn;simp[rtL,hn]
 |cons x l il=>
  intro n hn;have hx:=ih x n hn;unfold rtL;rcases hr:rt d x n with⟨b,n'⟩
  rw[hr]at hx;simp only at hx;cases b
  ·simp only[List.all_cons,List.map_cons,List.sum_cons];refine⟨?_,fun h=>by simp at h⟩;have h1:=hx.1;cases ho:okE d x
   ·simp
   ·rw[ho,Bool.true_and]at h1;have h2:¬n+szE d x≤40:=by intro h;rw[decide_eq_true h]at h1;exact absurd h1 (by simp)
    rw[decide_eq_false (by omega)];simp
  ·have h1:=hx.1;have h2:=hx.2 rfl;cases ho:okE d x
   ·rw[ho]at h1;simp at h1
   rw[ho,Bool.true_and]at h1;have h3:n+szE d x≤40:=of_decide_eq_true h1.symm;subst h2;have:=il (n+szE d x) h3;simp only[List.all_cons,List.map_cons,List.sum_cons,ho,Bool.true_and];rw[←Nat.add_assoc];exact this
theorem zpa:∀(d:Nat) (e:V) (n:Nat),n≤40→((rt d e n).1=(okE d e&&decide (n+szE d e≤40))∧((rt d e n).1=true→(rt d e n).2=n+szE d e)):=by
 intro d
 induction d with
 |zero=>intro e n hn;simp[rt,okE]
 |succ d ih=>
  intro e n hn;unfold rt okE szE;by_cases h1:n+1≤40
  ·cases h2:z0p e
   ·simp
   ·rw[if_pos ⟨h1,rfl⟩];have:=zrQ ih e.l (n+1) h1;rw[Nat.add_assoc]at this;simpa using this
  ·rw[if_neg (by omega),decide_eq_false (by omega)];simp
theorem zo1(e:V):(rt 8 e 0).1=z0b e:=by
 have:=(zpa 8 e 0 (by omega)).1;rw[Nat.zero_add]at this;exact this
theorem znZ(m:Nat):∀(d:Nat),d≤8→∀(e:V),ESmall e→∀(n:Nat),n≤40→
  zC (gl0 m) 90 [.ptr 1000 0,tv e,I (9-(d:Int))] [.box [z0u,I (n:Int)]] (B (rt d e n).1) [.box [z0u,I ((rt d e n).2:Int)]]:=by
 intro d
 induction d with
 |zero=>
  intro _ e he n hn;refine zo tf_21 ?_;have w1:=wS n;unfold rt B;simp only[vW,seval,bmV,w1]
 |succ d ih=>
  intro hd e he n hn;refine zo tf_21 ?_;have w1:=wS n;have w2:IntKind.i64.wrap (9-((d+1:Nat):Int)+1)=9-(d:Int):=wG;have d1:¬(8:Int)<9-((d+1:Nat):Int):=by omega
  have HN:=zq4 m e he ((n+1:Nat):Int);have HD:=fun e he n hn=>ih (by omega) e he n hn;have hl:=he.len;unfold B at*;generalize hR:rt (d+1) e n=R;unfold rt at hR;by_cases d2:(40:Int)<((n+1:Nat):Int)
  ·rw[if_neg (by omega)]at hR;subst hR;simp only[vW,seval,bmV,w1,d1,d2]
  simp only[vW,seval,bmV,w1,d1,d2];refine zt HN ?_;cases hN:z0p e
  ·rw[if_neg (by simp[hN])]at hR;subst hR;simp only[vW,seval,bmV]
  rw[if_pos ⟨by omega,hN⟩]at hR;simp only[vW,seval,bmV];refine zp (σ:={x:Nat×Nat // x.1≤e.l.length∧x.2≤40∧rtL (rt d) (e.l.drop x.1) x.2=R})
   (fun x=>⟨[(0,.ptr 1000 0),(2,I (9-((d+1:Nat):Int))),(32,.pv (.sl 4 (V.rows e.l))),(33,I (e.l.length:Int)),(34,I (x.1.1:Int))],[(1000,[z0u,I (x.1.2:Int)])],[],[]⟩)
   (fun x=>e.l.length-x.1.1) ⟨(0,n+1),by omega,by omega,by simpa using hR⟩ ?_ ?_
  ·exact lwA
  rintro⟨⟨i,n⟩,hi,hn,hq⟩;simp only at hi hn hq;by_cases hlt:i<e.l.length
  ·have d1:(i:Int)<(e.l.length:Int):=by omega
   obtain⟨y,ey⟩:∃y,e.l[i]?=some y:=⟨_,gE hlt⟩
   have HY:=HD y (he.sub (gM ey)) n hn;have w1:=wS i;have hdr:e.l.drop i=y::e.l.drop (i+1):=by rw[List.drop_eq_getElem_cons hlt];congr 1;exact(gJ ey).2
   rw[hdr]at hq;unfold rtL at hq;have hle:=(zpa d y n hn)
   rcases hr:rt d y n with⟨b,n'⟩
   rw[hr]at hq HY hle;simp only at hq HY hle;simp only[vW,seval,bmV,d1,ey,w2];refine zt HY ?_;cases b
   ·simp only at hq;subst hq;simp only[vW,seval,bmV]
   ·simp only at hq;have h3:n'≤40:=by
     have h4:=hle.1;have h5:=hle.2 rfl;rw[eq_comm,Bool.and_eq_true]at h4;have:=of_decide_eq_true h4.2;omega
    simp only[vW,seval,bmV,w1];refine zc ⟨(i+1,n'),by simp only;omega,h3,hq⟩ (by show e.l.length-(i+1)<e.l.length-i;omega) ?_;exact lwA
  ·have d1:¬(i:Int)<(e.l.length:Int):=by omega
   obtain rfl:i=e.l.length:=by omega
   rw[List.drop_length]at hq;unfold rtL at hq;subst hq;simp only[vW,seval,bmV,d1]
theorem z4s(m:Nat)(e:V)(he:ESmall e):zC (gl0 m) 51 [tv e] [] (B (z0b e)) []:=by
 have HB:=z6P (gl0 m);have HR:=znZ m 8 (by omega) e he 0 (by omega);rw[zo1]at HR;unfold B at*;refine za tf_96 ?_;simp only[vW,seval,bmV];refine z05 HB ?_;exact z3i HR
end Go.Proofs.YtbkgnekfigknhaaGreatDoor
end

section
namespace Go.Mor
open Go
def z03(n b0 b1 b2 b3:Nat):Nat:=
 if b0<128 then 1
 else if 194≤b0∧b0≤223 then(if n<2∨b1<128∨191<b1 then 0 else 2)
 else if 224≤b0∧b0≤239 then(if n<3∨b1<(if b0=224 then 160 else 128)∨(if b0=237 then 159 else 191)<b1∨b2<128∨191<b2 then 0 else 3)
 else if 240≤b0∧b0≤244 then(if n<4∨b1<(if b0=240 then 144 else 128)∨(if b0=244 then 143 else 191)<b1∨b2<128∨191<b2∨b3<128∨191<b3 then 0 else 4)
 else 0
def z2x(l:zB):Nat:=if l=[] then 0 else z03 l.length (l.getD 0 0).toNat (l.getD 1 0).toNat (l.getD 2 0).toNat (l.getD 3 0).toNat
theorem zg9(n b0 b1 b2 b3:Nat)(h0:b0<256)(h1:b1<256)(h2:b2<256)(h3:b3<256):
  z03 n b0 b1 b2 b3=if(Lib.decodeN n b0 b1 b2 b3).1=65533∧(Lib.decodeN n b0 b1 b2 b3).2=1 then 0 else(Lib.decodeN n b0 b1 b2 b3).2:=by
 unfold z03 Lib.decodeN
 repeat' split
 all_goals(simp_all<;>omega)
end Go.Mor
end

section
namespace Go.Proofs.YtbkgnekfigknhaaGreatDoor
open Go Go.RowKit Go.Mor Go.Sh Go.Sh.Cd1
theorem z6b(g:Sh.Glob)(a b:Int):zC g 134 [I a,I b] [] (I (z1i a b)) []:=by
 refine za tf_132 ?_;unfold z1i;by_cases h1:a<b
 ·simp only[vW,seval,h1]
 ·by_cases h2:b<a
  ·simp only[vW,seval,h1,h2]
  ·simp only[vW,seval,h1,h2]
end Go.Proofs.YtbkgnekfigknhaaGreatDoor
end

section
namespace Go.Mor
open Go
def arT:Nat→zB→zB
 |0,t=>t
 |n+1,t=>32::40::(arT n t++[32,41])
def arK:Nat→List T3→List T3
 |0,t=>t
 |n+1,t=>sg [40]::(arK n t++[sg [41]])
theorem zkV{t:zB}{ts:List T3}(h:∀post,StopT post→LexP t ts post):∀(n:Nat) (post:zB),StopT post→LexP (arT n t) (arK n ts) post
 |0,post,hp=>h post hp
 |n+1,post,hp=>by
  have q1:=LexP.blank ([40]++(arT n t++([32]++([41]++post))));have q2:=z2O (b:=40) (by simp) (arT n t++([32]++([41]++post)));have q3:=zkV h n ([32]++([41]++post)) (zlO _);have q4:=LexP.blank ([41]++post);have q5:=z2O (b:=41) (by simp) post;have r4:=LexP.app q4 q5;have r3:=LexP.app (t2:=[32]++[41]) (by simpa using q3) r4;have r2:=LexP.app (t2:=arT n t++([32]++[41])) (by simpa using q2) r3;have r1:=LexP.app (t2:=[40]++(arT n t++([32]++[41]))) (by simpa using q1) r2
  grind [arT,arK]
theorem zfJ{d:Nat}{e:V}(he:okE d e=true)(L:List Pc)(sz:Nat):∀(n p:Nat) (post:List T3),(L.drop p).map er=arK n (z0H d e)++post→NP post→z5I 1 post→
  ∃F,∀f,F≤f→pE L sz f 1 p=some (.ok e (p+(arK n (z0H d e)).length))
 |0,p,post,h,hnp,hst=>by
  obtain⟨_,_,_,hd⟩:=zbP d;obtain⟨F,hF⟩:=hd e he 1 L sz p post (by rw[z7h he];exact h) hnp hst;rw[z7h he]at hF;exact⟨F,hF⟩
 |n+1,p,post,h,hnp,hst=>by
  unfold arK at h ⊢;rw[List.cons_append]at h;obtain⟨h1,h2⟩:=z1B (sz:=sz) h;rw[List.append_assoc,List.singleton_append]at h2;obtain⟨F,hF⟩:=zfJ he L sz n (p+1) (sg [41]::post) h2 (z7Q (by decide) _) (z3w (by decide) _);have h3:=z4P h2;obtain⟨h4,h5⟩:=z1B (sz:=sz) h3;have hlen:p+(sg [40]::(arK n (z0H d e)++[sg [41]])).length=p+1+(arK n (z0H d e)).length+1:=by
   grind
  refine⟨F+2,fun f hf=> ?_⟩;obtain⟨g,rfl⟩:∃g,f=g+1+1:=⟨f-2,by omega⟩
  rw[pE,pT,z10 h1,show((sg [40]).1==4&&(sg [40]).2.2==[40])=true from rfl,if_pos rfl,hF g (by omega)];simp only;rw[z10 h4,show((sg [41]).1==4&&(sg [41]).2.2==[41])=true from rfl,if_pos rfl];simp only;rw[zcG h5 hst g,hlen]
theorem zkW{t:zB}{ts:List T3}(h:LexP t ts []):∃L,L.map er=ts∧lexG (t.length+1) t 0 []=some (.ok L):=by
 obtain⟨f',L,h1,h2,h3⟩:=h (t.length+1) 0 [] (by simp);obtain⟨g,rfl⟩:∃g,f'=g+1:=⟨f'-1,by simp at h1;omega⟩
 grind [lexG]
theorem ziY{e:V}(he:okE 8 e=true)(n:Nat):∃L F,lexG ((arT n (zy 8 e)).length+1) (arT n (zy 8 e)) 0 []=some (.ok L)∧∀f sz,F≤f→pE L sz f 1 0=some (.ok e L.length)∨sz≠(arT n (zy 8 e)).length:=by
 obtain⟨L,h1,h2⟩:=zkW (zkV (fun post hp=>zfp 8 e he post hp) n [] zsY);obtain⟨F,hF⟩:=zfJ he L (arT n (zy 8 e)).length n 0 [] (by grind) zrB (zlQ _);refine⟨L,F,h2,fun f sz hf=> ?_⟩
 grind
theorem zfK{e:V}(hr:z0b e=true)(n:Nat)(hl:(arT n (zy 8 e)).length≤200):∃f,z14 f (arT n (zy 8 e))=some (e,0,0):=by
 have he:okE 8 e=true:=by unfold z0b at hr;rw[Bool.and_eq_true]at hr;exact hr.1
 obtain⟨L,F,h1,h2⟩:=ziY he n;refine⟨F,?_⟩;unfold z14
 grind
theorem zls{l:zB}{p:Nat}{q:Pc}{z:Nat}(h:z08 l p=some (q,z)):q.s.length≤60:=by
 have hq:∀(r acc:zB) (k:Nat) (t:zB) (z:Nat),quoG r acc k=some (t,z)→t.length≤60:=by
  intro r
  induction r using(measure List.length).wf.induction with
  |_ r ih=>
   intro acc k t z h;cases r with
   |nil=>simp[quoG]at h
   |cons b r=>
    unfold quoG at h;split at h
    ·grind [zi]
    ·split at h
     ·split at h
      ·cases h
      ·rename_i c r';split at h
       ·exact ih r' (show r'.length<_ by simp;omega) _ _ _ _ h
       ·cases h
     ·exact ih r (show r.length<_ by simp) _ _ _ _ h
 cases l with
 |nil=>simp[z08]at h
 |cons b r=>
  unfold z08 at h
  grind [zb,z18]
theorem z3L:∀(f:Nat) (l:zB) (a:Nat) (acc L:List Pc),(∀q∈acc,q.s.length≤60)→lexG f l a acc=some (.ok L)→(∀q∈L,q.s.length≤60)∧L.length≤acc.length+f
 |0,l,a,acc,L,_,h=>by simp[lexG]at h
 |f+1,l,a,acc,L,ha,h=>by
  unfold lexG at h;split at h
  ·cases h;exact⟨ha,by omega⟩
  ·split at h
   ·have:=z3L f _ _ _ _ ha h;exact⟨this.1,by omega⟩
   ·split at h
    ·cases h
    ·rename_i q z hq;have:=z3L f _ _ _ _ (fun x hx=>by
      rcases List.mem_append.1 hx with hx|hx
      ·exact ha x hx
      ·rw[List.mem_singleton]at hx;subst hx;exact zls hq) h
     exact⟨this.1,by have:=this.2;simp at this;omega⟩
theorem zbQ{L:List Pc}(h:∀q∈L,q.s.length≤60)(sz p:Nat):(pkP L sz p).s.length≤60:=by
 grind [pkP,List.mem_of_getElem?]
theorem z62(s:zB):0≤zm s∧zm s≤3:=by
 grind [zm]
end Go.Mor
end
