/- Merged texts: Ze4 Ze5 Ze10 Px5 Ze11. No statement of the program is proved here. -/
import Derived.Test.YtpmlapgbmgbilaaGreatDoorR17
set_option linter.unusedSimpArgs false
set_option linter.unusedVariables false
set_option maxRecDepth 100000
set_option maxHeartbeats 8000000
section
namespace Go.Proofs.YtpmlapgbmgbilaaGreatDoor
open Go Go.RowKit Go.Mor Go.Sh Go.Sh.Cd1 Go.Sh.Cd5
section
section
variable(g:Sh.Glob)(L:List Pc)(sz:Nat)
def EOk(f:Nat):Prop:=∀(zu:Int) (p:Nat) (e:V) (p':Nat),0≤zu→zu≤5→p≤L.length→pE L sz f zu p=some (.ok e p')→zC g 168 [.ptr 1000 0,I zu] [.box (pB L p sz)] (tv e) [.box (pB L p' sz)]
def zaz(f:Nat):Prop:=∀(zu:Int) (p a p':Nat),0≤zu→zu≤5→p≤L.length→pE L sz f zu p=some (.bad a p')→z8o Tryz.prog g 168 [.ptr 1000 0,I zu] [.box (pB L p sz)] (zX a) [.box (pB L p' sz)]
def TOk(f:Nat):Prop:=∀(p:Nat) (e:V) (p':Nat),p≤L.length→pT L sz f p=some (.ok e p')→zC g 211 [.ptr 1000 0] [.box (pB L p sz)] (tv e) [.box (pB L p' sz)]
def zcx(f:Nat):Prop:=∀(p a p':Nat),p≤L.length→pT L sz f p=some (.bad a p')→z8o Tryz.prog g 211 [.ptr 1000 0] [.box (pB L p sz)] (zX a) [.box (pB L p' sz)]
theorem z5M{q:Pc}{p:Nat}(h:pkP L sz p=q)(hk:q.k≠0):p<L.length:=by
 rcases Nat.lt_or_ge p L.length with h1|h1
 ·exact h1
 ·rw[pkP,List.getElem?_eq_none h1]at h;subst h;exact absurd rfl hk
theorem z1t{p:Nat}{t:zB}(h:z01 (pkP L sz p) t=true):p<L.length:=by
 refine z5M L sz rfl ?_;unfold z01 at h;simp only[Bool.and_eq_true,beq_iff_eq]at h;rw[h.1];decide
theorem zdc(s:zB):0≤zM s∧zM s≤4:=by
 unfold zM
 repeat' split
 all_goals omega
theorem zdP(s:zB):0≤zt s∧zt s≤3:=by
 unfold zt
 repeat' split
 all_goals omega
theorem z69:∀f,(∀zu p e p',p≤L.length→pE L sz f zu p=some (.ok e p')→p'≤L.length)∧(∀zu e0 p e p',p≤L.length→pL L sz f zu e0 p=some (.ok e p')→p'≤L.length)∧
  (∀p e p',p≤L.length→pT L sz f p=some (.ok e p')→p'≤L.length)∧(∀n k p acc l p',p≤L.length→pH L sz f n k p acc=some (.ok l p')→p'≤L.length)
 |0=>⟨fun _ _ _ _ _ h=>by simp[pE]at h,fun _ _ _ _ _ _ h=>by simp[pL]at h,fun _ _ _ _ h=>by simp[pT]at h,fun _ _ _ _ _ _ _ h=>by simp[pH]at h⟩
 |f+1=>by
  obtain⟨h1,h2,h3,h4⟩:=z69 f;refine⟨fun zu p e p' hp h=> ?_,fun zu e0 p e p' hp h=> ?_,fun p e p' hp h=> ?_,fun n k p acc l p' hp h=> ?_⟩
  ·rw[pE]at h;split at h
   ·rename_i e1 p1 ht;exact h2 _ _ _ _ _ (h3 _ _ _ hp ht) h
   ·cases h
   ·cases h
  ·rw[pL]at h;split at h
   ·cases h;exact hp
   ·rename_i hk;rw[not_or]at hk;have hlt:=z5M L sz (p:=p) rfl (by have:=hk.1;simp only[ne_eq,Decidable.not_not]at this;rw[this];decide);split at h
    ·rename_i e2 p2 he;exact h2 _ _ _ _ _ (h1 _ _ _ _ hlt he) h
    ·cases h
    ·cases h
  ·rw[pT]at h;split at h
   ·rename_i hs;have hlt:=z1t L sz hs;split at h
    ·rename_i e1 p1 he;split at h
     ·rename_i hs2;cases h;exact z1t L sz hs2
     ·cases h
    ·cases h
    ·cases h
   split at h
   ·rename_i hs;have hlt:=z1t L sz hs;split at h
    ·rename_i e1 p1 he;cases h;exact h3 _ _ _ hlt he
    ·cases h
    ·cases h
   split at h
   ·rename_i hk;cases h;exact z5M L sz rfl (by rw[hk];decide)
   split at h
   ·rename_i hk;cases h;exact z5M L sz rfl (by rw[hk];decide)
   split at h
   ·rename_i hk;have hlt:=z5M L sz (p:=p) rfl (by rw[hk];decide);split at h
    ·rename_i ht;have hlt2:=z1t L sz ht.2;split at h
     ·rename_i l p1 he;cases h;exact h4 _ _ _ _ _ _ hlt2 he
     ·cases h
     ·cases h
    ·cases h;exact hlt
   ·cases h
  ·rw[pH]at h;split at h
   ·split at h
    ·cases h
    ·rename_i hk hs;have hp2:(if 0<k then p+1 else p)≤L.length:=by
      split
      ·rename_i h0;refine z1t L sz (t:=[44]) ?_;cases hh:z01 (pkP L sz p) [44]with
       |true=>rfl
       |false=>exact absurd ⟨h0,hh⟩ hs
      ·exact hp
     split at h
     ·rename_i e1 p1 he;exact h4 _ _ _ _ _ _ (h1 _ _ _ _ hp2 he) h
     ·cases h
     ·cases h
   ·split at h
    ·rename_i hs;cases h;exact z1t L sz hs
    ·cases h
variable{g L sz}
theorem ziX{f:Nat}(hL:L.length≤4611686018427387904)(ih:∀f',f'<f→EOk g L sz f'∧zaz g L sz f'∧TOk g L sz f'∧zcx g L sz f'):EOk g L sz f:=by
 intro zu p e p' h0 h5 hp h;cases f with
 |zero=>simp[pE]at h
 |succ f=>
 rw[pE]at h;cases ht:pT L sz f p with
 |none=>rw[ht]at h;cases h
 |some r=>
 cases r with
 |bad a q=>rw[ht]at h;cases h
 |ok e1 p1=>
 rw[ht]at h;simp only at h;have HT:=(ih f (Nat.lt_succ_self f)).2.2.1 p e1 p1 hp ht;have hp1:=(z69 L sz f).2.2.1 p e1 p1 hp ht;refine zj tf_26 ?_;have hml:L.length≤maxLen:=by unfold maxLen;omega
 unfold pB pcs at HT ⊢;simp only[vW,seval,bmV];(with_reducible apply z3d);simp only[vW,seval,bmV];refine z07 HT ?_;refine zk (σ:={x:Nat×V×Nat // x.1≤f∧x.2.2≤L.length∧pL L sz x.1 zu x.2.1 x.2.2=some (.ok e p')})
  (fun x=>⟨[(0,.ptr 1000 0),(1,I zu),(4,.ptr 4 0),(5,.ptr 5 0)],[(1000,[.pv (.sl 4 (L.map pcR)),I (x.1.2.2:Int),I (sz:Int),z0M]),(4,[I 0,I 0,S ⟨#[]⟩,.pv (.v (.slice none 0 0))]),
   (5,[I x.1.2.1.k,I x.1.2.1.n,S (str x.1.2.1.s),.pv (.sl 4 (V.rows x.1.2.1.l))])],[],[]⟩) (fun x=>x.1.1) ⟨(f,e1,p1),Nat.le_refl _,hp1,h⟩ (z18 rfl) ?_
 rintro⟨⟨f1,e2,p2⟩,hf1,hp2,hl⟩;simp only at hf1 hp2 hl;cases f1 with
 |zero=>simp[pL]at hl
 |succ f1=>
 have HP:=z55 g L p2 sz hml;rw[pL]at hl;generalize hq:pkP L sz p2=q at HP hl;obtain⟨b0,b4⟩:=zdc q.s;unfold pB pcs pcT at HP;simp only[vW,seval,bmV];refine zK HP ?_;by_cases hk:q.k=4
 ·by_cases hb:zM q.s<zu
  ·rw[if_pos (.inr hb)]at hl;cases hl;simp only[vW,seval,bmV,hk,hb]
  ·rw[if_neg (by rw[not_or];exact⟨by simpa using hk,hb⟩)]at hl;have hlt:=z5M L sz hq (by rw[hk];decide);cases he:pE L sz f1 (zM q.s+1) (p2+1)with
   |none=>rw[he]at hl;cases hl
   |some r=>
   cases r with
   |bad a q'=>rw[he]at hl;cases hl
   |ok e3 p3=>
   rw[he]at hl;simp only at hl;have HE:=(ih f1 (by omega)).1 (zM q.s+1) (p2+1) e3 p3 (by omega) (by omega) hlt he;have hp3:=(z69 L sz f1).1 _ _ _ _ hlt he;have w1:=wS p2;have w2:IntKind.i64.wrap (zM q.s+1)=zM q.s+1:=wrap64 (by omega) (by omega);unfold pB pcs at HE;simp only[vW,seval,bmV,hk,hb,w1];(with_reducible apply z3d);simp only[vW,seval,bmV,w2];(with_reducible apply zF);simp only[vW,seval,bmV,w2];rfl;rfl;exact HE;exact km;simp only[vW,seval,bmV,w2];rfl;simp only[vW,seval,bmV];refine zc ⟨(f1,.mk 4 0 q.s [e2,e3],p3),by omega,hp3,hl⟩ (Nat.lt_succ_self f1) ?_;apply z0e<;>simp[leL,lk,sv,Nat.beq,I,S,ES.kill,has,drp,zn,bmV]
   exact⟨rfl,rfl,rfl,by rw[Vl,show V.rows [e2,e3]=[V.row e2,V.row e3] from rfl,z2l,z2l]⟩
 ·rw[if_pos (.inl hk)]at hl;cases hl;simp only[vW,seval,bmV,hk]
theorem zgO{f:Nat}(hL:L.length≤4611686018427387904)(ih:∀f',f'<f→EOk g L sz f'∧zaz g L sz f'∧TOk g L sz f'∧zcx g L sz f'):zaz g L sz f:=by
 intro zu p a p' h0 h5 hp h;cases f with
 |zero=>simp[pE]at h
 |succ f=>
 have hml:L.length≤maxLen:=by unfold maxLen;omega
 rw[pE]at h;cases ht:pT L sz f p with
 |none=>rw[ht]at h;cases h
 |some r=>
 cases r with
 |bad a q=>
  rw[ht]at h;cases h;have HT:=(ih f (Nat.lt_succ_self f)).2.2.2 p a p' hp ht;refine z8X ze tf_26 rfl rfl rfl ?_
  conv in SFunc.code _=>reduce
  unfold pB pcs at HT ⊢;unfold zX at*;simp only[vW,seval,bmV];(with_reducible apply z4R);simp only[vW,seval,bmV];(with_reducible apply z2S);(· rfl);(· simp only[vW,seval,bmV];with_reducible rfl);(· exact HT);(· first|rfl|(simp only[vcA,seval];omega));(· simp only[vW,seval,bmV];with_reducible rfl);simp only[vW,seval,bmV]
 |ok e1 p1=>
 rw[ht]at h;simp only at h;have HT:=(ih f (Nat.lt_succ_self f)).2.2.1 p e1 p1 hp ht;have hp1:=(z69 L sz f).2.2.1 p e1 p1 hp ht;refine z8X ze tf_26 rfl rfl rfl ?_
 conv in SFunc.code _=>reduce
 unfold pB pcs at HT ⊢;unfold zX;simp only[vW,seval,bmV];(with_reducible apply z3d);simp only[vW,seval,bmV];refine z07 HT ?_;refine zk (σ:={x:Nat×V×Nat // x.1≤f∧x.2.2≤L.length∧pL L sz x.1 zu x.2.1 x.2.2=some (.bad a p')})
  (fun x=>⟨[(0,.ptr 1000 0),(1,I zu),(4,.ptr 4 0),(5,.ptr 5 0)],[(1000,[.pv (.sl 4 (L.map pcR)),I (x.1.2.2:Int),I (sz:Int),z0M]),(4,[I 0,I 0,S ⟨#[]⟩,.pv (.v (.slice none 0 0))]),
   (5,[I x.1.2.1.k,I x.1.2.1.n,S (str x.1.2.1.s),.pv (.sl 4 (V.rows x.1.2.1.l))])],[],[]⟩) (fun x=>x.1.1) ⟨(f,e1,p1),Nat.le_refl _,hp1,h⟩ (z18 rfl) ?_
 rintro⟨⟨f1,e2,p2⟩,hf1,hp2,hl⟩;simp only at hf1 hp2 hl;cases f1 with
 |zero=>simp[pL]at hl
 |succ f1=>
 have HP:=z55 g L p2 sz hml;rw[pL]at hl;generalize hq:pkP L sz p2=q at HP hl;obtain⟨b0,b4⟩:=zdc q.s;unfold pB pcs pcT at HP;simp only[vW,seval,bmV];refine zK HP ?_;by_cases hk:q.k=4
 ·by_cases hb:zM q.s<zu
  ·rw[if_pos (.inr hb)]at hl;cases hl
  ·rw[if_neg (by rw[not_or];exact⟨by simpa using hk,hb⟩)]at hl;have hlt:=z5M L sz hq (by rw[hk];decide);have w1:=wS p2;have w2:IntKind.i64.wrap (zM q.s+1)=zM q.s+1:=wrap64 (by omega) (by omega);cases he:pE L sz f1 (zM q.s+1) (p2+1)with
   |none=>rw[he]at hl;cases hl
   |some r=>
   cases r with
   |bad a2 q'=>
    rw[he]at hl;cases hl;have HE:=(ih f1 (by omega)).2.1 (zM q.s+1) (p2+1) a p' (by omega) (by omega) hlt he;unfold pB pcs zX at HE;simp only[vW,seval,bmV,hk,hb,w1];(with_reducible apply z4R);simp only[vW,seval,bmV,w2];(with_reducible apply z2S);(· rfl);(· simp only[vW,seval,bmV,w2];with_reducible rfl);(· exact HE);(· first|rfl|(simp only[vcA,seval];omega));(· simp only[vW,seval,bmV,w2];with_reducible rfl);simp only[vW,seval,bmV,w2]
   |ok e3 p3=>
   rw[he]at hl;simp only at hl;have HE:=(ih f1 (by omega)).1 (zM q.s+1) (p2+1) e3 p3 (by omega) (by omega) hlt he;have hp3:=(z69 L sz f1).1 _ _ _ _ hlt he;unfold pB pcs at HE;simp only[vW,seval,bmV,hk,hb,w1];(with_reducible apply z3d);simp only[vW,seval,bmV,w2];(with_reducible apply zF);simp only[vW,seval,bmV,w2];rfl;rfl;exact HE;exact km;simp only[vW,seval,bmV,w2];rfl;simp only[vW,seval,bmV];refine zc ⟨(f1,.mk 4 0 q.s [e2,e3],p3),by omega,hp3,hl⟩ (Nat.lt_succ_self f1) ?_;apply z0e<;>simp[leL,lk,sv,Nat.beq,I,S,ES.kill,has,drp,zn,bmV]
   exact⟨rfl,rfl,rfl,by rw[Vl,show V.rows [e2,e3]=[V.row e2,V.row e3] from rfl,z2l,z2l]⟩
 ·rw[if_pos (.inl hk)]at hl;cases hl
theorem zgo{f:Nat}(hL:L.length≤4611686018427387904)(ih:∀f',f'<f→EOk g L sz f')(n p:Nat)(l:List V)(p':Nat)(hn0:0<n)(hn:n≤3)(hp:p≤L.length)(h:pH L sz f n 0 p []=some (.ok l p')):
  zC g 233 [.ptr 1000 0,I (n:Int)] [.box (pB L p sz)] (.pv (.sl 4 (V.rows l))) [.box (pB L p' sz)]:=by
 have hml:L.length<maxLen:=by unfold maxLen;omega
 refine zj tf_27 ?_;unfold pB pcs at*;simp only[vW,seval,bmV];refine zk (σ:={x:Nat×Nat×Nat×List V // x.1≤f∧x.2.1≤n∧x.2.2.1≤L.length∧x.2.2.2.length=x.2.1∧pH L sz x.1 n x.2.1 x.2.2.1 x.2.2.2=some (.ok l p')})
  (fun x=>⟨[(0,.ptr 1000 0),(5,.own 3000 4 (V.rows x.1.2.2.2)),(7,I (n:Int)),(8,I (x.1.2.1:Int))],[(1000,[.pv (.sl 4 (L.map pcR)),I (x.1.2.2.1:Int),I (sz:Int),z0M])],[(3000,(157,4,x.1.2.1))],[]⟩) (fun x=>x.1.1) ⟨(f,0,p,[]),Nat.le_refl _,Nat.zero_le _,hp,rfl,h⟩ ?_ ?_
 ·refine ES.Lw.trans ?_ (z8p (k:=5) (d:=3000) (e:=157) (W:=4) (.inr (by decide)) rfl);exact z18 rfl
 rintro⟨⟨f1,k,p1,acc⟩,hf1,hk,hp1,hacc,hl⟩;simp only at hf1 hk hp1 hacc hl;cases f1 with
 |zero=>simp[pH]at hl
 |succ f1=>
 rw[pH]at hl;by_cases hkn:k<n
 ·rw[if_pos hkn]at hl;have d1:(k:Int)<(n:Int):=by omega
  split at hl
  ·cases hl
  rename_i hcom;cases he:pE L sz f1 1 (if 0<k then p1+1 else p1)with
  |none=>rw[he]at hl;cases hl
  |some r=>
  cases r with
  |bad a q'=>rw[he]at hl;cases hl
  |ok e3 p3=>
  rw[he]at hl;simp only at hl;have wk:=wS k;have hacc':(V.rows acc).length=k:=by rw[z1u,hacc]
  by_cases h0:0<k
  ·rw[if_pos h0]at he;have hs:z01 (pkP L sz p1) [44]=true:=by
    cases hh:z01 (pkP L sz p1) [44]with
    |true=>rfl
    |false=>exact absurd ⟨h0,hh⟩ hcom
   have hlt:=z1t L sz hs;have HN:=z9K g L p1 sz [44] (by omega) (by omega) hs;have HE:=ih f1 (by omega) 1 (p1+1) e3 p3 (by omega) (by omega) hlt he;have hp3:=(z69 L sz f1).1 _ _ _ _ hlt he;have d0:(0:Int)<(k:Int):=by omega
   have q44:=bS [44];unfold pB pcs at HN HE;simp only[vW,seval,bmV,d1,d0];(with_reducible apply z3d);simp only[vW,seval,bmV,q44];refine z07 HN ?_;(with_reducible apply z3d);simp only[vW,seval,bmV];refine zK HE ?_;simp only[vW,seval,bmV,hacc',wk];refine⟨⟨by omega,by unfold maxLen;omega⟩,zc ⟨(f1,k+1,p3,acc++[e3]),by omega,hkn,hp3,by simp[hacc],hl⟩ (Nat.lt_succ_self f1) ?_⟩;refine z18 ?_;simp only[z4r,I]
  ·rw[if_neg h0]at he;obtain rfl:k=0:=by omega
   have HE:=ih f1 (by omega) 1 p1 e3 p3 (by omega) (by omega) hp1 he;have hp3:=(z69 L sz f1).1 _ _ _ _ hp1 he;have d2:(0:Int)<(n:Int):=by omega
   have w01:IntKind.i64.wrap 1=1:=by decide
   unfold pB pcs at HE;simp only[vW,seval,bmV,d2];(with_reducible apply z3d);simp only[vW,seval,bmV];refine zK HE ?_;simp only[vW,seval,bmV,hacc',w01];refine⟨by unfold maxLen;omega,zc ⟨(f1,1,p3,acc++[e3]),by omega,hkn,hp3,by simp[hacc],hl⟩ (Nat.lt_succ_self f1) ?_⟩;refine z18 ?_;simp only[z4r,I];rfl
 ·rw[if_neg hkn]at hl;have d1:¬(k:Int)<(n:Int):=by omega
  split at hl
  ·rename_i hs;cases hl;have hlt:=z1t L sz hs;have HN:=z9K g L p1 sz [41] (by omega) (by omega) hs;have q41:=bS [41];unfold pB pcs at HN;simp only[vW,seval,bmV,d1];(with_reducible apply z3d);simp only[vW,seval,bmV,q41];exact z4S HN
  ·cases hl
theorem zei{f:Nat}(hL:L.length≤4611686018427387904)(ih:∀f',f'<f→EOk g L sz f')(ihb:∀f',f'<f→zaz g L sz f')(n p a p':Nat)(hn0:0<n)(hn:n≤3)(hp:p≤L.length)(h:pH L sz f n 0 p []=some (.bad a p')):
  z8o Tryz.prog g 233 [.ptr 1000 0,I (n:Int)] [.box (pB L p sz)] (zX a) [.box (pB L p' sz)]:=by
 have hml:L.length<maxLen:=by unfold maxLen;omega
 refine z8X ze tf_27 rfl rfl rfl ?_
 conv in SFunc.code _=>reduce
 unfold pB pcs zX at*;simp only[vW,seval,bmV];refine zk (σ:={x:Nat×Nat×Nat×List V // x.1≤f∧x.2.1≤n∧x.2.2.1≤L.length∧x.2.2.2.length=x.2.1∧pH L sz x.1 n x.2.1 x.2.2.1 x.2.2.2=some (.bad a p')})
  (fun x=>⟨[(0,.ptr 1000 0),(5,.own 3000 4 (V.rows x.1.2.2.2)),(7,I (n:Int)),(8,I (x.1.2.1:Int))],[(1000,[.pv (.sl 4 (L.map pcR)),I (x.1.2.2.1:Int),I (sz:Int),z0M])],[(3000,(157,4,x.1.2.1))],[]⟩) (fun x=>x.1.1) ⟨(f,0,p,[]),Nat.le_refl _,Nat.zero_le _,hp,rfl,h⟩ ?_ ?_
 ·refine ES.Lw.trans ?_ (z8p (k:=5) (d:=3000) (e:=157) (W:=4) (.inr (by decide)) rfl);exact z18 rfl
 rintro⟨⟨f1,k,p1,acc⟩,hf1,hk,hp1,hacc,hl⟩;simp only at hf1 hk hp1 hacc hl;cases f1 with
 |zero=>simp[pH]at hl
 |succ f1=>
 rw[pH]at hl;by_cases hkn:k<n
 ·rw[if_pos hkn]at hl;have d1:(k:Int)<(n:Int):=by omega
  by_cases hcom:0<k∧z01 (pkP L sz p1) [44]=false
  ·rw[if_pos hcom]at hl;cases hl;have HN:=zaW g L p' sz [44] (by omega) (by omega) hcom.2;have d0:(0:Int)<(k:Int):=by omega
   have q44:=bS [44];unfold pB pcs zX at HN;simp only[vW,seval,bmV,d1,d0];(with_reducible apply z4R);simp only[vW,seval,bmV,q44];(with_reducible apply z2S);(· rfl);(· simp only[vW,seval,bmV];with_reducible rfl);(· exact HN);(· first|rfl|(simp only[vcA,seval];omega));(· simp only[vW,seval,bmV];with_reducible rfl);simp only[vW,seval,bmV]
  rw[if_neg hcom]at hl;have wk:=wS k;have hacc':(V.rows acc).length=k:=by rw[z1u,hacc]
  by_cases h0:0<k
  ·rw[if_pos h0]at hl;have hs:z01 (pkP L sz p1) [44]=true:=by
    cases hh:z01 (pkP L sz p1) [44]with
    |true=>rfl
    |false=>exact absurd ⟨h0,hh⟩ hcom
   have hlt:=z1t L sz hs;have HN:=z9K g L p1 sz [44] (by omega) (by omega) hs;have d0:(0:Int)<(k:Int):=by omega
   have q44:=bS [44];unfold pB pcs at HN;simp only[vW,seval,bmV,d1,d0];(with_reducible apply z3d);simp only[vW,seval,bmV,q44];refine z07 HN ?_;cases he:pE L sz f1 1 (p1+1)with
   |none=>rw[he]at hl;cases hl
   |some r=>
   cases r with
   |bad a2 q'=>
    rw[he]at hl;cases hl;have HE:=ihb f1 (by omega) 1 (p1+1) a p' (by omega) (by omega) hlt he;unfold pB pcs zX at HE;(with_reducible apply z4R);simp only[vW,seval,bmV];(with_reducible apply z2S);(· rfl);(· simp only[vW,seval,bmV];with_reducible rfl);(· exact HE);(· first|rfl|(simp only[vcA,seval];omega));(· simp only[vW,seval,bmV];with_reducible rfl);simp only[vW,seval,bmV]
   |ok e3 p3=>
   rw[he]at hl;simp only at hl;have HE:=ih f1 (by omega) 1 (p1+1) e3 p3 (by omega) (by omega) hlt he;have hp3:=(z69 L sz f1).1 _ _ _ _ hlt he;unfold pB pcs at HE;(with_reducible apply z3d);simp only[vW,seval,bmV];refine zK HE ?_;simp only[vW,seval,bmV,hacc',wk];refine⟨⟨by omega,by unfold maxLen;omega⟩,zc ⟨(f1,k+1,p3,acc++[e3]),by omega,hkn,hp3,by simp[hacc],hl⟩ (Nat.lt_succ_self f1) ?_⟩;refine z18 ?_;simp only[z4r,I]
  ·rw[if_neg h0]at hl;obtain rfl:k=0:=by omega
   have d2:(0:Int)<(n:Int):=by omega
   have w01:IntKind.i64.wrap 1=1:=by decide
   simp only[vW,seval,bmV,d2];cases he:pE L sz f1 1 p1 with
   |none=>rw[he]at hl;cases hl
   |some r=>
   cases r with
   |bad a2 q'=>
    rw[he]at hl;cases hl;have HE:=ihb f1 (by omega) 1 p1 a p' (by omega) (by omega) hp1 he;unfold pB pcs zX at HE;(with_reducible apply z4R);simp only[vW,seval,bmV];(with_reducible apply z2S);(· rfl);(· simp only[vW,seval,bmV];with_reducible rfl);(· exact HE);(· first|rfl|(simp only[vcA,seval];omega));(· simp only[vW,seval,bmV];with_reducible rfl);simp only[vW,seval,bmV]
   |ok e3 p3=>
   rw[he]at hl;simp only at hl;have HE:=ih f1 (by omega) 1 p1 e3 p3 (by omega) (by omega) hp1 he;have hp3:=(z69 L sz f1).1 _ _ _ _ hp1 he;unfold pB pcs at HE;(with_reducible apply z3d);simp only[vW,seval,bmV];refine zK HE ?_;simp only[vW,seval,bmV,hacc',w01];refine⟨by unfold maxLen;omega,zc ⟨(f1,1,p3,acc++[e3]),by omega,hkn,hp3,by simp[hacc],hl⟩ (Nat.lt_succ_self f1) ?_⟩;refine z18 ?_;simp only[z4r,I];rfl
 ·rw[if_neg hkn]at hl;have d1:¬(k:Int)<(n:Int):=by omega
  split at hl
  ·cases hl
  ·rename_i hs;cases hl;have HN:=zaW g L p' sz [41] (by omega) (by omega) (by simpa using hs);have q41:=bS [41];unfold pB pcs zX at HN;simp only[vW,seval,bmV,d1];(with_reducible apply z4R);simp only[vW,seval,bmV,q41];(with_reducible apply z2S);(· rfl);(· simp only[vW,seval,bmV];with_reducible rfl);(· exact HN);(· first|rfl|(simp only[vcA,seval];omega));(· simp only[vW,seval,bmV];with_reducible rfl);simp only[vW,seval,bmV]
theorem zfK(k n:Int)(t:zB):Wk (nv (.mk k n t [])) (tv (.mk k n t [])):=z4L rfl
theorem zhh{f:Nat}(hL:L.length≤4611686018427387904)(ih:∀f',f'<f→EOk g L sz f'∧zaz g L sz f'∧TOk g L sz f'∧zcx g L sz f'):TOk g L sz f:=by
 intro p e p' hp h;have hml:L.length<maxLen:=by unfold maxLen;omega
 cases f with
 |zero=>simp[pT]at h
 |succ f=>
 have T40:=z4t g L p sz [40] (by omega) (by omega);have T45:=z4t g L p sz [45] (by omega) (by omega);have q40:=bS [40];have q41:=bS [41];have q45:=bS [45];rw[pT]at h;by_cases h40:z01 (pkP L sz p) [40]=true
 ·rw[if_pos h40]at h;rw[h40,if_pos rfl]at T40;have hlt:=z1t L sz h40;cases he:pE L sz f 1 (p+1)with
  |none=>rw[he]at h;cases h
  |some r=>
  cases r with
  |bad a q'=>rw[he]at h;cases h
  |ok e1 p1=>
  rw[he]at h;simp only at h;split at h
  ·rename_i h41;cases h;have HE:=(ih f (Nat.lt_succ_self f)).1 1 (p+1) e p1 (by omega) (by omega) hlt he;have hp1:=(z69 L sz f).1 _ _ _ _ hlt he;have HN:=z9K g L p1 sz [41] (by omega) (by omega) h41;refine zj tf_28 ?_;unfold pB pcs B at*;simp only[vW,seval,bmV,q40];refine z07 T40 ?_;(with_reducible apply z3d);simp only[vW,seval,bmV];refine z07 HE ?_;(with_reducible apply z3d);simp only[vW,seval,bmV,q41];exact z4S HN
  ·cases h
 have h40:z01 (pkP L sz p) [40]=false:=by simpa using h40
 rw[h40,if_neg (by simp)]at T40;rw[if_neg (by simp[h40])]at h;by_cases h45:z01 (pkP L sz p) [45]=true
 ·rw[if_pos h45]at h;rw[h45,if_pos rfl]at T45;have hlt:=z1t L sz h45;cases he:pT L sz f (p+1)with
  |none=>rw[he]at h;cases h
  |some r=>
  cases r with
  |bad a q'=>rw[he]at h;cases h
  |ok e1 p1=>
  rw[he]at h;cases h;have HE:=(ih f (Nat.lt_succ_self f)).2.2.1 (p+1) e1 p' hlt he;refine zj tf_28 ?_;unfold pB pcs B at*;simp only[vW,seval,bmV,q40];refine zK T40 ?_;simp only[vW,seval,bmV,q45];refine z07 T45 ?_;(with_reducible apply z3d);simp only[vW,seval,bmV];refine zK HE ?_;simp only[vW,seval,bmV,q45];rw[show V.rows [e1]=[V.row e1] from rfl,z2l]
 have h45:z01 (pkP L sz p) [45]=false:=by simpa using h45
 rw[h45,if_neg (by simp)]at T45;rw[if_neg (by simp[h45])]at h;have HP:=z55 g L p sz (by omega);have w1:IntKind.i64.wrap ((p:Int)+1)=((p+1:Nat):Int):=by unfold maxLen at hml;rw[wrap64 (by omega) (by omega)];omega
 have hin:=fun hk=>z5M L sz (p:=p) rfl hk;generalize hq:pkP L sz p=q at*;by_cases k1:q.k=1
 ·rw[if_pos k1]at h;cases h;refine SCalls.out ?_ (zfK 1 q.n []);refine zj tf_28 ?_;unfold pB pcs B pcT at*;simp only[vW,seval,bmV,q40];refine zK T40 ?_;simp only[vW,seval,bmV,q45];refine z07 T45 ?_;refine zK HP ?_;simp only[vW,seval,bmV,k1,w1];rfl
 rw[if_neg k1]at h;by_cases k2:q.k=2
 ·rw[if_pos k2]at h;cases h;refine SCalls.out ?_ (zfK 2 0 q.s);refine zj tf_28 ?_;unfold pB pcs B pcT at*;simp only[vW,seval,bmV,q40];refine zK T40 ?_;simp only[vW,seval,bmV,q45];refine z07 T45 ?_;refine zK HP ?_;simp only[vW,seval,bmV,k2,w1]
 rw[if_neg k2]at h;by_cases k3:q.k=3
 ·rw[if_pos k3]at h;have hlt:=hin (by rw[k3];decide);have HK:=zbd g q.s;obtain⟨t0,t3⟩:=zdP q.s;have T2:=z4t g L (p+1) sz [40] (by omega) (by omega);have hin2:z01 (pkP L sz (p+1)) [40]=true→p+1<L.length:=fun h=>z1t L sz h;generalize z01 (pkP L sz (p+1)) [40]=b at*;generalize ht:zt q.s=t at*;by_cases hc:0<t∧b=true
  ·rw[if_pos hc]at h;obtain⟨hc1,rfl⟩:=hc;rw[if_pos rfl]at T2;cases he:pH L sz f t.toNat 0 (p+2) []with
   |none=>rw[he]at h;cases h
   |some r=>
   cases r with
   |bad a q'=>rw[he]at h;cases h
   |ok l p1=>
   rw[he]at h;cases h;have HH:=zgo hL (fun f' hf'=>(ih f' (by omega)).1) t.toNat (p+2) l p' (by omega) (by omega) (hin2 rfl) he;have ht2:((t.toNat:Nat):Int)=t:=by omega
   rw[ht2]at HH;refine zj tf_28 ?_;unfold pB pcs B pcT at*;simp only[vW,seval,bmV,q40];refine zK T40 ?_;simp only[vW,seval,bmV,q45];refine z07 T45 ?_;refine zK HP ?_;simp only[vW,seval,bmV,k3,w1];refine z7 HK ?_;simp only[vW,seval,bmV,hc1,q40];refine z07 T2 ?_;(with_reducible apply z3d);simp only[vW,seval,bmV];exact z4S HH
  ·rw[if_neg hc]at h;cases h;refine SCalls.out ?_ (zfK 3 0 q.s);refine zj tf_28 ?_;unfold pB pcs B pcT at*;simp only[vW,seval,bmV,q40];refine zK T40 ?_;simp only[vW,seval,bmV,q45];refine z07 T45 ?_;refine zK HP ?_;simp only[vW,seval,bmV,k3,w1];refine z7 HK ?_;by_cases hc1:0<t
   ·have hb:b=false:=by simpa [hc1]using hc
    rw[hb,if_neg (by simp)]at T2;simp only[vW,seval,bmV,hc1,q40];exact z4S T2
   ·simp only[vW,seval,bmV,hc1]
 rw[if_neg k3]at h;cases h
theorem zgp{f:Nat}(hL:L.length≤4611686018427387904)(ih:∀f',f'<f→EOk g L sz f'∧zaz g L sz f'∧TOk g L sz f'∧zcx g L sz f'):zcx g L sz f:=by
 intro p a p' hp h;have hml:L.length<maxLen:=by unfold maxLen;omega
 cases f with
 |zero=>simp[pT]at h
 |succ f=>
 have T40:=z4t g L p sz [40] (by omega) (by omega);have T45:=z4t g L p sz [45] (by omega) (by omega);have q40:=bS [40];have q41:=bS [41];have q45:=bS [45];rw[pT]at h;refine z8X ze tf_28 rfl rfl rfl ?_
 conv in SFunc.code _=>reduce
 by_cases h40:z01 (pkP L sz p) [40]=true
 ·rw[if_pos h40]at h;rw[h40,if_pos rfl]at T40;have hlt:=z1t L sz h40;unfold pB pcs B zX at*;simp only[vW,seval,bmV,q40];refine z07 T40 ?_;cases he:pE L sz f 1 (p+1)with
  |none=>rw[he]at h;cases h
  |some r=>
  cases r with
  |bad a q'=>
   rw[he]at h;cases h;have HE:=(ih f (Nat.lt_succ_self f)).2.1 1 (p+1) a p' (by omega) (by omega) hlt he;unfold pB pcs zX at HE;(with_reducible apply z4R);simp only[vW,seval,bmV];(with_reducible apply z2S);(· rfl);(· simp only[vW,seval,bmV];with_reducible rfl);(· exact HE);(· first|rfl|(simp only[vcA,seval];omega));(· simp only[vW,seval,bmV];with_reducible rfl);simp only[vW,seval,bmV]
  |ok e1 p1=>
  rw[he]at h;simp only at h;have HE:=(ih f (Nat.lt_succ_self f)).1 1 (p+1) e1 p1 (by omega) (by omega) hlt he;have hp1:=(z69 L sz f).1 _ _ _ _ hlt he;unfold pB pcs at HE;(with_reducible apply z3d);simp only[vW,seval,bmV];refine z07 HE ?_;split at h
  ·cases h
  ·rename_i h41;cases h;have HN:=zaW g L p' sz [41] (by omega) (by omega) (by simpa using h41);unfold pB pcs zX at HN;(with_reducible apply z4R);simp only[vW,seval,bmV,q41];(with_reducible apply z2S);(· rfl);(· simp only[vW,seval,bmV];with_reducible rfl);(· exact HN);(· first|rfl|(simp only[vcA,seval];omega));(· simp only[vW,seval,bmV];with_reducible rfl);simp only[vW,seval,bmV]
 have h40:z01 (pkP L sz p) [40]=false:=by simpa using h40
 rw[h40,if_neg (by simp)]at T40;rw[if_neg (by simp[h40])]at h;by_cases h45:z01 (pkP L sz p) [45]=true
 ·rw[if_pos h45]at h;rw[h45,if_pos rfl]at T45;have hlt:=z1t L sz h45;unfold pB pcs B zX at*;simp only[vW,seval,bmV,q40];refine zK T40 ?_;simp only[vW,seval,bmV,q45];refine z07 T45 ?_;cases he:pT L sz f (p+1)with
  |none=>rw[he]at h;cases h
  |some r=>
  cases r with
  |ok e1 q'=>rw[he]at h;cases h
  |bad a q'=>
  rw[he]at h;cases h;have HE:=(ih f (Nat.lt_succ_self f)).2.2.2 (p+1) a p' hlt he;unfold pB pcs zX at HE;(with_reducible apply z4R);simp only[vW,seval,bmV];(with_reducible apply z2S);(· rfl);(· simp only[vW,seval,bmV];with_reducible rfl);(· exact HE);(· first|rfl|(simp only[vcA,seval];omega));(· simp only[vW,seval,bmV];with_reducible rfl);simp only[vW,seval,bmV]
 have h45:z01 (pkP L sz p) [45]=false:=by simpa using h45
 rw[h45,if_neg (by simp)]at T45;rw[if_neg (by simp[h45])]at h;have HP:=z55 g L p sz (by omega);have w1:IntKind.i64.wrap ((p:Int)+1)=((p+1:Nat):Int):=by unfold maxLen at hml;rw[wrap64 (by omega) (by omega)];omega
 have hin:=fun hk=>z5M L sz (p:=p) rfl hk;have HK:=zbd g (pkP L sz p).s;have T2:=z4t g L (p+1) sz [40] (by omega);have hin2:z01 (pkP L sz (p+1)) [40]=true→p+1<L.length:=fun h=>z1t L sz h;generalize z01 (pkP L sz (p+1)) [40]=b at*;generalize hq:pkP L sz p=q at*;unfold pB pcs B pcT zX at*;simp only[vW,seval,bmV,q40];refine zK T40 ?_;simp only[vW,seval,bmV,q45];refine z07 T45 ?_;refine zK HP ?_;by_cases k1:q.k=1
 ·rw[if_pos k1]at h;cases h
 rw[if_neg k1]at h;by_cases k2:q.k=2
 ·rw[if_pos k2]at h;cases h
 rw[if_neg k2]at h;by_cases k3:q.k=3
 ·rw[if_pos k3]at h;have hlt:=hin (by rw[k3];decide);obtain⟨t0,t3⟩:=zdP q.s;have T2:=T2 (by omega);generalize ht:zt q.s=t at*;by_cases hc:0<t∧b=true
  ·rw[if_pos hc]at h;obtain⟨hc1,rfl⟩:=hc;rw[if_pos rfl]at T2;cases he:pH L sz f t.toNat 0 (p+2) []with
   |none=>rw[he]at h;cases h
   |some r=>
   cases r with
   |ok l p1=>rw[he]at h;cases h
   |bad a q'=>
   rw[he]at h;cases h;have HH:=zei hL (fun f' hf'=>(ih f' (by omega)).1) (fun f' hf'=>(ih f' (by omega)).2.1) t.toNat (p+2) a p' (by omega) (by omega) (hin2 rfl) he;have ht2:((t.toNat:Nat):Int)=t:=by omega
   rw[ht2]at HH;unfold pB pcs zX at HH;simp only[vW,seval,bmV,k3,w1];refine z7 HK ?_;simp only[vW,seval,bmV,hc1,q40];refine z07 T2 ?_;(with_reducible apply z4R);simp only[vW,seval,bmV];(with_reducible apply z2S);(· rfl);(· simp only[vW,seval,bmV];with_reducible rfl);(· exact HH);(· first|rfl|(simp only[vcA,seval];omega));(· simp only[vW,seval,bmV];with_reducible rfl);simp only[vW,seval,bmV]
  ·rw[if_neg hc]at h;cases h
 rw[if_neg k3]at h;cases h;simp only[vW,seval,bmV,k1,k2,k3,w1];(with_reducible apply z4R);simp only[vW,seval,bmV]
theorem z8Y(hL:L.length≤4611686018427387904)(f:Nat):EOk g L sz f∧zaz g L sz f∧TOk g L sz f∧zcx g L sz f:=by
 induction f using Nat.strongRecOn with
 |_ f ih=>exact⟨ziX hL ih,zgO hL ih,zhh hL ih,zgp hL ih⟩
end
end
section
open Go.Sh.Cd4
def p0T(r:Option (Pc×Nat)):TV:=match r with
 |some (q,z)=> .tuple [.agg [I q.k,I q.n,S (str q.s),I 0],I (z:Int)]
 |none=> .tuple [.agg [I 0,I 0,S (str []),I 0],I 0]
def zo5(l:zB):Option (Pc×Nat):=if 1000000000000000<(z1f l 0 0).1 then none else some (⟨1,(z1f l 0 0).1,[],0⟩,(z1f l 0 0).2)
theorem zea(g:Sh.Glob)(l:zB)(hl:l.length<4611686018427387904):zC g 207 [S (str l)] [] (p0T (zo5 l)) []:=by
 unfold zo5;generalize hR:z1f l 0 0=R;refine z0u tf_105 ?_;refine zk (σ:={ q:Int×Nat // 0≤q.1∧q.1≤1000000000000001∧q.2≤l.length∧z1f (l.drop q.2) q.1 q.2=R })
  (fun q=>⟨[(0,S (str l)),(2,.ptr 2 0),(4,I q.1.1),(5,I (q.1.2:Int))],[(2,[I 0,I 0,S ⟨#[]⟩,I 0])],[],[]⟩) (fun q=>l.length-q.1.2) ⟨(0,0),by decide,by decide,Nat.zero_le _,hR⟩ ?_ ?_
 ·exact lwA
 rintro⟨⟨n,z⟩,h0,h1,hz,hd⟩;simp only at h0 h1 hz hd;by_cases hk:z<l.length
 ·have d1:(z:Int)<(l.length:Int):=by omega
  obtain⟨c,ec⟩:∃c,l[z]?=some c:=⟨_,gE hk⟩
  rw[z24 ec,z1f]at hd;have hc:=c.toNat_lt;by_cases q1:48≤c.toNat
  ·have d2:(48:Int)≤(c.toNat:Int):=by omega
   by_cases q2:c.toNat≤57
   ·have d3:(c.toNat:Int)≤57:=by omega
    rw[if_pos (by unfold z1I;simp[q1,q2])]at hd;have w0:IntKind.i64.wrap (10*n)=10*n:=wrap64 (by omega) (by omega);have w1:IntKind.u8.wrap ((c.toNat:Int) - 48)=(c.toNat:Int) - 48:=by rw[IntKind.wrap_u8];omega
    have w2:IntKind.i64.wrap ((c.toNat:Int) - 48)=(c.toNat:Int) - 48:=wrap64 (by omega) (by omega);have w3:IntKind.i64.wrap (10*n+((c.toNat:Int) - 48))=10*n+((c.toNat:Int) - 48):=wrap64 (by omega) (by omega);have w4:=wS z;simp only[vW,seval,d1,d2,d3,ec,w0,w1,w2,w3,w4];refine zc ⟨(min (10*n+((c.toNat:Int) - 48)) 1000000000000001,z+1),by omega,by omega,hk,hd⟩ (by show l.length-(z+1)<l.length-z;omega) ?_;exact lwA
   ·have d3:¬(c.toNat:Int)≤57:=by omega
    rw[if_neg (by unfold z1I;simp[q2])]at hd;subst hd;by_cases hn:1000000000000000<n
    ·simp only[vW,seval,d1,d2,d3,ec,hn,p0T];rfl
    ·simp only[vW,seval,d1,d2,d3,ec,hn,p0T];rfl
  ·have d2:¬(48:Int)≤(c.toNat:Int):=by omega
   rw[if_neg (by unfold z1I;simp[q1])]at hd;subst hd;by_cases hn:1000000000000000<n
   ·simp only[vW,seval,d1,d2,ec,hn,p0T];rfl
   ·simp only[vW,seval,d1,d2,ec,hn,p0T];rfl
 ·have d1:¬(z:Int)<(l.length:Int):=by omega
  rw[List.drop_eq_nil_of_le (by omega),z1f]at hd;subst hd;by_cases hn:1000000000000000<n
  ·simp only[vW,seval,d1,hn,p0T];rfl
  ·simp only[vW,seval,d1,hn,p0T];rfl
theorem z8h(g:Sh.Glob)(l:zB)(hl:l.length<4611686018427387904):zC g 227 [S (str l)] [] (B (zb l)) []:=by
 refine za tf_107 ?_;have HR:=zcB g l hl;unfold B at*;simp only[vW,seval];exact zf HR
theorem z8i(m:Nat)(l:zB)(hl:l.length<4611686018427387904):zC (gl0 m) 228 [S (str l)] [] (B (zl l)) []:=by
 refine za tf_108 ?_;have HR:=zcb m (.mk 2 0 l []) ⟨by unfold z25 V.s;simp only;omega,by simp[V.l]⟩;have hk:z1r (.mk 2 0 l [])=zl l:=by unfold z1r z1L;simp[V.k,V.n,V.l,V.s]
 rw[hk]at HR;have HR:=HR.inp (xs:=[nv (.mk 2 0 l [])]) rfl (fun j c d hc hd=>by
  match j with
  |0=>simp at hc hd;subst hc;subst hd;exact z4L rfl
  |j+1=>simp at hc)
 unfold B nv at*;simp only[vW,seval];exact zf HR
inductive ESmall:V→Prop where
 |mk {k n:Int} {s:zB} {l:List V} (h:l.length<4611686018427387904) (ht:s.length<4611686018427387904) (hs:∀y∈l,ESmall y):ESmall (.mk k n s l)
theorem ESmall.len{x:V}(h:ESmall x):x.l.length<4611686018427387904:=by cases h;assumption
theorem ESmall.txt{x:V}(h:ESmall x):x.s.length<4611686018427387904:=by cases h;assumption
theorem ESmall.sub{x y:V}(h:ESmall x)(hy:y∈x.l):ESmall y:=by cases h with|mk _ _ hs=>exact hs y hy
theorem zr5(s t:zB):(s==t)=decide (s=t):=by rw[Bool.eq_iff_iff];simp
theorem zqd(m:Nat)(e:V)(he:ESmall e)(n:Int):zC (gl0 m) 212 [.ptr 1000 0,tv e] [.box [z0M,I n]] (B (z0F e)) [.box [z0M,I n]]:=by
 refine zj tf_24 ?_;have HT:=z8i m e.s he.txt;have HN:=z8h (gl0 m) e.s he.txt;have HK:=zbd (gl0 m) e.s;have e0:=bS [];have hlen0:decide ((e.l.length:Int)=0)=(e.l.length==0):=by rw[Bool.eq_iff_iff];simp
 have hlen1:decide ((e.l.length:Int)=1)=(e.l.length==1):=by rw[Bool.eq_iff_iff];simp;omega
 have hlen2:decide ((e.l.length:Int)=2)=(e.l.length==2):=by rw[Bool.eq_iff_iff];simp;omega
 have e45:=bS [45];unfold B at*;unfold z0F;by_cases k1:e.k=1
 ·rw[if_neg (by simp[k1]),if_pos k1];simp only[vW,seval,bmV,k1,e0,zr5]
  repeat' (first|(apply And.intro)|(intro _))
  all_goals(first|(simp_all;done)|(simp only[Option.some.injEq,Prod.mk.injEq,TV.pv.injEq,PV.v.injEq,Value.bool.injEq];rw[Bool.eq_iff_iff];simp_all<;>omega))
 by_cases n0:e.n=0
 ·rw[if_neg (by simp[n0]),if_neg k1];by_cases k2:e.k=2
  ·rw[if_pos k2];simp only[vW,seval,bmV,k2,n0];refine z7 HT ?_;cases zl e.s
   ·simp only[vW,seval,bmV]
   ·simp only[vW,seval,bmV,hlen0,Bool.true_and]
  rw[if_neg k2];by_cases k3:e.k=3
  ·rw[if_pos k3];simp only[vW,seval,bmV,k3,n0];refine z7 HN ?_;cases zb e.s
   ·simp only[vW,seval,bmV]
   ·simp only[vW,seval,bmV,hlen0,Bool.true_and]
  rw[if_neg k3];by_cases k4:e.k=4
  ·rw[if_pos k4];simp only[vW,seval,bmV,k4,n0];refine⟨fun h=> ?_,fun h=> ?_⟩
   ·rw[decide_eq_true h,hlen2,Bool.true_and]
   ·rw[decide_eq_false h,Bool.false_and]
  rw[if_neg k4];by_cases k5:e.k=5
  ·rw[if_pos k5];simp only[vW,seval,bmV,k5,n0,e45];cases e.s==[45]
   ·simp only[vW,seval,bmV]
   ·simp only[vW,seval,bmV,hlen1,Bool.true_and]
  rw[if_neg k5];by_cases k6:e.k=6
  ·rw[if_pos k6];simp only[vW,seval,bmV,k6,n0];refine z7 HK ?_;simp only[vW,seval,bmV];refine⟨fun h=> ?_,fun h=> ?_⟩
   ·refine z7 HK ?_;simp only[vW,seval,bmV,h]
   ·rw[decide_eq_false h,Bool.false_and]
  ·rw[if_neg k6];simp only[vW,seval,bmV,k1,k2,k3,k4,k5,k6,n0]
 ·rw[if_pos ⟨k1,n0⟩];simp only[vW,seval,bmV,k1,n0]
end
end Go.Proofs.YtpmlapgbmgbilaaGreatDoor
end

section
namespace Go.Mor
open Go
theorem zm7{l:zB}{p:Nat}{q:Pc}{z:Nat}(h:z0l l p=some (q,z)):q.s.length≤60:=by
 have hq:∀(r acc:zB) (k:Nat) (t:zB) (z:Nat),quoG r acc k=some (t,z)→t.length≤60:=by
  intro r
  induction r using(measure List.length).wf.induction with
  |_ r ih=>
   intro acc k t z h;cases r with
   |nil=>simp[quoG]at h
   |cons b r=>
    unfold quoG at h;split at h
    ·grind [zl]
    ·split at h
     ·split at h
      ·cases h
      ·rename_i c r';split at h
       ·exact ih r' (show r'.length<_ by simp;omega) _ _ _ _ h
       ·cases h
     ·exact ih r (show r.length<_ by simp) _ _ _ _ h
 cases l with
 |nil=>simp[z0l]at h
 |cons b r=>
  unfold z0l at h
  grind [zb,z19]
theorem z3F:∀(f:Nat) (l:zB) (a:Nat) (acc L:List Pc),(∀q∈acc,q.s.length≤60)→z10 f l a acc=some (.ok L)→(∀q∈L,q.s.length≤60)∧L.length≤acc.length+f
 |0,l,a,acc,L,_,h=>by simp[z10]at h
 |f+1,l,a,acc,L,ha,h=>by
  unfold z10 at h;split at h
  ·cases h;exact⟨ha,by omega⟩
  ·split at h
   ·have:=z3F f _ _ _ _ ha h;exact⟨this.1,by omega⟩
   ·split at h
    ·cases h
    ·rename_i q z hq;have:=z3F f _ _ _ _ (fun x hx=>by
      rcases List.mem_append.1 hx with hx|hx
      ·exact ha x hx
      ·rw[List.mem_singleton]at hx;subst hx;exact zm7 hq) h
     exact⟨this.1,by have:=this.2;simp at this;omega⟩
theorem zbY{L:List Pc}(h:∀q∈L,q.s.length≤60)(sz p:Nat):(pkP L sz p).s.length≤60:=by
 grind [pkP,List.mem_of_getElem?]
theorem z7l(s:zB):0≤zt s∧zt s≤3:=by
 grind [zt]
end Go.Mor
end

section
namespace Go.Proofs.YtpmlapgbmgbilaaGreatDoor
open Go Go.RowKit Go.Mor Go.Sh Go.Sh.Cd1 Go.Sh.Cd4 Go.Sh.Cd5
def rtL(r:V→Nat→Bool×Nat):List V→Nat→Bool×Nat
 |[],n=>(true,n)
 |x::l,n=>match r x n with
  |(true,n')=>rtL r l n'
  |(false,n')=>(false,n')
def rt:Nat→V→Nat→Bool×Nat
 |0,_,n=>(false,n+1)
 |d+1,e,n=>if n+1≤40∧z0F e=true then rtL (rt d) e.l (n+1)else(false,n+1)
theorem zs5{d:Nat}(ih:∀(e:V) (n:Nat),n≤40→((rt d e n).1=(okE d e&&decide (n+szE d e≤40))∧((rt d e n).1=true→(rt d e n).2=n+szE d e))):
  ∀(l:List V) (n:Nat),n≤40→((rtL (rt d) l n).1=(l.all (okE d)&&decide (n+(l.map (szE d)).sum≤40))∧((rtL (rt d) l n).1=true→(rtL (rt d) l n).2=n+(l.map (szE d)).sum)):=by
 intro l
 induction l with
 |nil=>intro n hn;simp[rtL,hn]
 |cons x l il=>
  intro n hn;have hx:=ih x n hn;unfold rtL;rcases hr:rt d x n with⟨b,n'⟩
  rw[hr]at hx;simp only at hx;cases b
  ·simp only[List.all_cons,List.map_cons,List.sum_cons];refine⟨?_,fun h=>by simp at h⟩;have h1:=hx.1;cases ho:okE d x
   ·simp
   ·rw[ho,Bool.true_and]at h1;have h2:¬n+szE d x≤40:=by intro h;rw[decide_eq_true h]at h1;exact absurd h1 (by simp)
    rw[decide_eq_false (by omega)];simp
  ·have h1:=hx.1;have h2:=hx.2 rfl;cases ho:okE d x
   ·rw[ho]at h1;simp at h1
   rw[ho,Bool.true_and]at h1;have h3:n+szE d x≤40:=of_decide_eq_true h1.symm;subst h2;have:=il (n+szE d x) h3;simp only[List.all_cons,List.map_cons,List.sum_cons,ho,Bool.true_and];rw[←Nat.add_assoc];exact this
theorem zpq:∀(d:Nat) (e:V) (n:Nat),n≤40→((rt d e n).1=(okE d e&&decide (n+szE d e≤40))∧((rt d e n).1=true→(rt d e n).2=n+szE d e)):=by
 intro d
 induction d with
 |zero=>intro e n hn;simp[rt,okE]
 |succ d ih=>
  intro e n hn;unfold rt okE szE;by_cases h1:n+1≤40
  ·cases h2:z0F e
   ·simp
   ·rw[if_pos ⟨h1,rfl⟩];have:=zs5 ih e.l (n+1) h1;rw[Nat.add_assoc]at this;simpa using this
  ·rw[if_neg (by omega),decide_eq_false (by omega)];simp
theorem zot(e:V):(rt 8 e 0).1=z15 e:=by
 have:=(zpq 8 e 0 (by omega)).1;rw[Nat.zero_add]at this;exact this
theorem zor(m:Nat):∀(d:Nat),d≤8→∀(e:V),ESmall e→∀(n:Nat),n≤40→
  zC (gl0 m) 170 [.ptr 1000 0,tv e,I (9-(d:Int))] [.box [z0M,I (n:Int)]] (B (rt d e n).1) [.box [z0M,I ((rt d e n).2:Int)]]:=by
 intro d
 induction d with
 |zero=>
  intro _ e he n hn;refine zj tf_25 ?_;have w1:=wS n;unfold rt B;simp only[vW,seval,bmV,w1]
 |succ d ih=>
  intro hd e he n hn;refine zj tf_25 ?_;have w1:=wS n;have w2:IntKind.i64.wrap (9-((d+1:Nat):Int)+1)=9-(d:Int):=wG;have d1:¬(8:Int)<9-((d+1:Nat):Int):=by omega
  have HN:=zqd m e he ((n+1:Nat):Int);have HD:=fun e he n hn=>ih (by omega) e he n hn;have hl:=he.len;unfold B at*;generalize hR:rt (d+1) e n=R;unfold rt at hR;by_cases d2:(40:Int)<((n+1:Nat):Int)
  ·rw[if_neg (by omega)]at hR;subst hR;simp only[vW,seval,bmV,w1,d1,d2]
  simp only[vW,seval,bmV,w1,d1,d2];refine zK HN ?_;cases hN:z0F e
  ·rw[if_neg (by simp[hN])]at hR;subst hR;simp only[vW,seval,bmV]
  rw[if_pos ⟨by omega,hN⟩]at hR;simp only[vW,seval,bmV];refine zk (σ:={x:Nat×Nat // x.1≤e.l.length∧x.2≤40∧rtL (rt d) (e.l.drop x.1) x.2=R})
   (fun x=>⟨[(0,.ptr 1000 0),(2,I (9-((d+1:Nat):Int))),(32,.pv (.sl 4 (V.rows e.l))),(33,I (e.l.length:Int)),(34,I (x.1.1:Int))],[(1000,[z0M,I (x.1.2:Int)])],[],[]⟩)
   (fun x=>e.l.length-x.1.1) ⟨(0,n+1),by omega,by omega,by simpa using hR⟩ ?_ ?_
  ·exact lwA
  rintro⟨⟨i,n⟩,hi,hn,hq⟩;simp only at hi hn hq;by_cases hlt:i<e.l.length
  ·have d1:(i:Int)<(e.l.length:Int):=by omega
   obtain⟨y,ey⟩:∃y,e.l[i]?=some y:=⟨_,gE hlt⟩
   have HY:=HD y (he.sub (gM ey)) n hn;have w1:=wS i;have hdr:e.l.drop i=y::e.l.drop (i+1):=by rw[List.drop_eq_getElem_cons hlt];congr 1;exact(gJ ey).2
   rw[hdr]at hq;unfold rtL at hq;have hle:=(zpq d y n hn)
   rcases hr:rt d y n with⟨b,n'⟩
   rw[hr]at hq HY hle;simp only at hq HY hle;simp only[vW,seval,bmV,d1,ey,w2];refine zK HY ?_;cases b
   ·simp only at hq;subst hq;simp only[vW,seval,bmV]
   ·simp only at hq;have h3:n'≤40:=by
     have h4:=hle.1;have h5:=hle.2 rfl;rw[eq_comm,Bool.and_eq_true]at h4;have:=of_decide_eq_true h4.2;omega
    simp only[vW,seval,bmV,w1];refine zc ⟨(i+1,n'),by simp only;omega,h3,hq⟩ (by show e.l.length-(i+1)<e.l.length-i;omega) ?_;exact lwA
  ·have d1:¬(i:Int)<(e.l.length:Int):=by omega
   obtain rfl:i=e.l.length:=by omega
   rw[List.drop_length]at hq;unfold rtL at hq;subst hq;simp only[vW,seval,bmV,d1]
theorem z64(m:Nat)(e:V)(he:ESmall e):zC (gl0 m) 140 [tv e] [] (B (z15 e)) []:=by
 have HB:=zac (gl0 m);have HR:=zor m 8 (by omega) e he 0 (by omega);rw[zot]at HR;unfold B at*;refine za tf_99 ?_;simp only[vW,seval,bmV];refine z07 HB ?_;exact z4S HR
end Go.Proofs.YtpmlapgbmgbilaaGreatDoor
end
