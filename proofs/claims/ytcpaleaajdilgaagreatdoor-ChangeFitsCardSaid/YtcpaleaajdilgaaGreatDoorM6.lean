/- Merged texts: Ze4 Cd4 Ze5 PSign Sy1 S21 S22 S23 S24 Ze10 Px5 Ze11. No statement of the program is proved here. -/
import Derived.Test.YtcpaleaajdilgaaGreatDoorM1
import Derived.Test.YtcpaleaajdilgaaGreatDoorM2
import Derived.Test.YtcpaleaajdilgaaGreatDoorM3
import Derived.Test.YtcpaleaajdilgaaGreatDoorM4
import Derived.Test.YtcpaleaajdilgaaGreatDoorM5
import Derived.OrdersIn
import Derived.RangeFuncWrites
set_option linter.unusedSimpArgs false
set_option linter.unusedVariables false
set_option maxRecDepth 100000
set_option maxHeartbeats 8000000
section
namespace Go.Proofs.YtcpaleaajdilgaaGreatDoor
open Go Go.RowKit Go.Mor Go.Sh Go.Sh.Cd1 Go.Sh.Cd5
section
section
variable(g:Sh.Glob)(L:List Pc)(sz:Nat)
def EOk(f:Nat):Prop:=∀(least:Int) (p:Nat) (e:V) (p':Nat),0≤least→least≤5→p≤L.length→pE L sz f least p=some (.ok e p')→zC g 132 [.ptr 1000 0,I least] [.box (pB L p sz)] (tv e) [.box (pB L p' sz)]
def EBad(f:Nat):Prop:=∀(least:Int) (p a p':Nat),0≤least→least≤5→p≤L.length→pE L sz f least p=some (.bad a p')→SPan Tryz.prog g 132 [.ptr 1000 0,I least] [.box (pB L p sz)] (wrongV a) [.box (pB L p' sz)]
def TOk(f:Nat):Prop:=∀(p:Nat) (e:V) (p':Nat),p≤L.length→pT L sz f p=some (.ok e p')→zC g 208 [.ptr 1000 0] [.box (pB L p sz)] (tv e) [.box (pB L p' sz)]
def TBad(f:Nat):Prop:=∀(p a p':Nat),p≤L.length→pT L sz f p=some (.bad a p')→SPan Tryz.prog g 208 [.ptr 1000 0] [.box (pB L p sz)] (wrongV a) [.box (pB L p' sz)]
theorem pk_in{q:Pc}{p:Nat}(h:pkP L sz p=q)(hk:q.k≠0):p<L.length:=by
 rcases Nat.lt_or_ge p L.length with h1|h1
 ·exact h1
 ·rw[pkP,List.getElem?_eq_none h1]at h;subst h;exact absurd rfl hk
theorem z68{p:Nat}{t:zB}(h:isSg (pkP L sz p) t=true):p<L.length:=by
 refine pk_in L sz rfl ?_;unfold isSg at h;simp only[Bool.and_eq_true,beq_iff_eq]at h;rw[h.1];decide
theorem binds_rng(s:zB):0≤bindsV s∧bindsV s≤4:=by
 unfold bindsV
 repeat' split
 all_goals omega
theorem takes_rng(s:zB):0≤takesV s∧takesV s≤3:=by
 unfold takesV
 repeat' split
 all_goals omega
theorem p_le:∀f,(∀least p e p',p≤L.length→pE L sz f least p=some (.ok e p')→p'≤L.length)∧(∀least e0 p e p',p≤L.length→pL L sz f least e0 p=some (.ok e p')→p'≤L.length)∧
  (∀p e p',p≤L.length→pT L sz f p=some (.ok e p')→p'≤L.length)∧(∀n k p acc l p',p≤L.length→pH L sz f n k p acc=some (.ok l p')→p'≤L.length)
 |0=>⟨fun _ _ _ _ _ h=>by simp[pE]at h,fun _ _ _ _ _ _ h=>by simp[pL]at h,fun _ _ _ _ h=>by simp[pT]at h,fun _ _ _ _ _ _ _ h=>by simp[pH]at h⟩
 |f+1=>by
  obtain⟨h1,h2,h3,h4⟩:=p_le f;refine⟨fun least p e p' hp h=> ?_,fun least e0 p e p' hp h=> ?_,fun p e p' hp h=> ?_,fun n k p acc l p' hp h=> ?_⟩
  ·rw[pE]at h;split at h
   ·rename_i e1 p1 ht;exact h2 _ _ _ _ _ (h3 _ _ _ hp ht) h
   ·cases h
   ·cases h
  ·rw[pL]at h;split at h
   ·cases h;exact hp
   ·rename_i hk;rw[not_or]at hk;have hlt:=pk_in L sz (p:=p) rfl (by have:=hk.1;simp only[ne_eq,Decidable.not_not]at this;rw[this];decide);split at h
    ·rename_i e2 p2 he;exact h2 _ _ _ _ _ (h1 _ _ _ _ hlt he) h
    ·cases h
    ·cases h
  ·rw[pT]at h;split at h
   ·rename_i hs;have hlt:=z68 L sz hs;split at h
    ·rename_i e1 p1 he;split at h
     ·rename_i hs2;cases h;exact z68 L sz hs2
     ·cases h
    ·cases h
    ·cases h
   split at h
   ·rename_i hs;have hlt:=z68 L sz hs;split at h
    ·rename_i e1 p1 he;cases h;exact h3 _ _ _ hlt he
    ·cases h
    ·cases h
   split at h
   ·rename_i hk;cases h;exact pk_in L sz rfl (by rw[hk];decide)
   split at h
   ·rename_i hk;cases h;exact pk_in L sz rfl (by rw[hk];decide)
   split at h
   ·rename_i hk;have hlt:=pk_in L sz (p:=p) rfl (by rw[hk];decide);split at h
    ·rename_i ht;have hlt2:=z68 L sz ht.2;split at h
     ·rename_i l p1 he;cases h;exact h4 _ _ _ _ _ _ hlt2 he
     ·cases h
     ·cases h
    ·cases h;exact hlt
   ·cases h
  ·rw[pH]at h;split at h
   ·split at h
    ·cases h
    ·rename_i hk hs;have hp2:(if 0<k then p+1 else p)≤L.length:=by
      split
      ·rename_i h0;refine z68 L sz (t:=[44]) ?_;cases hh:isSg (pkP L sz p) [44]with
       |true=>rfl
       |false=>exact absurd ⟨h0,hh⟩ hs
      ·exact hp
     split at h
     ·rename_i e1 p1 he;exact h4 _ _ _ _ _ _ (h1 _ _ _ _ hp2 he) h
     ·cases h
     ·cases h
   ·split at h
    ·rename_i hs;cases h;exact z68 L sz hs
    ·cases h
variable{g L sz}
theorem expr_ok_of{f:Nat}(hL:L.length≤4611686018427387904)(ih:∀f',f'<f→EOk g L sz f'∧EBad g L sz f'∧TOk g L sz f'∧TBad g L sz f'):EOk g L sz f:=by
 intro least p e p' h0 h5 hp h;cases f with
 |zero=>simp[pE]at h
 |succ f=>
 rw[pE]at h;cases ht:pT L sz f p with
 |none=>rw[ht]at h;cases h
 |some r=>
 cases r with
 |bad a q=>rw[ht]at h;cases h
 |ok e1 p1=>
 rw[ht]at h;simp only at h;have HT:=(ih f (Nat.lt_succ_self f)).2.2.1 p e1 p1 hp ht;have hp1:=(p_le L sz f).2.2.1 p e1 p1 hp ht;refine z22 tf_24 ?_;have hml:L.length≤maxLen:=by unfold maxLen;omega
 unfold pB pcs at HT ⊢;simp only[vW,seval,bmV];(with_reducible apply vq_n);simp only[vW,seval,bmV];refine z35 HT ?_;refine v_loop (σ:={x:Nat×V×Nat // x.1≤f∧x.2.2≤L.length∧pL L sz x.1 least x.2.1 x.2.2=some (.ok e p')})
  (fun x=>⟨[(0,.ptr 1000 0),(1,I least),(4,.ptr 4 0),(5,.ptr 5 0)],[(1000,[.pv (.sl 4 (L.map pcR)),I (x.1.2.2:Int),I (sz:Int),bindM]),(4,[I 0,I 0,S ⟨#[]⟩,.pv (.v (.slice none 0 0))]),
   (5,[I x.1.2.1.k,I x.1.2.1.n,S (str x.1.2.1.s),.pv (.sl 4 (V.rows x.1.2.1.l))])],[],[]⟩) (fun x=>x.1.1) ⟨(f,e1,p1),Nat.le_refl _,hp1,h⟩ (lw_eq rfl) ?_
 rintro⟨⟨f1,e2,p2⟩,hf1,hp2,hl⟩;simp only at hf1 hp2 hl;cases f1 with
 |zero=>simp[pL]at hl
 |succ f1=>
 have HP:=peek_ok g L p2 sz hml;rw[pL]at hl;generalize hq:pkP L sz p2=q at HP hl;obtain⟨b0,b4⟩:=binds_rng q.s;unfold pB pcs pcT at HP;simp only[vW,seval,bmV];refine z27 HP ?_;by_cases hk:q.k=4
 ·by_cases hb:bindsV q.s<least
  ·rw[if_pos (.inr hb)]at hl;cases hl;simp only[vW,seval,bmV,hk,hb]
  ·rw[if_neg (by rw[not_or];exact⟨by simpa using hk,hb⟩)]at hl;have hlt:=pk_in L sz hq (by rw[hk];decide);cases he:pE L sz f1 (bindsV q.s+1) (p2+1)with
   |none=>rw[he]at hl;cases hl
   |some r=>
   cases r with
   |bad a q'=>rw[he]at hl;cases hl
   |ok e3 p3=>
   rw[he]at hl;simp only at hl;have HE:=(ih f1 (by omega)).1 (bindsV q.s+1) (p2+1) e3 p3 (by omega) (by omega) hlt he;have hp3:=(p_le L sz f1).1 _ _ _ _ hlt he;have w1:=wS p2;have w2:IntKind.i64.wrap (bindsV q.s+1)=bindsV q.s+1:=wrap64 (by omega) (by omega);unfold pB pcs at HE;simp only[vW,seval,bmV,hk,hb,w1];(with_reducible apply vq_n);simp only[vW,seval,bmV,w2];(with_reducible apply v_call);simp only[vW,seval,bmV,w2];rfl;rfl;exact HE;exact km;simp only[vW,seval,bmV,w2];rfl;simp only[vW,seval,bmV];refine z13 ⟨(f1,.mk 4 0 q.s [e2,e3],p3),by omega,hp3,hl⟩ (Nat.lt_succ_self f1) ?_;apply lw_of<;>simp[leL,lk,sv,Nat.beq,I,S,ES.kill,has,drp,nilT,bmV]
   exact⟨rfl,rfl,rfl,by rw[Vl,show V.rows [e2,e3]=[V.row e2,V.row e3] from rfl,row4,row4]⟩
 ·rw[if_pos (.inl hk)]at hl;cases hl;simp only[vW,seval,bmV,hk]
theorem expr_bad_of{f:Nat}(hL:L.length≤4611686018427387904)(ih:∀f',f'<f→EOk g L sz f'∧EBad g L sz f'∧TOk g L sz f'∧TBad g L sz f'):EBad g L sz f:=by
 intro least p a p' h0 h5 hp h;cases f with
 |zero=>simp[pE]at h
 |succ f=>
 have hml:L.length≤maxLen:=by unfold maxLen;omega
 rw[pE]at h;cases ht:pT L sz f p with
 |none=>rw[ht]at h;cases h
 |some r=>
 cases r with
 |bad a q=>
  rw[ht]at h;cases h;have HT:=(ih f (Nat.lt_succ_self f)).2.2.2 p a p' hp ht;refine pan_of hmix tf_24 rfl rfl rfl ?_
  conv in SFunc.code _=>reduce
  unfold pB pcs at HT ⊢;unfold wrongV at*;simp only[vW,seval,bmV];(with_reducible apply vq_p);simp only[vW,seval,bmV];(with_reducible apply z111);(· rfl);(· simp only[vW,seval,bmV];with_reducible rfl);(· exact HT);(· first|rfl|(simp only[vcA,seval];omega));(· simp only[vW,seval,bmV];with_reducible rfl);simp only[vW,seval,bmV]
 |ok e1 p1=>
 rw[ht]at h;simp only at h;have HT:=(ih f (Nat.lt_succ_self f)).2.2.1 p e1 p1 hp ht;have hp1:=(p_le L sz f).2.2.1 p e1 p1 hp ht;refine pan_of hmix tf_24 rfl rfl rfl ?_
 conv in SFunc.code _=>reduce
 unfold pB pcs at HT ⊢;unfold wrongV;simp only[vW,seval,bmV];(with_reducible apply vq_n);simp only[vW,seval,bmV];refine z35 HT ?_;refine v_loop (σ:={x:Nat×V×Nat // x.1≤f∧x.2.2≤L.length∧pL L sz x.1 least x.2.1 x.2.2=some (.bad a p')})
  (fun x=>⟨[(0,.ptr 1000 0),(1,I least),(4,.ptr 4 0),(5,.ptr 5 0)],[(1000,[.pv (.sl 4 (L.map pcR)),I (x.1.2.2:Int),I (sz:Int),bindM]),(4,[I 0,I 0,S ⟨#[]⟩,.pv (.v (.slice none 0 0))]),
   (5,[I x.1.2.1.k,I x.1.2.1.n,S (str x.1.2.1.s),.pv (.sl 4 (V.rows x.1.2.1.l))])],[],[]⟩) (fun x=>x.1.1) ⟨(f,e1,p1),Nat.le_refl _,hp1,h⟩ (lw_eq rfl) ?_
 rintro⟨⟨f1,e2,p2⟩,hf1,hp2,hl⟩;simp only at hf1 hp2 hl;cases f1 with
 |zero=>simp[pL]at hl
 |succ f1=>
 have HP:=peek_ok g L p2 sz hml;rw[pL]at hl;generalize hq:pkP L sz p2=q at HP hl;obtain⟨b0,b4⟩:=binds_rng q.s;unfold pB pcs pcT at HP;simp only[vW,seval,bmV];refine z27 HP ?_;by_cases hk:q.k=4
 ·by_cases hb:bindsV q.s<least
  ·rw[if_pos (.inr hb)]at hl;cases hl
  ·rw[if_neg (by rw[not_or];exact⟨by simpa using hk,hb⟩)]at hl;have hlt:=pk_in L sz hq (by rw[hk];decide);have w1:=wS p2;have w2:IntKind.i64.wrap (bindsV q.s+1)=bindsV q.s+1:=wrap64 (by omega) (by omega);cases he:pE L sz f1 (bindsV q.s+1) (p2+1)with
   |none=>rw[he]at hl;cases hl
   |some r=>
   cases r with
   |bad a2 q'=>
    rw[he]at hl;cases hl;have HE:=(ih f1 (by omega)).2.1 (bindsV q.s+1) (p2+1) a p' (by omega) (by omega) hlt he;unfold pB pcs wrongV at HE;simp only[vW,seval,bmV,hk,hb,w1];(with_reducible apply vq_p);simp only[vW,seval,bmV,w2];(with_reducible apply z111);(· rfl);(· simp only[vW,seval,bmV,w2];with_reducible rfl);(· exact HE);(· first|rfl|(simp only[vcA,seval];omega));(· simp only[vW,seval,bmV,w2];with_reducible rfl);simp only[vW,seval,bmV,w2]
   |ok e3 p3=>
   rw[he]at hl;simp only at hl;have HE:=(ih f1 (by omega)).1 (bindsV q.s+1) (p2+1) e3 p3 (by omega) (by omega) hlt he;have hp3:=(p_le L sz f1).1 _ _ _ _ hlt he;unfold pB pcs at HE;simp only[vW,seval,bmV,hk,hb,w1];(with_reducible apply vq_n);simp only[vW,seval,bmV,w2];(with_reducible apply v_call);simp only[vW,seval,bmV,w2];rfl;rfl;exact HE;exact km;simp only[vW,seval,bmV,w2];rfl;simp only[vW,seval,bmV];refine z13 ⟨(f1,.mk 4 0 q.s [e2,e3],p3),by omega,hp3,hl⟩ (Nat.lt_succ_self f1) ?_;apply lw_of<;>simp[leL,lk,sv,Nat.beq,I,S,ES.kill,has,drp,nilT,bmV]
   exact⟨rfl,rfl,rfl,by rw[Vl,show V.rows [e2,e3]=[V.row e2,V.row e3] from rfl,row4,row4]⟩
 ·rw[if_pos (.inl hk)]at hl;cases hl
theorem z100(l:List V)(x:V):V.rows (l++[x])=V.rows l++[[.v (.int .i64 x.k),.v (.int .i64 x.n),.v (.string (str x.s)),.sl 4 (V.rows x.l)]]:=by rw[z41,z41,List.map_append,List.map_cons,List.map_nil,row4]
theorem things_ok_of{f:Nat}(hL:L.length≤4611686018427387904)(ih:∀f',f'<f→EOk g L sz f')(n p:Nat)(l:List V)(p':Nat)(hn0:0<n)(hn:n≤3)(hp:p≤L.length)(h:pH L sz f n 0 p []=some (.ok l p')):
  zC g 250 [.ptr 1000 0,I (n:Int)] [.box (pB L p sz)] (.pv (.sl 4 (V.rows l))) [.box (pB L p' sz)]:=by
 have hml:L.length<maxLen:=by unfold maxLen;omega
 refine z22 tf_25 ?_;unfold pB pcs at*;simp only[vW,seval,bmV];refine v_loop (σ:={x:Nat×Nat×Nat×List V // x.1≤f∧x.2.1≤n∧x.2.2.1≤L.length∧x.2.2.2.length=x.2.1∧pH L sz x.1 n x.2.1 x.2.2.1 x.2.2.2=some (.ok l p')})
  (fun x=>⟨[(0,.ptr 1000 0),(5,.own 3000 4 (V.rows x.1.2.2.2)),(7,I (n:Int)),(8,I (x.1.2.1:Int))],[(1000,[.pv (.sl 4 (L.map pcR)),I (x.1.2.2.1:Int),I (sz:Int),bindM])],[(3000,(76,4,x.1.2.1))],[]⟩) (fun x=>x.1.1) ⟨(f,0,p,[]),Nat.le_refl _,Nat.zero_le _,hp,rfl,h⟩ ?_ ?_
 ·refine ES.Lw.trans ?_ (adT_lw (k:=5) (d:=3000) (e:=76) (W:=4) (.inr (by decide)) rfl);exact lw_eq rfl
 rintro⟨⟨f1,k,p1,acc⟩,hf1,hk,hp1,hacc,hl⟩;simp only at hf1 hk hp1 hacc hl;cases f1 with
 |zero=>simp[pH]at hl
 |succ f1=>
 rw[pH]at hl;by_cases hkn:k<n
 ·rw[if_pos hkn]at hl;have d1:(k:Int)<(n:Int):=by omega
  split at hl
  ·cases hl
  rename_i hcom;cases he:pE L sz f1 1 (if 0<k then p1+1 else p1)with
  |none=>rw[he]at hl;cases hl
  |some r=>
  cases r with
  |bad a q'=>rw[he]at hl;cases hl
  |ok e3 p3=>
  rw[he]at hl;simp only at hl;have wk:=wS k;have hacc':(V.rows acc).length=k:=by rw[z65,hacc]
  by_cases h0:0<k
  ·rw[if_pos h0]at he;have hs:isSg (pkP L sz p1) [44]=true:=by
    cases hh:isSg (pkP L sz p1) [44]with
    |true=>rfl
    |false=>exact absurd ⟨h0,hh⟩ hcom
   have hlt:=z68 L sz hs;have HN:=need_ok g L p1 sz [44] (by omega) (by omega) hs;have HE:=ih f1 (by omega) 1 (p1+1) e3 p3 (by omega) (by omega) hlt he;have hp3:=(p_le L sz f1).1 _ _ _ _ hlt he;have d0:(0:Int)<(k:Int):=by omega
   have q44:=bS [44];unfold pB pcs at HN HE;simp only[vW,seval,bmV,d1,d0];(with_reducible apply vq_n);simp only[vW,seval,bmV,q44];refine z35 HN ?_;(with_reducible apply vq_n);simp only[vW,seval,bmV];refine z27 HE ?_;simp only[vW,seval,bmV,hacc',wk];refine⟨⟨by omega,by unfold maxLen;omega⟩,z13 ⟨(f1,k+1,p3,acc++[e3]),by omega,hkn,hp3,by simp[hacc],hl⟩ (Nat.lt_succ_self f1) ?_⟩;refine lw_eq ?_;simp only[z100,I]
  ·rw[if_neg h0]at he;obtain rfl:k=0:=by omega
   have HE:=ih f1 (by omega) 1 p1 e3 p3 (by omega) (by omega) hp1 he;have hp3:=(p_le L sz f1).1 _ _ _ _ hp1 he;have d2:(0:Int)<(n:Int):=by omega
   have w01:IntKind.i64.wrap 1=1:=by decide
   unfold pB pcs at HE;simp only[vW,seval,bmV,d2];(with_reducible apply vq_n);simp only[vW,seval,bmV];refine z27 HE ?_;simp only[vW,seval,bmV,hacc',w01];refine⟨by unfold maxLen;omega,z13 ⟨(f1,1,p3,acc++[e3]),by omega,hkn,hp3,by simp[hacc],hl⟩ (Nat.lt_succ_self f1) ?_⟩;refine lw_eq ?_;simp only[z100,I];rfl
 ·rw[if_neg hkn]at hl;have d1:¬(k:Int)<(n:Int):=by omega
  split at hl
  ·rename_i hs;cases hl;have hlt:=z68 L sz hs;have HN:=need_ok g L p1 sz [41] (by omega) (by omega) hs;have q41:=bS [41];unfold pB pcs at HN;simp only[vW,seval,bmV,d1];(with_reducible apply vq_n);simp only[vW,seval,bmV,q41];exact z91 HN
  ·cases hl
theorem things_bad_of{f:Nat}(hL:L.length≤4611686018427387904)(ih:∀f',f'<f→EOk g L sz f')(ihb:∀f',f'<f→EBad g L sz f')(n p a p':Nat)(hn0:0<n)(hn:n≤3)(hp:p≤L.length)(h:pH L sz f n 0 p []=some (.bad a p')):
  SPan Tryz.prog g 250 [.ptr 1000 0,I (n:Int)] [.box (pB L p sz)] (wrongV a) [.box (pB L p' sz)]:=by
 have hml:L.length<maxLen:=by unfold maxLen;omega
 refine pan_of hmix tf_25 rfl rfl rfl ?_
 conv in SFunc.code _=>reduce
 unfold pB pcs wrongV at*;simp only[vW,seval,bmV];refine v_loop (σ:={x:Nat×Nat×Nat×List V // x.1≤f∧x.2.1≤n∧x.2.2.1≤L.length∧x.2.2.2.length=x.2.1∧pH L sz x.1 n x.2.1 x.2.2.1 x.2.2.2=some (.bad a p')})
  (fun x=>⟨[(0,.ptr 1000 0),(5,.own 3000 4 (V.rows x.1.2.2.2)),(7,I (n:Int)),(8,I (x.1.2.1:Int))],[(1000,[.pv (.sl 4 (L.map pcR)),I (x.1.2.2.1:Int),I (sz:Int),bindM])],[(3000,(76,4,x.1.2.1))],[]⟩) (fun x=>x.1.1) ⟨(f,0,p,[]),Nat.le_refl _,Nat.zero_le _,hp,rfl,h⟩ ?_ ?_
 ·refine ES.Lw.trans ?_ (adT_lw (k:=5) (d:=3000) (e:=76) (W:=4) (.inr (by decide)) rfl);exact lw_eq rfl
 rintro⟨⟨f1,k,p1,acc⟩,hf1,hk,hp1,hacc,hl⟩;simp only at hf1 hk hp1 hacc hl;cases f1 with
 |zero=>simp[pH]at hl
 |succ f1=>
 rw[pH]at hl;by_cases hkn:k<n
 ·rw[if_pos hkn]at hl;have d1:(k:Int)<(n:Int):=by omega
  by_cases hcom:0<k∧isSg (pkP L sz p1) [44]=false
  ·rw[if_pos hcom]at hl;cases hl;have HN:=need_pan g L p' sz [44] (by omega) (by omega) hcom.2;have d0:(0:Int)<(k:Int):=by omega
   have q44:=bS [44];unfold pB pcs wrongV at HN;simp only[vW,seval,bmV,d1,d0];(with_reducible apply vq_p);simp only[vW,seval,bmV,q44];(with_reducible apply z111);(· rfl);(· simp only[vW,seval,bmV];with_reducible rfl);(· exact HN);(· first|rfl|(simp only[vcA,seval];omega));(· simp only[vW,seval,bmV];with_reducible rfl);simp only[vW,seval,bmV]
  rw[if_neg hcom]at hl;have wk:=wS k;have hacc':(V.rows acc).length=k:=by rw[z65,hacc]
  by_cases h0:0<k
  ·rw[if_pos h0]at hl;have hs:isSg (pkP L sz p1) [44]=true:=by
    cases hh:isSg (pkP L sz p1) [44]with
    |true=>rfl
    |false=>exact absurd ⟨h0,hh⟩ hcom
   have hlt:=z68 L sz hs;have HN:=need_ok g L p1 sz [44] (by omega) (by omega) hs;have d0:(0:Int)<(k:Int):=by omega
   have q44:=bS [44];unfold pB pcs at HN;simp only[vW,seval,bmV,d1,d0];(with_reducible apply vq_n);simp only[vW,seval,bmV,q44];refine z35 HN ?_;cases he:pE L sz f1 1 (p1+1)with
   |none=>rw[he]at hl;cases hl
   |some r=>
   cases r with
   |bad a2 q'=>
    rw[he]at hl;cases hl;have HE:=ihb f1 (by omega) 1 (p1+1) a p' (by omega) (by omega) hlt he;unfold pB pcs wrongV at HE;(with_reducible apply vq_p);simp only[vW,seval,bmV];(with_reducible apply z111);(· rfl);(· simp only[vW,seval,bmV];with_reducible rfl);(· exact HE);(· first|rfl|(simp only[vcA,seval];omega));(· simp only[vW,seval,bmV];with_reducible rfl);simp only[vW,seval,bmV]
   |ok e3 p3=>
   rw[he]at hl;simp only at hl;have HE:=ih f1 (by omega) 1 (p1+1) e3 p3 (by omega) (by omega) hlt he;have hp3:=(p_le L sz f1).1 _ _ _ _ hlt he;unfold pB pcs at HE;(with_reducible apply vq_n);simp only[vW,seval,bmV];refine z27 HE ?_;simp only[vW,seval,bmV,hacc',wk];refine⟨⟨by omega,by unfold maxLen;omega⟩,z13 ⟨(f1,k+1,p3,acc++[e3]),by omega,hkn,hp3,by simp[hacc],hl⟩ (Nat.lt_succ_self f1) ?_⟩;refine lw_eq ?_;simp only[z100,I]
  ·rw[if_neg h0]at hl;obtain rfl:k=0:=by omega
   have d2:(0:Int)<(n:Int):=by omega
   have w01:IntKind.i64.wrap 1=1:=by decide
   simp only[vW,seval,bmV,d2];cases he:pE L sz f1 1 p1 with
   |none=>rw[he]at hl;cases hl
   |some r=>
   cases r with
   |bad a2 q'=>
    rw[he]at hl;cases hl;have HE:=ihb f1 (by omega) 1 p1 a p' (by omega) (by omega) hp1 he;unfold pB pcs wrongV at HE;(with_reducible apply vq_p);simp only[vW,seval,bmV];(with_reducible apply z111);(· rfl);(· simp only[vW,seval,bmV];with_reducible rfl);(· exact HE);(· first|rfl|(simp only[vcA,seval];omega));(· simp only[vW,seval,bmV];with_reducible rfl);simp only[vW,seval,bmV]
   |ok e3 p3=>
   rw[he]at hl;simp only at hl;have HE:=ih f1 (by omega) 1 p1 e3 p3 (by omega) (by omega) hp1 he;have hp3:=(p_le L sz f1).1 _ _ _ _ hp1 he;unfold pB pcs at HE;(with_reducible apply vq_n);simp only[vW,seval,bmV];refine z27 HE ?_;simp only[vW,seval,bmV,hacc',w01];refine⟨by unfold maxLen;omega,z13 ⟨(f1,1,p3,acc++[e3]),by omega,hkn,hp3,by simp[hacc],hl⟩ (Nat.lt_succ_self f1) ?_⟩;refine lw_eq ?_;simp only[z100,I];rfl
 ·rw[if_neg hkn]at hl;have d1:¬(k:Int)<(n:Int):=by omega
  split at hl
  ·cases hl
  ·rename_i hs;cases hl;have HN:=need_pan g L p' sz [41] (by omega) (by omega) (by simpa using hs);have q41:=bS [41];unfold pB pcs wrongV at HN;simp only[vW,seval,bmV,d1];(with_reducible apply vq_p);simp only[vW,seval,bmV,q41];(with_reducible apply z111);(· rfl);(· simp only[vW,seval,bmV];with_reducible rfl);(· exact HN);(· first|rfl|(simp only[vcA,seval];omega));(· simp only[vW,seval,bmV];with_reducible rfl);simp only[vW,seval,bmV]
theorem nv_out(k n:Int)(t:zB):Wk (nv (.mk k n t [])) (tv (.mk k n t [])):=nv_tv rfl
theorem tight_ok_of{f:Nat}(hL:L.length≤4611686018427387904)(ih:∀f',f'<f→EOk g L sz f'∧EBad g L sz f'∧TOk g L sz f'∧TBad g L sz f'):TOk g L sz f:=by
 intro p e p' hp h;have hml:L.length<maxLen:=by unfold maxLen;omega
 cases f with
 |zero=>simp[pT]at h
 |succ f=>
 have T40:=take_ok g L p sz [40] (by omega) (by omega);have T45:=take_ok g L p sz [45] (by omega) (by omega);have q40:=bS [40];have q41:=bS [41];have q45:=bS [45];rw[pT]at h;by_cases h40:isSg (pkP L sz p) [40]=true
 ·rw[if_pos h40]at h;rw[h40,if_pos rfl]at T40;have hlt:=z68 L sz h40;cases he:pE L sz f 1 (p+1)with
  |none=>rw[he]at h;cases h
  |some r=>
  cases r with
  |bad a q'=>rw[he]at h;cases h
  |ok e1 p1=>
  rw[he]at h;simp only at h;split at h
  ·rename_i h41;cases h;have HE:=(ih f (Nat.lt_succ_self f)).1 1 (p+1) e p1 (by omega) (by omega) hlt he;have hp1:=(p_le L sz f).1 _ _ _ _ hlt he;have HN:=need_ok g L p1 sz [41] (by omega) (by omega) h41;refine z22 tf_26 ?_;unfold pB pcs B at*;simp only[vW,seval,bmV,q40];refine z35 T40 ?_;(with_reducible apply vq_n);simp only[vW,seval,bmV];refine z35 HE ?_;(with_reducible apply vq_n);simp only[vW,seval,bmV,q41];exact z91 HN
  ·cases h
 have h40:isSg (pkP L sz p) [40]=false:=by simpa using h40
 rw[h40,if_neg (by simp)]at T40;rw[if_neg (by simp[h40])]at h;by_cases h45:isSg (pkP L sz p) [45]=true
 ·rw[if_pos h45]at h;rw[h45,if_pos rfl]at T45;have hlt:=z68 L sz h45;cases he:pT L sz f (p+1)with
  |none=>rw[he]at h;cases h
  |some r=>
  cases r with
  |bad a q'=>rw[he]at h;cases h
  |ok e1 p1=>
  rw[he]at h;cases h;have HE:=(ih f (Nat.lt_succ_self f)).2.2.1 (p+1) e1 p' hlt he;refine z22 tf_26 ?_;unfold pB pcs B at*;simp only[vW,seval,bmV,q40];refine z27 T40 ?_;simp only[vW,seval,bmV,q45];refine z35 T45 ?_;(with_reducible apply vq_n);simp only[vW,seval,bmV];refine z27 HE ?_;simp only[vW,seval,bmV,q45];rw[show V.rows [e1]=[V.row e1] from rfl,row4]
 have h45:isSg (pkP L sz p) [45]=false:=by simpa using h45
 rw[h45,if_neg (by simp)]at T45;rw[if_neg (by simp[h45])]at h;have HP:=peek_ok g L p sz (by omega);have w1:IntKind.i64.wrap ((p:Int)+1)=((p+1:Nat):Int):=by unfold maxLen at hml;rw[wrap64 (by omega) (by omega)];omega
 have hin:=fun hk=>pk_in L sz (p:=p) rfl hk;generalize hq:pkP L sz p=q at*;by_cases k1:q.k=1
 ·rw[if_pos k1]at h;cases h;refine SCalls.out ?_ (nv_out 1 q.n []);refine z22 tf_26 ?_;unfold pB pcs B pcT at*;simp only[vW,seval,bmV,q40];refine z27 T40 ?_;simp only[vW,seval,bmV,q45];refine z35 T45 ?_;refine z27 HP ?_;simp only[vW,seval,bmV,k1,w1];rfl
 rw[if_neg k1]at h;by_cases k2:q.k=2
 ·rw[if_pos k2]at h;cases h;refine SCalls.out ?_ (nv_out 2 0 q.s);refine z22 tf_26 ?_;unfold pB pcs B pcT at*;simp only[vW,seval,bmV,q40];refine z27 T40 ?_;simp only[vW,seval,bmV,q45];refine z35 T45 ?_;refine z27 HP ?_;simp only[vW,seval,bmV,k2,w1]
 rw[if_neg k2]at h;by_cases k3:q.k=3
 ·rw[if_pos k3]at h;have hlt:=hin (by rw[k3];decide);have HK:=takes_ok g q.s;obtain⟨t0,t3⟩:=takes_rng q.s;have T2:=take_ok g L (p+1) sz [40] (by omega) (by omega);have hin2:isSg (pkP L sz (p+1)) [40]=true→p+1<L.length:=fun h=>z68 L sz h;generalize isSg (pkP L sz (p+1)) [40]=b at*;generalize ht:takesV q.s=t at*;by_cases hc:0<t∧b=true
  ·rw[if_pos hc]at h;obtain⟨hc1,rfl⟩:=hc;rw[if_pos rfl]at T2;cases he:pH L sz f t.toNat 0 (p+2) []with
   |none=>rw[he]at h;cases h
   |some r=>
   cases r with
   |bad a q'=>rw[he]at h;cases h
   |ok l p1=>
   rw[he]at h;cases h;have HH:=things_ok_of hL (fun f' hf'=>(ih f' (by omega)).1) t.toNat (p+2) l p' (by omega) (by omega) (hin2 rfl) he;have ht2:((t.toNat:Nat):Int)=t:=by omega
   rw[ht2]at HH;refine z22 tf_26 ?_;unfold pB pcs B pcT at*;simp only[vW,seval,bmV,q40];refine z27 T40 ?_;simp only[vW,seval,bmV,q45];refine z35 T45 ?_;refine z27 HP ?_;simp only[vW,seval,bmV,k3,w1];refine z7 HK ?_;simp only[vW,seval,bmV,hc1,q40];refine z35 T2 ?_;(with_reducible apply vq_n);simp only[vW,seval,bmV];exact z91 HH
  ·rw[if_neg hc]at h;cases h;refine SCalls.out ?_ (nv_out 3 0 q.s);refine z22 tf_26 ?_;unfold pB pcs B pcT at*;simp only[vW,seval,bmV,q40];refine z27 T40 ?_;simp only[vW,seval,bmV,q45];refine z35 T45 ?_;refine z27 HP ?_;simp only[vW,seval,bmV,k3,w1];refine z7 HK ?_;by_cases hc1:0<t
   ·have hb:b=false:=by simpa [hc1]using hc
    rw[hb,if_neg (by simp)]at T2;simp only[vW,seval,bmV,hc1,q40];exact z91 T2
   ·simp only[vW,seval,bmV,hc1]
 rw[if_neg k3]at h;cases h
theorem tight_bad_of{f:Nat}(hL:L.length≤4611686018427387904)(ih:∀f',f'<f→EOk g L sz f'∧EBad g L sz f'∧TOk g L sz f'∧TBad g L sz f'):TBad g L sz f:=by
 intro p a p' hp h;have hml:L.length<maxLen:=by unfold maxLen;omega
 cases f with
 |zero=>simp[pT]at h
 |succ f=>
 have T40:=take_ok g L p sz [40] (by omega) (by omega);have T45:=take_ok g L p sz [45] (by omega) (by omega);have q40:=bS [40];have q41:=bS [41];have q45:=bS [45];rw[pT]at h;refine pan_of hmix tf_26 rfl rfl rfl ?_
 conv in SFunc.code _=>reduce
 by_cases h40:isSg (pkP L sz p) [40]=true
 ·rw[if_pos h40]at h;rw[h40,if_pos rfl]at T40;have hlt:=z68 L sz h40;unfold pB pcs B wrongV at*;simp only[vW,seval,bmV,q40];refine z35 T40 ?_;cases he:pE L sz f 1 (p+1)with
  |none=>rw[he]at h;cases h
  |some r=>
  cases r with
  |bad a q'=>
   rw[he]at h;cases h;have HE:=(ih f (Nat.lt_succ_self f)).2.1 1 (p+1) a p' (by omega) (by omega) hlt he;unfold pB pcs wrongV at HE;(with_reducible apply vq_p);simp only[vW,seval,bmV];(with_reducible apply z111);(· rfl);(· simp only[vW,seval,bmV];with_reducible rfl);(· exact HE);(· first|rfl|(simp only[vcA,seval];omega));(· simp only[vW,seval,bmV];with_reducible rfl);simp only[vW,seval,bmV]
  |ok e1 p1=>
  rw[he]at h;simp only at h;have HE:=(ih f (Nat.lt_succ_self f)).1 1 (p+1) e1 p1 (by omega) (by omega) hlt he;have hp1:=(p_le L sz f).1 _ _ _ _ hlt he;unfold pB pcs at HE;(with_reducible apply vq_n);simp only[vW,seval,bmV];refine z35 HE ?_;split at h
  ·cases h
  ·rename_i h41;cases h;have HN:=need_pan g L p' sz [41] (by omega) (by omega) (by simpa using h41);unfold pB pcs wrongV at HN;(with_reducible apply vq_p);simp only[vW,seval,bmV,q41];(with_reducible apply z111);(· rfl);(· simp only[vW,seval,bmV];with_reducible rfl);(· exact HN);(· first|rfl|(simp only[vcA,seval];omega));(· simp only[vW,seval,bmV];with_reducible rfl);simp only[vW,seval,bmV]
 have h40:isSg (pkP L sz p) [40]=false:=by simpa using h40
 rw[h40,if_neg (by simp)]at T40;rw[if_neg (by simp[h40])]at h;by_cases h45:isSg (pkP L sz p) [45]=true
 ·rw[if_pos h45]at h;rw[h45,if_pos rfl]at T45;have hlt:=z68 L sz h45;unfold pB pcs B wrongV at*;simp only[vW,seval,bmV,q40];refine z27 T40 ?_;simp only[vW,seval,bmV,q45];refine z35 T45 ?_;cases he:pT L sz f (p+1)with
  |none=>rw[he]at h;cases h
  |some r=>
  cases r with
  |ok e1 q'=>rw[he]at h;cases h
  |bad a q'=>
  rw[he]at h;cases h;have HE:=(ih f (Nat.lt_succ_self f)).2.2.2 (p+1) a p' hlt he;unfold pB pcs wrongV at HE;(with_reducible apply vq_p);simp only[vW,seval,bmV];(with_reducible apply z111);(· rfl);(· simp only[vW,seval,bmV];with_reducible rfl);(· exact HE);(· first|rfl|(simp only[vcA,seval];omega));(· simp only[vW,seval,bmV];with_reducible rfl);simp only[vW,seval,bmV]
 have h45:isSg (pkP L sz p) [45]=false:=by simpa using h45
 rw[h45,if_neg (by simp)]at T45;rw[if_neg (by simp[h45])]at h;have HP:=peek_ok g L p sz (by omega);have w1:IntKind.i64.wrap ((p:Int)+1)=((p+1:Nat):Int):=by unfold maxLen at hml;rw[wrap64 (by omega) (by omega)];omega
 have hin:=fun hk=>pk_in L sz (p:=p) rfl hk;have HK:=takes_ok g (pkP L sz p).s;have T2:=take_ok g L (p+1) sz [40] (by omega);have hin2:isSg (pkP L sz (p+1)) [40]=true→p+1<L.length:=fun h=>z68 L sz h;generalize isSg (pkP L sz (p+1)) [40]=b at*;generalize hq:pkP L sz p=q at*;unfold pB pcs B pcT wrongV at*;simp only[vW,seval,bmV,q40];refine z27 T40 ?_;simp only[vW,seval,bmV,q45];refine z35 T45 ?_;refine z27 HP ?_;by_cases k1:q.k=1
 ·rw[if_pos k1]at h;cases h
 rw[if_neg k1]at h;by_cases k2:q.k=2
 ·rw[if_pos k2]at h;cases h
 rw[if_neg k2]at h;by_cases k3:q.k=3
 ·rw[if_pos k3]at h;have hlt:=hin (by rw[k3];decide);obtain⟨t0,t3⟩:=takes_rng q.s;have T2:=T2 (by omega);generalize ht:takesV q.s=t at*;by_cases hc:0<t∧b=true
  ·rw[if_pos hc]at h;obtain⟨hc1,rfl⟩:=hc;rw[if_pos rfl]at T2;cases he:pH L sz f t.toNat 0 (p+2) []with
   |none=>rw[he]at h;cases h
   |some r=>
   cases r with
   |ok l p1=>rw[he]at h;cases h
   |bad a q'=>
   rw[he]at h;cases h;have HH:=things_bad_of hL (fun f' hf'=>(ih f' (by omega)).1) (fun f' hf'=>(ih f' (by omega)).2.1) t.toNat (p+2) a p' (by omega) (by omega) (hin2 rfl) he;have ht2:((t.toNat:Nat):Int)=t:=by omega
   rw[ht2]at HH;unfold pB pcs wrongV at HH;simp only[vW,seval,bmV,k3,w1];refine z7 HK ?_;simp only[vW,seval,bmV,hc1,q40];refine z35 T2 ?_;(with_reducible apply vq_p);simp only[vW,seval,bmV];(with_reducible apply z111);(· rfl);(· simp only[vW,seval,bmV];with_reducible rfl);(· exact HH);(· first|rfl|(simp only[vcA,seval];omega));(· simp only[vW,seval,bmV];with_reducible rfl);simp only[vW,seval,bmV]
  ·rw[if_neg hc]at h;cases h
 rw[if_neg k3]at h;cases h;simp only[vW,seval,bmV,k1,k2,k3,w1];(with_reducible apply vq_p);simp only[vW,seval,bmV]
theorem parser_ok(hL:L.length≤4611686018427387904)(f:Nat):EOk g L sz f∧EBad g L sz f∧TOk g L sz f∧TBad g L sz f:=by
 induction f using Nat.strongRecOn with
 |_ f ih=>exact⟨expr_ok_of hL ih,expr_bad_of hL ih,tight_ok_of hL ih,tight_bad_of hL ih⟩
end
end
end Go.Proofs.YtcpaleaajdilgaaGreatDoor
end

section
namespace Go.Sh.Cd4
open Go Go.Sh
abbrev gQ(a:GA):Prop:=gT Go.Proofs.Tryz.prog a
theorem gK{a:GA}(h:gQ a:=by unfold gQ gT;kernel_rfl):gQ a:=h
theorem tf_104:gQ ⟨12,81,[(10,0),(11,0),(14,0),(37,0),(42,0),(52,0),(69,0),(77,0)],[],[[0],[10],[11017],[],[18025],[7,27028,73],[26,29033],[34045],[46048],[49055],[6,49,56064],[8,65071],[9,72],[7,73079],[1,3005,80]],[.cell true 2 2],false⟩:=gK
theorem tf_106:gQ ⟨13,43,[(39,0),(40,0)],[],[[0,6],[],[],[10013],[15016],[14,17],[18019],[20029],[9,20,30041],[1003,7008,42]],[.tmp 6],false⟩:=gK
theorem tf_52:gQ ⟨19,41,[],[],[[0,4005],[8009],[1002,10],[4005,10015],[1002,16022],[2,4005,16,23],[],[27030],[7,31037],[1,6,24026,38039],[4006,38,40],[1,24026]],[.tmp 4,.tmp 5],false⟩:=gK
theorem tf_55:gQ ⟨33,39,[],[],[[0,2],[7015],[1,16],[2,16017],[],[21024],[25026],[1,3004,18020,27],[2,4,6,27034],[3,5,35036],[1,18020,37],[2,37038],[1,18020]],[.tmp 2],false⟩:=gK
theorem tf_53:gQ ⟨34,14,[(10,1)],[],[[1000001,4005],[2003,7010],[11],[6,12],[6,12013]],[.tmp 4,.tmp 5],false⟩:=gK
theorem tf_125:gQ ⟨43,38,[],[],[[1000001,4],[6018],[2003,19],[4,19],[20023],[4,25026,37],[24,27036],[2003,5,37],[2003,5]],[.tmp 4],false⟩:=gK
theorem tf_56:gQ ⟨44,27,[],[],[[0,2],[3004],[1,5013],[1,5,14026]],[.tmp 2],false⟩:=gK
theorem tf_107:gQ ⟨45,13,[],[],[[4],[5],[6009],[1000001,6,10012]],[.tmp 4],false⟩:=gK
theorem tf_121:gQ ⟨46,23,[],[],[[0,4005],[],[7010],[4005,12013,21],[11,14020],[1002,6,21022],[1002,6]],[.tmp 4,.tmp 5],false⟩:=gK
theorem tf_105:gQ ⟨47,67,[(10,0),(16,0),(23,0),(34,0),(42,0),(48,0),(62,0),(63,0)],[],[[0],[10],[11],[14],[1003,7,12013,15018],[13,20],[1003,7,12,19,21026],[7,19,28],[12,29],[12,27,30035],[1003,36037],[1003,36,38044],[12,27,45],[],[46048],[50051],[49,52065],[1003,8009,66]],[.cell true 4 6],false⟩:=gK
theorem tf_58:gQ ⟨69,47,[],[],[[2],[4016],[0,17],[2,17018],[],[21022],[3,23044],[0,19020,45],[2,45046],[0,19020]],[.tmp 2],false⟩:=gK
theorem tf_57:gQ ⟨70,22,[],[],[[0,2],[3011],[1,12],[1,12021]],[.tmp 2],false⟩:=gK
theorem tf_151:gQ ⟨71,19,[(16,1)],[],[[4],[6],[],[9010],[11015],[1000001,5,7008,16017],[4005,16,18],[1000001,7008]],[.tmp 4],false⟩:=gK
theorem tf_54:gQ ⟨72,8,[],[],[[0,3],[1002,4007]],[.tmp 3],false⟩:=gK
theorem tf_123:gQ ⟨112,62,[],[],[[0,2],[6014],[1,15],[2,15],[16019],[4005,21022],[20,23027],[28046],[1,3004,47],[2,47],[48049],[2,51052,61],[50,53060],[1,3005,61],[1,3]],[.tmp 2],false⟩:=gK
theorem tf_59:gQ ⟨128,9,[],[],[[2],[0,3008]],[.tmp 2],false⟩:=gK
theorem tf_122:gQ ⟨170,56,[],[],[[2],[6012],[0,13],[2,13],[14016],[2,18019,55],[17,20029],[30045],[4005,46054],[0,3,55],[0,3]],[.tmp 2],false⟩:=gK
theorem tf_124:gQ ⟨171,21,[],[],[[0,2],[1,3020]],[.tmp 2],false⟩:=gK
theorem tf_126:gQ ⟨226,9,[],[],[[2],[0,3008]],[.tmp 2],false⟩:=gK
noncomputable def funcs:Nat→Option SFunc
 |11=>some (gD Go.Proofs.Tryz.prog ⟨11,176,[],[],[[0],[23028],[29],[3,30037],[5,38045],[46052],[2,53060],[61065],[66073],[16017,74079],[80084],[21,85089],[1,4,6015,18020,22,90175]],[.tmp 0],false⟩)
 |19=>some (gD Go.Proofs.Tryz.prog ⟨19,41,[],[],[[0,4005],[8009],[1002,10],[4005,10015],[1002,16022],[2,4005,16,23],[],[27030],[7,31037],[1,6,24026,38039],[4006,38,40],[1,24026]],[.tmp 4,.tmp 5],false⟩)
 |33=>some (gD Go.Proofs.Tryz.prog ⟨33,39,[],[],[[0,2],[7015],[1,16],[2,16017],[],[21024],[25026],[1,3004,18020,27],[2,4,6,27034],[3,5,35036],[1,18020,37],[2,37038],[1,18020]],[.tmp 2],false⟩)
 |34=>some (gD Go.Proofs.Tryz.prog ⟨34,14,[(10,1)],[],[[1000001,4005],[2003,7010],[11],[6,12],[6,12013]],[.tmp 4,.tmp 5],false⟩)
 |38=>some (gD Go.Proofs.Tryz.prog ⟨38,17,[],[],[[1000001,4],[2003,5016]],[.tmp 4],false⟩)
 |41=>some (gD Go.Proofs.Tryz.prog ⟨41,53,[(8,0),(12,2),(17,0),(29,2),(34,0),(40,0),(45,0),(48,0)],[],[[0,2003],[7008],[1,9],[2003,9012],[13018],[1,19],[],[23025],[26029],[30035],[36041],[6,42],[43046],[43,47049],[50],[4,20022,51052]],[.tmp 2,.tmp 3],false⟩)
 |42=>some (gD Go.Proofs.Tryz.prog ⟨42,55,[(15,1),(17,1),(31,1),(40,0),(48,0)],[(15,[[(0,8),(2,7),(3,4)]])],[[5006],[1000001,12014],[15016],[17],[18022],[7009,23024],[5006,9,23],[],[27033],[11,34],[7008,10,25026,35036],[5006,10,35,37042],[43],[25026,44049],[7008,50051],[7008,50,52054]],[.cell true 2 4,.tmp 5,.tmp 6],false⟩)
 |43=>some (gD Go.Proofs.Tryz.prog ⟨43,38,[],[],[[1000001,4],[6018],[2003,19],[4,19],[20023],[4,25026,37],[24,27036],[2003,5,37],[2003,5]],[.tmp 4],false⟩)
 |44=>some (gD Go.Proofs.Tryz.prog ⟨44,27,[],[],[[0,2],[3004],[1,5013],[1,5,14026]],[.tmp 2],false⟩)
 |69=>some (gD Go.Proofs.Tryz.prog ⟨69,47,[],[],[[2],[4016],[0,17],[2,17018],[],[21022],[3,23044],[0,19020,45],[2,45046],[0,19020]],[.tmp 2],false⟩)
 |70=>some (gD Go.Proofs.Tryz.prog ⟨70,22,[],[],[[0,2],[3011],[1,12],[1,12021]],[.tmp 2],false⟩)
 |71=>some (gD Go.Proofs.Tryz.prog ⟨71,19,[(16,1)],[],[[4],[6],[],[9010],[11015],[1000001,5,7008,16017],[4005,16,18],[1000001,7008]],[.tmp 4],false⟩)
 |72=>some (gD Go.Proofs.Tryz.prog ⟨72,8,[],[],[[0,3],[1002,4007]],[.tmp 3],false⟩)
 |81=>some (gD Go.Proofs.Tryz.prog ⟨81,26,[],[],[[4],[6009],[1000001,10],[4,10011],[],[14015],[5,16023],[1000001,12013,24],[4,24025],[1000001,12013]],[.tmp 4],false⟩)
 |84=>some (gD Go.Proofs.Tryz.prog ⟨84,15,[(9,0)],[],[[4],[1,6011],[0,5,12014]],[.tmp 4],true⟩)
 |85=>some (gD Go.Proofs.Tryz.prog ⟨85,35,[],[],[[2],[6018],[5,19025],[0,3004,26029],[],[0,2,4,26,30033],[3,34]],[.tmp 2],false⟩)
 |86=>some (gD Go.Proofs.Tryz.prog ⟨86,35,[],[],[[2],[6018],[5,19025],[0,3004,26029],[],[0,2,4,26,30033],[3,34]],[.tmp 2],false⟩)
 |87=>some (gD Go.Proofs.Tryz.prog ⟨87,31,[(9,1),(12,1),(16,1),(20,1)],[],[[5],[0,8010],[11014],[15018],[1,19020],[21023],[6007,24030]],[.cell true 4 4,.tmp 5],false⟩)
 |128=>some (gD Go.Proofs.Tryz.prog ⟨128,9,[],[],[[2],[0,3008]],[.tmp 2],false⟩)
 |_=>none
end Go.Sh.Cd4
end

section
namespace Go.Proofs.YtcpaleaajdilgaaGreatDoor
open Go Go.RowKit Go.Mor Go.Sh Go.Sh.Cd1 Go.Sh.Cd4 Go.Sh.Cd5
theorem z83{l:zB}{k:Nat}{c:UInt8}(h:l[k]?=some c):l.drop k=c::l.drop (k+1):=by
 obtain⟨hk,he⟩:=gJ h;rw[List.drop_eq_getElem_cons hk,he]
def p0T(r:Option (Pc×Nat)):TV:=match r with
 |some (q,z)=> .tuple [.agg [I q.k,I q.n,S (str q.s),I 0],I (z:Int)]
 |none=> .tuple [.agg [I 0,I 0,S (str []),I 0],I 0]
def numP(l:zB):Option (Pc×Nat):=if 1000000000000000<(numG l 0 0).1 then none else some (⟨1,(numG l 0 0).1,[],0⟩,(numG l 0 0).2)
theorem readNumber_ok(g:Sh.Glob)(l:zB)(hl:l.length<4611686018427387904):zC g 204 [S (str l)] [] (p0T (numP l)) []:=by
 unfold numP;generalize hR:numG l 0 0=R;refine z43 tf_98 ?_;refine v_loop (σ:={ q:Int×Nat // 0≤q.1∧q.1≤1000000000000001∧q.2≤l.length∧numG (l.drop q.2) q.1 q.2=R })
  (fun q=>⟨[(0,S (str l)),(2,.ptr 2 0),(4,I q.1.1),(5,I (q.1.2:Int))],[(2,[I 0,I 0,S ⟨#[]⟩,I 0])],[],[]⟩) (fun q=>l.length-q.1.2) ⟨(0,0),by decide,by decide,Nat.zero_le _,hR⟩ ?_ ?_
 ·exact lwA
 rintro⟨⟨n,z⟩,h0,h1,hz,hd⟩;simp only at h0 h1 hz hd;by_cases hk:z<l.length
 ·have d1:(z:Int)<(l.length:Int):=by omega
  obtain⟨c,ec⟩:∃c,l[z]?=some c:=⟨_,gE hk⟩
  rw[z83 ec,numG]at hd;have hc:=c.toNat_lt;by_cases q1:48≤c.toNat
  ·have d2:(48:Int)≤(c.toNat:Int):=by omega
   by_cases q2:c.toNat≤57
   ·have d3:(c.toNat:Int)≤57:=by omega
    rw[if_pos (by unfold digB;simp[q1,q2])]at hd;have w0:IntKind.i64.wrap (10*n)=10*n:=wrap64 (by omega) (by omega);have w1:IntKind.u8.wrap ((c.toNat:Int) - 48)=(c.toNat:Int) - 48:=by rw[IntKind.wrap_u8];omega
    have w2:IntKind.i64.wrap ((c.toNat:Int) - 48)=(c.toNat:Int) - 48:=wrap64 (by omega) (by omega);have w3:IntKind.i64.wrap (10*n+((c.toNat:Int) - 48))=10*n+((c.toNat:Int) - 48):=wrap64 (by omega) (by omega);have w4:=wS z;simp only[vW,seval,d1,d2,d3,ec,w0,w1,w2,w3,w4];refine z13 ⟨(min (10*n+((c.toNat:Int) - 48)) 1000000000000001,z+1),by omega,by omega,hk,hd⟩ (by show l.length-(z+1)<l.length-z;omega) ?_;exact lwA
   ·have d3:¬(c.toNat:Int)≤57:=by omega
    rw[if_neg (by unfold digB;simp[q2])]at hd;subst hd;by_cases hn:1000000000000000<n
    ·simp only[vW,seval,d1,d2,d3,ec,hn,p0T];rfl
    ·simp only[vW,seval,d1,d2,d3,ec,hn,p0T];rfl
  ·have d2:¬(48:Int)≤(c.toNat:Int):=by omega
   rw[if_neg (by unfold digB;simp[q1])]at hd;subst hd;by_cases hn:1000000000000000<n
   ·simp only[vW,seval,d1,d2,ec,hn,p0T];rfl
   ·simp only[vW,seval,d1,d2,ec,hn,p0T];rfl
 ·have d1:¬(z:Int)<(l.length:Int):=by omega
  rw[List.drop_eq_nil_of_le (by omega),numG]at hd;subst hd;by_cases hn:1000000000000000<n
  ·simp only[vW,seval,d1,hn,p0T];rfl
  ·simp only[vW,seval,d1,hn,p0T];rfl
theorem small_ok(g:Sh.Glob)(b:UInt8):zC g 128 [.pv (.v (.int .u8 (b.toNat:Int)))] [] (B (small b)) []:=by
 refine z10 tf_59 ?_;unfold small B;by_cases q1:97≤b.toNat
 ·have d1:(97:Int)≤(b.toNat:Int):=by omega
  have q2:decide ((b.toNat:Int)≤122)=decide (b.toNat≤122):=by rw[Bool.eq_iff_iff];simp;omega
  simp only[vW,seval,d1,q2,q1];first|done|simp
 ·have d1:¬(97:Int)≤(b.toNat:Int):=by omega
  simp only[vW,seval,d1,q1];first|done|simp
theorem rightName_ok(g:Sh.Glob)(l:zB)(hl:l.length<4611686018427387904):zC g 69 [S (str l)] [] (B (z11 l)) []:=by
 refine z10 tf_58 ?_;by_cases h1:1≤l.length
 ·have d1:¬(l.length:Int)<1:=by omega
  by_cases h20:l.length≤20
  ·have d2:¬(20:Int)<(l.length:Int):=by omega
   obtain⟨c,r,rfl⟩:∃c r,l=c::r:=List.exists_cons_of_ne_nil (by rintro rfl;simp at h1);have HS:=small_ok g c;unfold B at HS ⊢;have e0:(c::r)[0]?=some c:=rfl;have hR:z11 (c::r)=(small c&&(c::r).all nameB):=by
    unfold z11;rw[decide_eq_true ⟨h1,h20⟩];simp
   rw[hR];generalize hL:c::r=l at*;simp only[vW,seval,d1,d2,e0];refine z7 HS ?_;cases hs:small c
   ·simp only[vW,seval]
   simp only[vW,seval,d1,d2];refine v_loop (σ:={ k:Nat // k≤l.length∧(l.drop k).all nameB=l.all nameB })
    (fun k=>⟨[(0,S (str l)),(19,I (l.length:Int)),(20,I (k.1:Int))],[],[],[]⟩) (fun k=>l.length-k.1) ⟨0,Nat.zero_le _,rfl⟩ ?_ ?_
   ·exact lwA
   rintro⟨k,hk,hd⟩;by_cases hlt:k<l.length
   ·have d3:(k:Int)<(l.length:Int):=by omega
    obtain⟨b,eb⟩:∃b,l[k]?=some b:=⟨_,gE hlt⟩
    rw[z83 eb,List.all_cons]at hd;have hbn:=b.toNat_lt;have HB:=small_ok g b;unfold B at HB;have w4:=wS k;simp only[vW,seval,d3,eb];refine z7 HB ?_;cases hsb:small b
    ·by_cases q1:b.toNat<48
     ·have d4:(b.toNat:Int)<48:=by omega
      have d6:¬(b.toNat:Int)=95:=by omega
      have hn:nameB b=false:=by unfold nameB;rw[hsb];simp;omega
      rw[hn,Bool.false_and]at hd;simp only[vW,seval,d3,eb,d4,d6];rw[←hd]
     ·have d4:¬(b.toNat:Int)<48:=by omega
      by_cases q2:57<b.toNat
      ·have d5:(57:Int)<(b.toNat:Int):=by omega
       by_cases q3:b.toNat=95
       ·have d6:(b.toNat:Int)=95:=by omega
        have hn:nameB b=true:=by unfold nameB;simp[q3]
        rw[hn,Bool.true_and]at hd;simp only[vW,seval,d3,eb,d4,d5,d6,w4];refine z13 ⟨k+1,hlt,hd⟩ (by show l.length-(k+1)<l.length-k;omega) ?_;exact lwA
       ·have d6:¬(b.toNat:Int)=95:=by omega
        have hn:nameB b=false:=by unfold nameB;rw[hsb];simp;omega
        rw[hn,Bool.false_and]at hd;simp only[vW,seval,d3,eb,d4,d5,d6];rw[←hd]
      ·have d5:¬(57:Int)<(b.toNat:Int):=by omega
       have hn:nameB b=true:=by unfold nameB;simp;omega
       rw[hn,Bool.true_and]at hd;simp only[vW,seval,d3,eb,d4,d5,w4];refine z13 ⟨k+1,hlt,hd⟩ (by show l.length-(k+1)<l.length-k;omega) ?_;exact lwA
    ·have hn:nameB b=true:=by unfold nameB;rw[hsb];rfl
     rw[hn,Bool.true_and]at hd;simp only[vW,seval,d3,eb,w4];refine z13 ⟨k+1,hlt,hd⟩ (by show l.length-(k+1)<l.length-k;omega) ?_;exact lwA
   ·have d3:¬(k:Int)<(l.length:Int):=by omega
    rw[List.drop_eq_nil_of_le (by omega)]at hd;simp only[vW,seval,d3];rw[←hd];rfl
  ·have d2:(20:Int)<(l.length:Int):=by omega
   have hR:z11 l=false:=by unfold z11;rw[decide_eq_false (by omega)];rfl
   rw[hR];unfold B;simp only[vW,seval,d1,d2]
 ·have d1:(l.length:Int)<1:=by omega
  have hR:z11 l=false:=by unfold z11;rw[decide_eq_false (by omega)];rfl
  rw[hR];unfold B;simp only[vW,seval,d1]
theorem classRight0_ok(g:Sh.Glob)(l:zB)(hl:l.length<4611686018427387904):zC g 33 [.agg [S (str l),.pv (.v (.slice none 0 0))]] [] (B (z11 l)) []:=by
 refine z10 tf_55 ?_;have HR:=rightName_ok g l hl;unfold B at*;simp only[vW,seval];refine z7 HR ?_;cases z11 l
 ·simp only[vW,seval]
 simp only[vW,seval];refine v_loop (σ:=Unit) (fun _=>⟨[(19,I 0),(20,I 0)],[],[],[]⟩) (fun _=>0) () ?_ ?_
 ·exact lwA
 rintro⟨⟩;simp only[vW,seval]
theorem eRightName_ok(g:Sh.Glob)(l:zB)(hl:l.length<4611686018427387904):zC g 244 [S (str l)] [] (B (z11 l)) []:=by
 refine z10 tf_100 ?_;have HR:=classRight0_ok g l hl;unfold B at*;simp only[vW,seval];exact z14 HR
theorem eRightText_ok(m:Nat)(l:zB)(hl:l.length<4611686018427387904):zC (gl0 m) 245 [S (str l)] [] (B (z18 l)) []:=by
 refine z10 tf_101 ?_;have HR:=rightV_ok0 m (.mk 2 0 l []) ⟨by unfold z88 V.s;simp only;omega,by simp[V.l]⟩;have hk:rightV (.mk 2 0 l [])=z18 l:=by unfold rightV right1;simp[V.k,V.n,V.l,V.s]
 rw[hk]at HR;have HR:=HR.inp (xs:=[nv (.mk 2 0 l [])]) rfl (fun j c d hc hd=>by
  match j with
  |0=>simp at hc hd;subst hc;subst hd;exact nv_tv rfl
  |j+1=>simp at hc)
 unfold B nv at*;simp only[vW,seval];exact z14 HR
end Go.Proofs.YtcpaleaajdilgaaGreatDoor
end

section
namespace Go.Mor
open Go
def signN(n b0 b1 b2 b3:Nat):Nat:=
 if b0<128 then 1
 else if 194≤b0∧b0≤223 then(if n<2∨b1<128∨191<b1 then 0 else 2)
 else if 224≤b0∧b0≤239 then(if n<3∨b1<(if b0=224 then 160 else 128)∨(if b0=237 then 159 else 191)<b1∨b2<128∨191<b2 then 0 else 3)
 else if 240≤b0∧b0≤244 then(if n<4∨b1<(if b0=240 then 144 else 128)∨(if b0=244 then 143 else 191)<b1∨b2<128∨191<b2∨b3<128∨191<b3 then 0 else 4)
 else 0
def signL(l:zB):Nat:=if l=[] then 0 else signN l.length (l.getD 0 0).toNat (l.getD 1 0).toNat (l.getD 2 0).toNat (l.getD 3 0).toNat
theorem signN_decode(n b0 b1 b2 b3:Nat)(h0:b0<256)(h1:b1<256)(h2:b2<256)(h3:b3<256):
  signN n b0 b1 b2 b3=if(Lib.decodeN n b0 b1 b2 b3).1=65533∧(Lib.decodeN n b0 b1 b2 b3).2=1 then 0 else(Lib.decodeN n b0 b1 b2 b3).2:=by
 unfold signN Lib.decodeN
 repeat' split
 all_goals(simp_all<;>omega)
end Go.Mor
end

section
namespace Go.Proofs.YtcpaleaajdilgaaGreatDoor
open Go Go.RowKit Go.Mor Go.Sh Go.Sh.Cd1
theorem order_ok(g:Sh.Glob)(a b:Int):zC g 219 [I a,I b] [] (I (ordI a b)) []:=by
 refine z10 tf_117 ?_;unfold ordI;by_cases h1:a<b
 ·simp only[vW,seval,h1]
 ·by_cases h2:b<a
  ·simp only[vW,seval,h1,h2]
  ·simp only[vW,seval,h1,h2]
end Go.Proofs.YtcpaleaajdilgaaGreatDoor
end

section
namespace Go.Sh
open Go Go.RowKit
section
section
variable{P:Program}{g:Glob}
theorem start_sim{w:World}{E:Env}{os:List MO}{N:Nat}{xs:List TV}{vs:List Value}(hn:xs.length≤N)(hm:MSim (start w E os 0) (objB os) (objR os) w E)(hl:xs.length=vs.length)(hxs:∀(j:Nat) x v,xs[j]?=some x→vs[j]?=some v→RelT w E (objR os) x v):
  Sim (start w E os N) (startE xs os).fs { tmps:=vs.toArray++Array.replicate (N-vs.toArray.size) undef,defers:=[] } w E:=by
 have hmB:MSim (start w E os N) (objB os) (objR os) w E:=⟨hm.box,hm.row,hm.bb,hm.br,hm.rr,hm.lt,hm.low,hm.keep,hm.knew,⟨hm.pas.β,hm.pas.γ,hm.pas.row⟩⟩
 have hfs:(startE xs os).fs=⟨fun k=>xs[k]?,objB os,objR os,fun _=>none⟩:=by
  refine FS.ext' (fun k=> ?_) (fun k=> ?_) (fun k=> ?_) (fun k=>rfl)
  ·show lk (numT 0 xs) k=_;rw[lk_numT];simp
  ·show lk (numB 1000 os) k=_;rw[lk_numB];rfl
  ·show lk (numR 1000 os) k=_;rw[lk_numR];rfl
 have hsize:(vs.toArray++Array.replicate (N-vs.toArray.size) undef).size=N:=by
  grind
 rw[hfs];refine⟨rfl,hsize,fun k x hx=> ?_,hmB,fun d z p hd=>(by cases hd),fun d d' q q' hd=>(by cases hd)⟩;have hk:k<xs.length:=(gJ hx).1;refine⟨Nat.lt_of_lt_of_le hk hn,?_⟩;have hkv:k<vs.length:=by omega
 have hv:(vs.toArray++Array.replicate (N-vs.toArray.size) undef).getD k undef=vs[k]:=by
  rw[Array.getD_eq_getD_getElem?,Array.getElem?_append_left (by omega)];simp[hkv]
 rw[hv];exact hxs k x _ hx (gE hkv)
theorem fin_of{fn:Func}{rs:List SRes}{keep:Bool}{w w':World}{E E':Env}{os os':List MO}{N:Nat}{ds:List Deferred}{a':Act}{s':ES}{y:TV}{F:SFunc}(hF1:F.res=rs)(hF2:F.keep=keep)(hrs:seqO (z70 P) fn.results.toList=some rs)(hmo:moOk os os'=true)
  (hS':Sim { start w E os N with ds:=ds } s'.fs a' w' E') (hex:exitF F os.length s'=some (y,os')):
  ∃v,(results fn a'.tmps).run P w'=.ok v w'∧(∃v_1 E'_1,Ending.returned v=Ending.returned v_1∧MSim (start w E os 0) (objB os') (objR os') w' E'_1∧RelT w' E'_1 (objR os') y v_1∧Left E os E'_1 os'):=by
 subst hF1;unfold exitF at hex;split at hex<;>try(cases hex;done)
 rename_i y0 hy0;obtain⟨v,hrun,hrel⟩:=results_run (fn:=fn) hrs hS' hy0;refine⟨v,hrun,v,?_⟩;simp at hex;obtain⟨i1,i2,i3⟩:=z149 os.length 1000;generalize hal:reach s'.fs F.keep 64 (y0.ids3++(idsFrom 1000 os.length).flatMap fun d=>match s'.fs.b d with|some cs=>cs.flatMap TV.ids1|none=>[]) (idsFrom 1000 os.length)=al at hex;obtain⟨hnd,t,hpre⟩:=z77 (s:=s'.fs) (rows:=F.keep) 64 (y0.ids3++(idsFrom 1000 os.length).flatMap fun d=>match s'.fs.b d with|some cs=>cs.flatMap TV.ids1|none=>[]) _ i1;rw[hal]at hnd hpre;split at hex<;>try(cases hex;done)
 rename_i y1 os1 hren hmos;cases hex;have hpas:∀j,j<os.length→al[j]?=some (1000+j):=fun j hj=>by
  grind [List.getElem?_append_left,z147]
 have hM:=z114 hS' hnd hmos;obtain⟨hlen,hBx,hRx⟩:=handed hmos;have hβ:∀{i j},al[j]?=some i→(envIn E' al).β (1000+j)=E'.β i:=fun hj=>by simp only[envIn];rw[getD_of hj]
 have hγ:∀{i j},al[j]?=some i→(envIn E' al).γ (1000+j)=E'.γ i:=fun hj=>by simp only[envIn];rw[getD_of hj]
 have hXs:∀{i j b},al[j]?=some i→objX E os i b→objX E os (1000+j) b:=by
  intro i j b hj hx;have hi:∃q,i=1000+q∧q<os.length:=by
   rcases hx with⟨cs,h1,_⟩|⟨⟨e,W,n⟩,cap,h1,_⟩<;>grind [z49,List.getElem?_eq_some_iff,z30]
  obtain⟨q,rfl,hq⟩:=hi;have a1:=z78 hnd hj;have a2:=z78 hnd (hpas q hq)
  grind
 have hM':MSim (start w E os 0) (objB os') (objR os') w' (envIn E' al):=by
  refine⟨fun d cs' hd=> ?_,fun d e W n hd=> ?_,hM.bb,hM.br,hM.rr,hM.lt,hS'.mem.low,hS'.mem.keep,hS'.mem.knew,⟨fun d ho=> ?_,fun d ho h0=> ?_,fun d e W n ho hd=> ?_⟩⟩
  ·refine⟨(hM.box d cs' hd).1,?_⟩;obtain⟨j,rfl,hj⟩:=z49 hd;obtain⟨i,cs,q1,q2,_⟩:=hBx j cs' hj;rw[hβ q1];rcases(hS'.mem.box i cs q2).2 with h1|h1
   ·exact .inl h1
   ·exact .inr (hXs q1 h1)
  ·obtain⟨j,rfl,hj⟩:=z30 hd;obtain⟨i,q1,q2,q3⟩:=hRx j e W n hj;rw[hγ q1];rcases hS'.mem.row i e W n q3 with h1|⟨k,cap,h1,h2,h3⟩
   ·grind
   ·exact .inr ⟨k,cap,h1,h2.imp id (hXs q1),h3.cells,h3.le,h3.max,h3.out⟩
  ·obtain⟨q,rfl⟩:∃q,d=1000+q:=⟨d-1000,by have:=ho.1;omega⟩
   have hq:q<os.length:=by have:=ho.2;have h2:1000+q<1000+os.length:=this;omega
   rw[hβ (hpas q hq)];exact hS'.mem.pas.β _ ho
  ·obtain⟨q,rfl⟩:∃q,d=1000+q:=⟨d-1000,by have:=ho.1;omega⟩
   have hq:q<os.length:=by have:=ho.2;have h2:1000+q<1000+os.length:=this;omega
   rw[hγ (hpas q hq)];exact hS'.mem.pas.γ _ ho h0
  ·obtain⟨q,rfl⟩:∃q,d=1000+q:=⟨d-1000,by have:=ho.1;omega⟩
   have hq:q<os.length:=by have:=ho.2;have h2:1000+q<1000+os.length:=this;omega
   obtain⟨j,hj0,hj⟩:=z30 hd;obtain rfl:q=j:=by omega
   obtain⟨i,q1,q2,q3⟩:=hRx q e W n hj;rw[hpas q hq]at q1;cases q1;rw[hγ (hpas q hq)];exact hS'.mem.pas.row _ e W n ho q3
 refine⟨envIn E' al,rfl,hM',z153 (renIn hmos) (fun _ _ _ h _=>h) hrel hren,⟨fun d h1 h2=>hM'.pas.β d ⟨h1,h2⟩,fun d h1 h2 h0=>hM'.pas.γ d ⟨h1,h2⟩ h0,fun d e W n hd=> ?_⟩⟩;obtain⟨q,rfl,hq⟩:=z30 hd;have hql:q<os.length:=(gJ hq).1;obtain⟨n',h1,h2⟩:=(z113 hmo).2.2.2 q e W n hq;obtain⟨n0,h3,h4,h5⟩:=hM'.pas.row (1000+q) e W n' ⟨by omega,by show 1000+q<1000+os.length;omega⟩ (z58 h1);have h3:objR os (1000+q)=some (e,W,n0):=h3;rw[hd]at h3;cases h3;exact⟨n',z58 h1,h4,h5⟩
def exitY(y0:TV)(keep:Bool)(n:Nat)(s:ES):Option (TV×List MO):=
 let I0:=idsFrom 1000 n
 let al:=reach s.fs keep 64 (y0.ids3++I0.flatMap fun d=>match s.fs.b d with|some cs=>cs.flatMap TV.ids1|none=>[]) I0
 match y0.ren3 (rhoIn al),seqO (fun d=>(s.fs.mo d).bind (MO.ren (rhoIn al))) al with
 |some y,some os'=>some (y,os')
 |_,_=>none
theorem fin_y{keep:Bool}{w w':World}{E E':Env}{os os':List MO}{N:Nat}{ds:List Deferred}{a':Act}{s':ES}{y0 y:TV}{v:Value}(hmo:moOk os os'=true)
  (hS':Sim { start w E os N with ds:=ds } s'.fs a' w' E') (hrel:RelT w' E' s'.fs.r y0 v) (hex:exitY y0 keep os.length s'=some (y,os')):
  ∃E'_1,MSim (start w E os 0) (objB os') (objR os') w' E'_1∧RelT w' E'_1 (objR os') y v∧Left E os E'_1 os':=by
 unfold exitY at hex;simp at hex;obtain⟨i1,i2,i3⟩:=z149 os.length 1000;generalize hal:reach s'.fs keep 64 (y0.ids3++(idsFrom 1000 os.length).flatMap fun d=>match s'.fs.b d with|some cs=>cs.flatMap TV.ids1|none=>[]) (idsFrom 1000 os.length)=al at hex;obtain⟨hnd,t,hpre⟩:=z77 (s:=s'.fs) (rows:=keep) 64 (y0.ids3++(idsFrom 1000 os.length).flatMap fun d=>match s'.fs.b d with|some cs=>cs.flatMap TV.ids1|none=>[]) _ i1;rw[hal]at hnd hpre;split at hex<;>try(cases hex;done)
 rename_i y1 os1 hren hmos;cases hex;have hpas:∀j,j<os.length→al[j]?=some (1000+j):=fun j hj=>by
  grind [List.getElem?_append_left,z147]
 have hM:=z114 hS' hnd hmos;obtain⟨hlen,hBx,hRx⟩:=handed hmos;have hβ:∀{i j},al[j]?=some i→(envIn E' al).β (1000+j)=E'.β i:=fun hj=>by simp only[envIn];rw[getD_of hj]
 have hγ:∀{i j},al[j]?=some i→(envIn E' al).γ (1000+j)=E'.γ i:=fun hj=>by simp only[envIn];rw[getD_of hj]
 have hXs:∀{i j b},al[j]?=some i→objX E os i b→objX E os (1000+j) b:=by
  intro i j b hj hx;have hi:∃q,i=1000+q∧q<os.length:=by
   rcases hx with⟨cs,h1,_⟩|⟨⟨e,W,n⟩,cap,h1,_⟩<;>grind [z49,List.getElem?_eq_some_iff,z30]
  obtain⟨q,rfl,hq⟩:=hi;have a1:=z78 hnd hj;have a2:=z78 hnd (hpas q hq)
  grind
 have hM':MSim (start w E os 0) (objB os') (objR os') w' (envIn E' al):=by
  refine⟨fun d cs' hd=> ?_,fun d e W n hd=> ?_,hM.bb,hM.br,hM.rr,hM.lt,hS'.mem.low,hS'.mem.keep,hS'.mem.knew,⟨fun d ho=> ?_,fun d ho h0=> ?_,fun d e W n ho hd=> ?_⟩⟩
  ·refine⟨(hM.box d cs' hd).1,?_⟩;obtain⟨j,rfl,hj⟩:=z49 hd;obtain⟨i,cs,q1,q2,_⟩:=hBx j cs' hj;rw[hβ q1];rcases(hS'.mem.box i cs q2).2 with h1|h1
   ·exact .inl h1
   ·exact .inr (hXs q1 h1)
  ·obtain⟨j,rfl,hj⟩:=z30 hd;obtain⟨i,q1,q2,q3⟩:=hRx j e W n hj;rw[hγ q1];rcases hS'.mem.row i e W n q3 with h1|⟨k,cap,h1,h2,h3⟩
   ·grind
   ·exact .inr ⟨k,cap,h1,h2.imp id (hXs q1),h3.cells,h3.le,h3.max,h3.out⟩
  ·obtain⟨q,rfl⟩:∃q,d=1000+q:=⟨d-1000,by have:=ho.1;omega⟩
   have hq:q<os.length:=by have:=ho.2;have h2:1000+q<1000+os.length:=this;omega
   rw[hβ (hpas q hq)];exact hS'.mem.pas.β _ ho
  ·obtain⟨q,rfl⟩:∃q,d=1000+q:=⟨d-1000,by have:=ho.1;omega⟩
   have hq:q<os.length:=by have:=ho.2;have h2:1000+q<1000+os.length:=this;omega
   rw[hγ (hpas q hq)];exact hS'.mem.pas.γ _ ho h0
  ·obtain⟨q,rfl⟩:∃q,d=1000+q:=⟨d-1000,by have:=ho.1;omega⟩
   have hq:q<os.length:=by have:=ho.2;have h2:1000+q<1000+os.length:=this;omega
   obtain⟨j,hj0,hj⟩:=z30 hd;obtain rfl:q=j:=by omega
   obtain⟨i,q1,q2,q3⟩:=hRx q e W n hj;rw[hpas q hq]at q1;cases q1;rw[hγ (hpas q hq)];exact hS'.mem.pas.row _ e W n ho q3
 refine⟨envIn E' al,hM',z153 (renIn hmos) (fun _ _ _ h _=>h) hrel hren,⟨fun d h1 h2=>hM'.pas.β d ⟨h1,h2⟩,fun d h1 h2 h0=>hM'.pas.γ d ⟨h1,h2⟩ h0,fun d e W n hd=> ?_⟩⟩;obtain⟨q,rfl,hq⟩:=z30 hd;have hql:q<os.length:=(gJ hq).1;obtain⟨n',h1,h2⟩:=(z113 hmo).2.2.2 q e W n hq;obtain⟨n0,h3,h4,h5⟩:=hM'.pas.row (1000+q) e W n' ⟨by omega,by show 1000+q<1000+os.length;omega⟩ (z58 h1);have h3:objR os (1000+q)=some (e,W,n0):=h3;rw[hd]at h3;cases h3;exact⟨n',z58 h1,h4,h5⟩
def boxIds(s:FS)(d:Nat):List Nat:=match s.b d with|some cs=>cs.flatMap TV.ids1|none=>[]
def backB(y0:TV)(s:FS)(al:List Nat):Option (TV×List MO):=match y0.ren3 (rhoIn al),seqO (fun d=>(s.mo d).bind (MO.ren (rhoIn al))) al with
 |some y,some os'=>some (y,os')
 |_,_=>none
def exitB(y0:TV)(keep:Bool)(n:Nat)(s:FS):Option (TV×List MO):=backB y0 s (reach s keep 64 (y0.ids3++(idsFrom 1000 n).flatMap (boxIds s)) (idsFrom 1000 n))
theorem exitR_B{res:List SRes}{keep:Bool}{n:Nat}{s:ES}{y0:TV}(h:resT s.fs res=some y0):exitR res keep n s=exitB y0 keep n s.fs:=by
 unfold exitR exitF;rw[h];rfl
end
end
section
abbrev Fw(ro:Option Nat):Fence:={ Fence.wide with round:=ro }
section
variable{P:Program}{ops:Array Oper}{Q:Exit→Act→World→Prop}{ro:Option Nat}{n:Nat}
theorem opIn{o:Oper}(hd:∀c,o.op≠ .defer c){a:Act}{w:World}{K:Act→World→Prop}(h:o.wp P a w K Q):o.wpIn (Fw ro) n P a w K Q:=by
 refine⟨fun _ _=>trivial,?_⟩;rw[Oper.semAt_eq _ _ _ hd];unfold Oper.wp at h;generalize(execOp a.eval o).run P w=r at*;cases r with
 |ok x w'=>
  cases x with
  |value v=>exact h
  |skip=>exact h
  |defer d=>exact h
  |enter f args=>exact⟨fun h=>(by cases h),callsIn_wide.2 h⟩
  |row r args=>exact⟨fun h=>(by cases h),fun c cs _=>let⟨v,w',r,s⟩:=h c cs;⟨v,w',r,stepsIn_wide.2 s⟩⟩
  |_=>exact(h:False).elim
 |halt x w'=>cases x<;>first|exact h|exact(h:False).elim
theorem opsIn_one{i:Nat}(hd:∀o:Oper,ops[i]?=some o→∀c,o.op≠Op.defer c)(hQ:¬LetsOut Q){a:Act}{w:World}{K:Act→World→Prop}(h:wpOp P ops Q i K a w):wpOpIn (Fw ro) n P ops Q i K a w:=by
 unfold wpOp at h;unfold wpOpIn;cases ho:ops[i]? with
 |none=>grind
 |some o=>
  rw[ho]at h;simp at h ⊢;split at h
  ·grind [opIn]
  ·rename_i hw;rw[if_neg hw];exact⟨fun _ _=>trivial,h⟩
theorem opsIn(hd:∀(i:Nat) (o:Oper),ops[i]?=some o→∀c,o.op≠Op.defer c)(hQ:¬LetsOut Q):∀(is:List Nat) (a:Act) (w:World),wpOps P ops Q is a w→wpOpsIn (Fw ro) n P ops Q is a w
 |[],a,w,h=>h
 |i::is,a,w,h=>by
  refine wpOpIn_mono (fun a w h=>opsIn hd hQ is a w h) (opsIn_one (hd i) hQ h)
theorem anyIn(hd:∀(i:Nat) (o:Oper),ops[i]?=some o→∀c,o.op≠Op.defer c)(hQ:¬LetsOut Q):∀(fuel:Nat) (li:Array Bool) (a:Act) (w:World),wpAny P .any ops Q fuel li a w→wpAnyIn (Fw ro) n P .any ops Q fuel li a w
 |0,li,a,w,h=>h
 |fuel+1,li,a,w,h=>⟨h.1,fun i hi=>wpOpIn_mono (fun a w h=>anyIn hd hQ fuel _ a w h) (opsIn_one (hd i) hQ (h.2 i hi))⟩
theorem noDefer{N:Nat}{H:Option Nat→Nat}{fp:Option Nat}{o:Oper}{so:SOper}(ht:z87 P N H fp ops o=some so):∀c,o.op≠ .defer c:=by
 intro c hc;unfold z87 at ht;split at ht<;>try(cases ht;done)
 rename_i hop;unfold z24 at hop;rw[hc]at hop;simp at hop
end
section
variable{P:Program}{H:Option Nat→Nat}{ops:Array Oper}{B:Base}{sops:List SOper}{g:Glob}{draw:Bool}{id:Nat}{ro:Option Nat}{n:Nat}
theorem region_soundIn(hmix:P.follows .mixedOrders=true)(hm0:B.m≤1000)(hN:B.N≤1000)(hG:g.G B.w0)(hX:∀d b,B.X d b→g.n≤b){fps:Nat→Option Nat}(htr:z44 P B.N H fps ops draw=some sops){s:ES}{K:ES→Prop}
  (hf:∀d∈sops.flatMap SOper.news,Fresh s.fs d) (h:opsW P g sops K s) {a:Act} {w:World} {E:Env} (hS:Sim B s.fs a w E) {Q:Exit→Act→World→Prop} (hLO:¬LetsOut Q) (hQ:∀s' a' w' E',K s'→Sim B s'.fs a' w' E'→Q .normal a' w'):
  (Code.region id ops draw).wpIn (Fw ro) n P Q a w:=by
 unfold z44 at htr;split at htr<;>try(cases htr;done)
 rename_i sops' hseq;split at htr<;>try(cases htr;done)
 rename_i hok;cases htr;obtain⟨s',hrun,hK⟩:=z191 (sops:=sops) (l:=sops) (j:=0) rfl h;obtain⟨hlen,hspec⟩:=z81 hseq;have hlen':ops.size=sops.length:=by omega
 have hdf:∀(i:Nat) (o:Oper),ops[i]?=some o→∀c,o.op≠Op.defer c:=fun i o ho=>by
  obtain⟨so,_,hto⟩:=hspec i o (by grind);exact noDefer hto
 have hfi:∀l,FreshI sops l s.fs:=fun l i _ o ho d hd=>hf d (List.mem_flatMap.2 ⟨o,gM ho,hd⟩);have hmk:=mkAll_of hok;rw[←List.range_eq_range',←hlen']at hrun;cases draw with
 |false=>
  refine wpIn_region (opsIn hdf hLO _ _ _ ?_);have key:∀(l:List Nat) (s:FS) (a:Act) (w:World) (E:Env),l.Nodup→Sim B s a w E→FreshI sops l s→RunI P g sops l s s'.fs→wpOps P ops Q l a w:=by
   intro l
   induction l with
   |nil=>intro s a w E _ hS _ hr;have hr:s=s'.fs:=hr;subst hr;exact hQ s' a w E hK hS
   |cons i l ih=>
    intro s a w E hnd hS hf hr;obtain⟨o,s1,ho,⟨C,hC,hst⟩,hr⟩:=hr;have hil:i<ops.size:=by grind
    have hoi:ops[i]?=some ops[i]:=Array.getElem?_eq_getElem hil;obtain⟨so,hso,hto⟩:=hspec i ops[i] (by simp);rw[ho]at hso;cases hso;refine sim_step hm0 hN hG hX hC hS hoi hto (hf i (List.mem_cons_self ..) o ho) hst (fun a' w' E' hS'=> ?_);exact ih s1 a' w' E' (List.nodup_cons.1 hnd).2 hS' (z103 hmk ho (List.nodup_cons.1 hnd).1 (fun j hj=>hf j (List.mem_cons_of_mem _ hj)) ⟨C,hC,hst⟩) hr
  grind
 |true=>
  refine wpIn_region_any hmix (anyIn hdf hLO _ _ _ _ ?_);have hrest:rest ops.size (Array.replicate ops.size false)=List.range ops.size:=by
   unfold rest;simp_all
  refine any_sound hm0 hN hG hX hseq hok (sf:=s'.fs) (fun a w E hS=>hQ s' a w E hK hS) ops.size _ s.fs a _ E (by simp) (fun i o ho hl=> ?_) (hS.same (Below.refl _ _).drew) (hfi _) (by grind) (by grind);have hil:=(gA ho).1;simp_all
theorem runI_of_opsW'{P:Program}{g:Glob}{sops:List SOper}{K:ES→Prop}:∀{l:List SOper} {j:Nat} {s:ES},(∀(i:Nat) o,l[i]?=some o→sops[j+i]?=some o)→opsW P g l K s→∃s',RunI P g sops (List.range' j l.length) s.fs s'.fs∧K s'
 |[],j,s,_,h=>⟨s,rfl,h⟩
 |o::l,j,s,hd,h=>by
  obtain⟨C,hC,e,he,h⟩:=h;have hj:sops[j]?=some o:=hd 0 o rfl;obtain⟨s',h1,h2⟩:=runI_of_opsW' (j:=j+1) (fun i o ho=>by rw[show j+1+i=j+(i+1) by omega];exact hd (i+1) o ho) h;refine⟨s',⟨o,s.fs.after o e,hj,⟨C,hC,by unfold step;rw[he];rfl⟩,?_⟩,h2⟩
  grind [ES.after_fs]
theorem region_yield{N:Nat}{H:Option Nat→Nat}{fps:Nat→Option Nat}{ops:Array Oper}{sops:List SOper}(htr:z44 P N H fps ops false=some sops)(k:Nat)(hk:k<sops.length)(hm0:B.m≤1000)(hN:B.N=N)(hN2:N≤1000)(hG:g.G B.w0)(hX:∀d b,B.X d b→g.n≤b)
  {g2:Glob} {s:ES} {K1:ES→Prop} (hf:∀d∈sops.flatMap SOper.news,Fresh s.fs d) (h:opsW P g (sops.take k) K1 s) {a:Act} {w:World} {E:Env} (hS:Sim B s.fs a w E) {Q:Exit→Act→World→Prop} (hLO:¬LetsOut Q) (K2:Act→World→Prop)
  (hmid:∀s1 a w E,K1 s1→Sim B s1.fs a w E→wpOpIn (Fw ro) n P ops Q k K2 a w)
  (hpost:∀a w,K2 a w→∃(B2:Base) (s2:ES) (E2:Env) (K3:ES→Prop),B2.m≤1000∧B2.N=N∧g2.G B2.w0∧(∀d b,B2.X d b→g2.n≤b)∧Sim B2 s2.fs a w E2∧(∀d∈sops.flatMap SOper.news,Fresh s2.fs d)∧opsW P g2 (sops.drop (k+1)) K3 s2∧∀s3 a' w' E',K3 s3→Sim B2 s3.fs a' w' E'→Q .normal a' w'):
  (Code.region id ops false).wpIn (Fw ro) n P Q a w:=by
 unfold z44 at htr;split at htr<;>try(cases htr;done)
 rename_i sops' hseq;split at htr<;>try(cases htr;done)
 rename_i hok;cases htr;subst hN;obtain⟨hlen,hspec⟩:=z81 hseq;have hlen':ops.size=sops.length:=by omega
 have hdf:∀(i:Nat) (o:Oper),ops[i]?=some o→∀c,o.op≠Op.defer c:=fun i o ho=>by
  obtain⟨so,_,hto⟩:=hspec i o (by grind);exact noDefer hto
 have hfi:∀l (s:ES),(∀d∈sops.flatMap SOper.news,Fresh s.fs d)→FreshI sops l s.fs:=fun l s hf i _ o ho d hd=>hf d (List.mem_flatMap.2 ⟨o,gM ho,hd⟩);have hmk:=mkAll_of hok;have key:∀(g:Glob) (B':Base),B'.m≤1000→B'.N=B.N→g.G B'.w0→(∀d b,B'.X d b→g.n≤b)→∀(r:List Nat) (sf:FS),(∀a w E,Sim B' sf a w E→wpOpsIn (Fw ro) n P ops Q r a w)→∀(l:List Nat) (s:FS) (a:Act) (w:World) (E:Env),l.Nodup→Sim B' s a w E→FreshI sops l s→RunI P g sops l s sf→wpOpsIn (Fw ro) n P ops Q (l++r) a w:=by
  intro g B' hm' hN' hG' hX' r sf hr0 l
  induction l with
  |nil=>intro s a w E _ hS _ hr;have hr:s=sf:=hr;subst hr;exact hr0 a w E hS
  |cons i l ih=>
   intro s a w E hnd hS hf hr;obtain⟨o,s1,ho,⟨C,hC,hst⟩,hr⟩:=hr;have hil:i<ops.size:=by grind
   have hoi:ops[i]?=some ops[i]:=Array.getElem?_eq_getElem hil;obtain⟨so,hso,hto⟩:=hspec i ops[i] (by simp);rw[ho]at hso;cases hso;rw[←hN']at hto;refine opsIn_one (hdf i) hLO (sim_step hm' (by omega) hG' hX' hC hS hoi hto (hf i (List.mem_cons_self ..) o ho) hst (fun a' w' E' hS'=> ?_));exact ih s1 a' w' E' (List.nodup_cons.1 hnd).2 hS' (z103 hmk ho (List.nodup_cons.1 hnd).1 (fun j hj=>hf j (List.mem_cons_of_mem _ hj)) ⟨C,hC,hst⟩) hr
 refine wpIn_region ?_;have hsplit:List.range ops.size=List.range' 0 k++k::List.range' (k+1) (sops.length-(k+1)):=by
  rw[hlen',List.range_eq_range',←List.range'_succ,show sops.length=k+(sops.length-(k+1)+1) by omega,←List.range'_append];simp;omega
 rw[hsplit];have hrun1:∃s',RunI P g sops (List.range' 0 k) s.fs s'.fs∧K1 s':=by
  have:=runI_of_opsW' (sops:=sops) (j:=0) (fun i o ho=>by rw[Nat.zero_add];rw[List.getElem?_take]at ho;split at ho;exact ho;cases ho) h
  grind
 obtain⟨s1,hrun1,hK1⟩:=hrun1;refine key g B hm0 rfl hG hX _ s1.fs (fun a1 w1 E1 hS1=> ?_) _ s.fs a w E List.nodup_range' hS (hfi _ s hf) hrun1;refine wpOpIn_mono (fun a2 w2 h2=> ?_) (hmid s1 a1 w1 E1 hK1 hS1);obtain⟨B2,s2,E2,K3,p1,p2,p3,p4,p5,p6,p7,p8⟩:=hpost a2 w2 h2;have hrun3:∃s',RunI P g2 sops (List.range' (k+1) (sops.length-(k+1))) s2.fs s'.fs∧K3 s':=by
  have:=runI_of_opsW' (sops:=sops) (j:=k+1) (fun i o ho=>by rwa [List.getElem?_drop]at ho) p7
  grind
 obtain⟨s3,hrun3,hK3⟩:=hrun3;have:=key g2 B2 p1 p2 p3 p4 [] s3.fs (fun a3 w3 E3 hS3=>p8 s3 a3 w3 E3 hK3 hS3) _ s2.fs a2 w2 E2 List.nodup_range' p5 (hfi _ s2 p6) hrun3
 grind
end
def noRaw:SCode→Bool
 | .skip| .ret| .exit _| .reg _ _=>true
 | .seq a b=>noRaw a&&noRaw b
 | .cond _ a b=>noRaw a&&noRaw b
 | .block _ a=>noRaw a
 |_=>false
section
variable{P:Program}{H:Nat→Option Nat→Nat}{Fp:Nat→List (Nat→Option Nat)}{K:Nat→List Nat}{B:Base}{g:Glob}{ro:Option Nat}{n:Nat}
theorem letsOut_not{B:Base}{Q:SExit→ES→Prop}:¬LetsOut (fun x a' w'=>∃e s' E',x=SExit.to e∧Q e s'∧Sim B s'.fs a' w' E'):=by
 rintro⟨a,w,e,s',E',h,_⟩;cases e<;>cases h
theorem swpIn_sound(hmix:P.follows .mixedOrders=true)(hm0:B.m≤1000)(hN:B.N≤1000)(hG:g.G B.w0)(hX:∀d b,B.X d b→g.n≤b):∀{c:Code} {sc:SCode},z15 P B.N H Fp K c=some sc→noRaw sc=true→∀{Q:SExit→ES→Prop} {s:ES},swp P g sc Q s→∀{a:Act} {w:World} {E:Env},Sim B s.fs a w E→
  c.wpIn (Fw ro) n P (fun x a' w'=>∃e s' E',x=SExit.to e∧Q e s'∧Sim B s'.fs a' w' E') a w:=by
 intro c
 induction c with
 |skip=>
  intro sc h hnr Q s hs a w E hS;simp only[z15]at h;cases h;exact wpIn_skip ⟨.normal,s,E,rfl,hs,hS⟩
 |exit id=>
  intro sc h hnr Q s hs a w E hS;simp only[z15]at h;cases h;exact wpIn_exit ⟨.exit id,s,E,rfl,hs,hS⟩
 |ret=>
  intro sc h hnr Q s hs a w E hS;simp only[z15]at h;cases h;exact wpIn_ret ⟨.ret,s,E,rfl,hs,hS⟩
 |region id ops draw=>
  intro sc h hnr Q s hs a w E hS;simp only[z15]at h;split at h
  ·cases h;cases hnr
  ·split at h
   ·cases h;cases hnr
   cases h;obtain⟨al,hal,hs⟩:=hs;have key:∀(Hs:List ((Option Nat→Nat)×(Nat→Option Nat))),al∈z130 P B.N ops draw Hs→∃H,∃F:Nat→Option Nat,z44 P B.N H F ops draw=some al.2∧al.1=al.2.flatMap SOper.news:=by
    intro Hs
    induction Hs<;>grind [z130,only]
   obtain⟨H',F',htr,hn⟩:=key _ hal;refine region_soundIn hmix hm0 hN hG hX htr (s:=s.fgt al.1) (fun d hd=>z64 s (by grind)) hs (z84 hS al.1) letsOut_not (fun s' a' w' E' hK hS'=>⟨.normal,s'.kill _,E',rfl,hK,z186 hS' _⟩)
 |seq a b iha ihb=>
  intro sc h hnr Q s hs ac w E hS;simp only[z15]at h;split at h<;>try(cases h;done)
  rename_i a' b' ha hb;cases h;simp only[noRaw,Bool.and_eq_true]at hnr;refine wpIn_seq (wpIn_mono (iha ha hnr.1 hs hS) ?_);rintro x a2 w2 ⟨e,s2,E2,rfl,hq,hS2⟩;cases e with
  |normal=>exact ihb hb hnr.2 hq hS2
  |exit id=>exact⟨.exit id,s2,E2,rfl,hq,hS2⟩
  |ret=>exact⟨.ret,s2,E2,rfl,hq,hS2⟩
  |pan z=>exact⟨.pan z,s2,E2,rfl,hq,hS2⟩
 |cond cnd a b iha ihb=>
  intro sc h hnr Q s hs ac w E hS;simp only[z15]at h;split at h<;>try(cases h;done)
  cases h;simp only[noRaw,Bool.and_eq_true]at hnr;obtain⟨t,h1,h2⟩:=hs;have hv:=val_rel (y:=.bool t) (z17 hS h1) rfl;refine wpIn_cond hv ?_
  grind
 |block id a ih=>
  intro sc h hnr Q s hs ac w E hS;obtain⟨a',ha,rfl⟩:=gO h;refine wpIn_block (wpIn_mono (ih ha hnr hs hS) ?_);rintro x a2 w2 ⟨e,s2,E2,rfl,hq,hS2⟩;cases e with
  |normal=>exact⟨.normal,s2,E2,rfl,hq,hS2⟩
  |ret=>exact⟨.ret,s2,E2,rfl,hq,hS2⟩
  |pan z=>exact⟨.pan z,s2,E2,rfl,hq,hS2⟩
  |exit j=>
   simp only[SExit.to,Exit.inBlock]
   grind [only,blockW]
 |loop a ih=>
  intro sc h hnr;obtain⟨a',ha,rfl⟩:=gO h;cases hnr
 |rangeFunc x y c d ih1 ih2=>
  intro sc h hnr;simp only[z15]at h;cases h;cases hnr
 |_=>grind [z15]
end
end
section
def TV.flat(x:TV):Prop:=(∃p,x=.pv p)∨∃d W es,x=.own d W es
theorem RelT.still{w w':World}{E:Env}{r:Rows}{x:TV}{v:Value}(hx:x.flat)(h:RelT w E r x v)(hk:∀b o u,E.K b o→w.cell? ⟨b,o,none⟩=some u→E.K b o∧w'.cell? ⟨b,o,none⟩=some u):RelT w' E r x v:=by
 rcases hx with⟨p,rfl⟩|⟨d,W,es,rfl⟩
 ·cases h with|pv h=>exact .pv (h.mono hk)
 ·cases h with|own _ _ _ _ h h2=>exact .own d W es v (h.mono hk) h2
theorem z193{w w':World}{b o:Nat}(h:w'.heap[b]?=w.heap[b]?):w'.frozen? ⟨b,o,none⟩=w.frozen? ⟨b,o,none⟩:=by
 simp only[World.frozen?,h]
theorem z96{w:World}{b o:Nat}{u:Value}(h:w.cell? ⟨b,o,none⟩=some u):∃ob:Obj,w.heap[b]?=some ob∧ob.isCells=true:=by
 unfold World.cell? at h;split at h
 ·rename_i c e z hb;exact⟨_,hb,rfl⟩
 ·cases h
section
variable{B:Base}{b:Nat→Option (List TV)}{r:Rows}{w w':World}{E:Env}{row:Option Nat}
theorem MSim.grown(h:MSim B b r w E)(hfl:∀d cs,b d=some cs→∀x∈cs,x.flat)(hg:w.grownBy w' row)(hr:∀k,row=some k→B.w0.heap.size≤k∧∃o:Obj,w.heap[k]?=some o∧o.isCells=false):MSim B b r w' E:=by
 have hcs:∀(k:Nat) (o:Obj),w.heap[k]?=some o→o.isCells=true→w'.heap[k]?=w.heap[k]?:=fun k o hk ho=>by
  refine hg.block k (gA hk).1 (fun he=> ?_)
  grind
 have hce:∀(k o:Nat) (u:Value),w.cell? ⟨k,o,none⟩=some u→w'.cell? ⟨k,o,none⟩=some u:=fun k o u hu=>by
  grind [z96,World.cell?_of_block]
 have hk:∀b o u,E.K b o→w.cell? ⟨b,o,none⟩=some u→E.K b o∧w'.cell? ⟨b,o,none⟩=some u:=fun b o u h1 h2=>⟨h1,hce b o u h2⟩
 refine⟨fun d cs hd=> ?_,fun d e W n hd=> ?_,h.bb,h.br,h.rr,fun k o hk=>Nat.lt_of_lt_of_le (h.lt k o hk) hg.size,?_,fun k o u h1 h2=>⟨(h.keep k o u h1 h2).1,hce _ _ _ (h.keep k o u h1 h2).2⟩,h.knew,h.pas⟩
 ·obtain⟨⟨lt,⟨c,e,z,hob⟩,fz,cell,out⟩,hq⟩:=h.box d cs hd;have hs:=hcs _ _ hob rfl;refine⟨⟨Nat.lt_of_lt_of_le lt hg.size,⟨c,e,z,hs.trans hob⟩,fun o=>(z193 hs).trans (fz o),fun j c hj=> ?_,out⟩,hq⟩;obtain⟨v,h1,h2,h3⟩:=cell j c hj;exact⟨v,hce _ _ _ h1,h2,h3.still (hfl d cs hd c (gM hj)) hk⟩
 ·rcases h.row d e W n hd with h1|⟨k,cap,h1,h2,⟨⟨cur,h3,h4⟩,h5,h6,h7⟩⟩
  ·grind
  ·exact .inr ⟨k,cap,h1,h2,⟨⟨cur,(hcs _ _ h3 rfl).trans h3,h4⟩,h5,h6,h7⟩⟩
 ·exact⟨hg.os.trans h.low.os,hg.tape.trans h.low.tape,hg.output.trans h.low.output,Nat.le_trans h.low.size hg.size,fun k hk hX=>(hg.block k (Nat.lt_of_lt_of_le hk h.low.size) (fun he=>by have:=(hr k he.symm).1;omega)).trans (h.low.block k hk hX)⟩
end
def EK(K:Nat→Nat→Prop):Env:=⟨K,fun _=>0,fun _=>none,fun _=>0⟩
theorem simT{W:World}{K:Nat→Nat→Prop}(hK:∀b o,K b o→b<W.heap.size){N:Nat}{a:Act}(hsz:a.tmps.size=N)(hd:a.defers=[])(ts:List (Nat×TV))(ht:∀k x,(k,x)∈ts→k<N∧RelT W (EK K) (fun _=>none) x (a.tmps.getD k undef)):
  Sim (start W (EK K) [] N) (ES.fs ⟨ts,[],[],[]⟩) a W (EK K):=by
 have hmem:∀{k:Nat} {x:TV},lk ts k=some x→(k,x)∈ts:=by
  clear ht
  induction ts<;>grind [only,lk,Nat.eq_of_beq_eq_true,List.mem_cons_self,List.mem_cons_of_mem]
 have ho:∀d,¬(start W (EK K) [] N).old d:=fun d h=>by have h1:=h.1;have h2:d<1000+0:=h.2;omega
 refine⟨hd,hsz,fun k x hx=>ht k x (hmem hx),⟨fun d cs h=>(by cases h),fun d e W n h=>(by cases h),fun d d' cs cs' h=>(by cases h),fun d d' cs q k cap h=>(by cases h),fun d d' q q' k cap cap' h=>(by cases h),fun k o h=>hK k o h,⟨rfl,rfl,rfl,Nat.le_refl _,fun _ _ _=>rfl⟩,fun k o u h1 h2=>⟨h1,h2⟩,fun k o h=> .inl h,⟨fun d h=>absurd h (ho d),fun d h=>absurd h (ho d),fun d e W n h=>absurd h (ho d)⟩⟩,fun d z p h=>(by cases h),fun d d' q q' h=>(by cases h)⟩
theorem grown_of{W W':World}{K:Nat→Nat→Prop}{N:Nat}{s:FS}{a:Act}{E:Env}(h:Sim (start W (EK K) [] N) s a W' E):W.grownBy W' none:=by
 have hl:=h.mem.low;refine⟨hl.os,hl.tape,hl.output,hl.size,fun k hk _=>hl.block k hk fun d hx=> ?_⟩;rcases hx with⟨cs,h1,_⟩|⟨q,cap,h1,_⟩<;>grind [objB,objR]
def g00:Glob:=⟨fun _=>True,0,fun _ _ _ _=>trivial,fun _ _=>Nat.zero_le _⟩
theorem startX{W:World}{K:Nat→Nat→Prop}{N n:Nat}:∀d b,(start W (EK K) [] N).X d b→n≤b:=by
 intro d b hx;rcases hx with⟨cs,h1,_⟩|⟨q,cap,h1,_⟩<;>grind [objB,objR]
def rbOf(β:Nat)(W:World)(k:Nat):Prop:=∃p n c,W.cell? ⟨β,0,none⟩=some (.slice (some p) n c)∧p.block=k
structure Kp(O:List Nat)(β n:Nat)(W W':World):Prop where
 size:W.heap.size≤W'.heap.size
 same:∀(k:Nat) (o:Obj),W.heap[k]?=some o→o.isCells=true→k∉O→¬rbOf β W k→W'.heap[k]?=some o
 rb:∀k,rbOf β W' k→rbOf β W k∨W.heap.size≤k
 lt:(∀k,rbOf β W k→k<W.heap.size)→∀k,rbOf β W' k→k<W'.heap.size
 glob:∀k,k<n→W'.heap[k]?=W.heap[k]?
theorem Kp.refl{O:List Nat}{β n:Nat}(W:World):Kp O β n W W:=⟨Nat.le_refl _,fun _ _ h _ _ _=>h,fun _ h=> .inl h,fun h=>h,fun _ _=>rfl⟩
theorem Kp.trans{O:List Nat}{β n:Nat}{A B C:World}(h:Kp O β n A B)(k:Kp O β n B C):Kp O β n A C:=by
 refine⟨Nat.le_trans h.size k.size,fun j o h1 h2 h3 h4=>k.same j o (h.same j o h1 h2 h3 h4) h2 h3 (fun h5=> ?_),fun j h1=> ?_,fun h1=>k.lt (h.lt h1),fun j hj=>(k.glob j hj).trans (h.glob j hj)⟩
 ·rcases h.rb j h5 with h6|h6<;>grind
 ·rcases k.rb j h1 with h2|h2
  ·exact h.rb j h2
  ·have:=h.size;exact .inr (by omega)
theorem z128{β:Nat}{W W':World}(h:W'.heap[β]?=W.heap[β]?)(k:Nat):rbOf β W' k ↔ rbOf β W k:=by
 grind [rbOf,World.cell?_of_block]
theorem Kp.put{O:List Nat}{β n m:Nat}(hβ:β<m)(hn:n≤m)(W:World)(l:Nat)(o o':Obj)(hl:m≤l)(ho:W.heap[l]?=some o)(hc:o.isCells=false):Kp O β n W (W.putObj l o'):=by
 have hne:∀k,k≠l→(W.putObj l o').heap[k]?=W.heap[k]?:=fun k hk=>World.putObj_heap_other hk;refine⟨by simp,fun k ob h1 h2 _ _=>(hne k (fun he=> ?_)).trans h1,fun k h=> .inl ((z128 (hne β (by omega)) k).1 h),fun h k h1=> ?_,fun k hk=>hne k (by omega)⟩
 ·grind
 ·have:=h k ((z128 (hne β (by omega)) k).1 h1);simp_all
end
section
section
variable{B:Base}{s:FS}{a:Act}{w w':World}{E:Env}{I:List Nat}{N:Nat}
theorem inner_sim(hS:Sim B s a w E)(hI:I.Nodup){os:List MO}(hos:seqO (fun d=>(s.mo d).bind (MO.ren (rhoIn I))) I=some os){a2:Act}{ds:List Deferred}(hsz:a2.tmps.size=N)(hd:a2.defers=ds)(ts:List (Nat×TV))
  (hts:∀k x',(k,x')∈ts→k<N∧((∃x,x.ren3 (rhoIn I)=some x'∧RelT w E s.r x (a2.tmps.getD k undef))∨∀W E r,RelT W E r x' (a2.tmps.getD k undef))):
  Sim { start w (envIn E I) os N with ds:=ds } (ES.fs ⟨ts,numB 1000 os,numR 1000 os,[]⟩) a2 w (envIn E I):=by
 have hMp:=z114 hS hI hos;have hb:(ES.fs ⟨ts,numB 1000 os,numR 1000 os,[]⟩).b=objB os:=by funext d;show lk (numB 1000 os) d=_;rw[lk_numB];rfl
 have hr:(ES.fs ⟨ts,numB 1000 os,numR 1000 os,[]⟩).r=objR os:=by funext d;show lk (numR 1000 os) d=_;rw[lk_numR];rfl
 have hmem:∀{k:Nat} {x:TV},lk ts k=some x→(k,x)∈ts:=by
  clear hts hb hr
  induction ts<;>grind [only,lk,Nat.eq_of_beq_eq_true,List.mem_cons_self,List.mem_cons_of_mem]
 refine⟨hd,hsz,fun k x hx=> ?_,?_,fun d z p h=>(by cases h),fun d d' q q' h=>(by cases h)⟩
 ·obtain⟨h1,h2⟩:=hts k x (hmem hx);refine⟨h1,?_⟩;rcases h2 with⟨y,h4,h5⟩|h2
  ·rw[hr];exact z153 (renIn hos) (fun _ _ _ h _=>h) h5 h4
  ·grind
 ·rw[hb,hr];exact⟨hMp.box,hMp.row,hMp.bb,hMp.br,hMp.rr,hMp.lt,hMp.low,hMp.keep,hMp.knew,⟨hMp.pas.β,hMp.pas.γ,hMp.pas.row⟩⟩
theorem inner_back(hS:Sim B s a w E)(hI:I.Nodup)(hIm:∀i∈I,s.ment i)(hm0:B.m≤1000){k:Nat}(hfr:∀q<4,Fresh s (newId k q)){os os':List MO}(hos:seqO (fun d=>(s.mo d).bind (MO.ren (rhoIn I))) I=some os)
  (hok:moOk os os'=true) {us:List (Nat×MO)} (hus:outs (rhoOut I k) 0 os'=some us) {ds:List Deferred} {s':ES} {a':Act} {E':Env} (hS':Sim { start w (envIn E I) os N with ds:=ds } s'.fs a' w' E') {y0 y y2:TV} {v:Value} (hrel:RelT w' E' s'.fs.r y0 v)
  (hex:exitY y0 false os.length s'=some (y,os')) (hy2:y.ren3 (rhoOut I k)=some y2):
  ∃E2,Sim B (s.upd none (.mem us)) a w' E2∧RelT w' E2 (s.upd none (.mem us)).r y2 v:=by
 obtain⟨E1,m1,r1,l1⟩:=fin_y hok hS' hrel hex;obtain⟨h1,h2⟩:=z174 hS hI hIm hm0 hfr hos hok hus m1 l1 none;exact⟨_,h1,z153 h2 (fun _ _ _ h _=>h) r1 hy2⟩
theorem Sim.grown{row:Option Nat}(h:Sim B s a w E)(hts:∀k x,s.t k=some x→x.flat∨∃d o,x=.ptr d o)(hi:∀d,s.i d=none)(hfl:∀d cs,s.b d=some cs→∀x∈cs,x.flat)(hg:w.grownBy w' row)(hr:∀k,row=some k→B.w0.heap.size≤k∧∃o:Obj,w.heap[k]?=some o∧o.isCells=false):Sim B s a w' E:=by
 refine⟨h.defers,h.size,fun k x hx=>⟨(h.tmp k x hx).1,?_⟩,h.mem.grown hfl hg hr,fun d z p hd=>(by grind),h.ii⟩;rcases hts k x hx with hf|⟨d,o,rfl⟩
 ·refine(h.tmp k x hx).2.still hf (fun b o u h1 h2=>⟨h1,?_⟩);obtain⟨ob,e1,e2⟩:=z96 h2;refine(World.cell?_of_block (w:=w) (a:=⟨b,o,none⟩) (hg.block b (gA e1).1 (fun he=> ?_))).trans h2
  grind
 ·have:=(h.tmp k _ hx).2;generalize a.tmps.getD k undef=v at this;cases this;exact .ptr d o
theorem Sim.freeze0(h:Sim B s a w E){d:Nat}{ps:List PV}(hd:s.b d=some (ps.map TV.pv)):
  ∃K',Sim B { s with b:=fun e=>if e=d then none else s.b e } a w { E with K:=K' }∧RelT w { E with K:=K' } s.r (.pv (.el ps)) (.pointer (some ⟨E.β d,0,none⟩))∧∀b o,E.K b o→K' b o:=by
 obtain⟨hbx,hq⟩:=h.mem.box d _ hd;have hk:∀b o u,E.K b o→w.cell? ⟨b,o,none⟩=some u→(E.K b o∨(b=E.β d∧o<ps.length))∧w.cell? ⟨b,o,none⟩=some u:=fun b o u h1 h2=>⟨.inl h1,h2⟩
 have hmono:∀{x:TV} {v:Value},RelT w E s.r x v→RelT w { E with K:=fun b o=>E.K b o∨(b=E.β d∧o<ps.length) } s.r x v:=fun hx=>hx.mono hk (fun _ _=>⟨rfl,rfl⟩) (fun _ _ _ _ _ hd=> .inl ⟨hd,rfl⟩) (Maps.refl w);have hb':∀{e:Nat} {cs:List TV},(if e=d then none else s.b e)=some cs→e≠d∧s.b e=some cs:=fun {e cs} he=>by
  grind
 refine⟨fun b o=>E.K b o∨(b=E.β d∧o<ps.length),⟨h.defers,h.size,fun k x hx=>⟨(h.tmp k x hx).1,hmono (h.tmp k x hx).2⟩,⟨fun e cs he=> ?_,fun e ty W n he=> ?_,fun e e' c c' h1 h2 h3=>h.mem.bb e e' c c' (hb' h1).2 (hb' h2).2 h3,fun e e' c q k cap h1 h2 h3=>h.mem.br e e' c q k cap (hb' h1).2 h2 h3,h.mem.rr,fun k o ho=> ?_,h.mem.low,fun k o u h1 h2=>⟨.inl (h.mem.keep k o u h1 h2).1,(h.mem.keep k o u h1 h2).2⟩,fun k o ho=> ?_,⟨h.mem.pas.β,h.mem.pas.γ,h.mem.pas.row⟩⟩,h.itr,h.ii⟩,?_,fun _ _ h=> .inl h⟩
 ·obtain⟨hed,he⟩:=hb' he;obtain⟨h1,h2⟩:=h.mem.box e cs he;refine⟨⟨h1.lt,h1.obj,h1.fz,fun j c hj=> ?_,fun o ho=> ?_⟩,h2⟩
  ·obtain⟨v,c1,c2,c3⟩:=h1.cell j c hj
   grind
  ·rcases ho with ho|⟨ho,_⟩
   ·exact h1.out o ho
   ·exact hed (h.mem.bb e d _ _ he hd ho)
 ·rcases h.mem.row e ty W n he with h1|⟨k,cap,h1,h2,h3⟩
  ·grind
  ·refine .inr ⟨k,cap,h1,h2,⟨h3.cells,h3.le,h3.max,fun o ho=> ?_⟩⟩;rcases ho with ho|⟨ho,_⟩
   ·exact h3.out o ho
   ·exact absurd ho.symm (h.mem.br d e _ _ k cap hd he h1)
 ·rcases ho with ho|⟨rfl,_⟩
  ·exact h.mem.lt k o ho
  ·exact hbx.lt
 ·rcases ho with ho|⟨rfl,_⟩
  ·exact h.mem.knew k o ho
  ·grind
 ·have hcell:∀(j:Nat) c,ps[j]?=some c→∃v,w.cell? ⟨E.β d,j,none⟩=some v∧one v∧RelV w E.K c v:=fun j c hj=>by
   obtain⟨v,c1,c2,c3⟩:=hbx.cell j (.pv c) (by grind);cases c3 with|pv c3=>exact⟨v,c1,c2,c3⟩
  refine .pv (.el ps (E.β d) 0 (fun j=>(w.cell? ⟨E.β d,j,none⟩).getD undef) (fun j c hj=> ?_) (fun j c hj=> ?_))
  ·grind
  ·obtain⟨v,c1,c2,c3⟩:=hcell j c hj;rw[c1];exact c3.mono hk
theorem Sim.freeze(h:Sim B s a w E)(hold:∀d,s.b d≠none→True){d:Nat}{ps:List PV}(hd:s.b d=some (ps.map TV.pv))(hnm:∀k x,s.t k=some x→¬Ment d x)(hnb:∀e cs x,s.b e=some cs→e≠d→x∈cs→¬Ment d x):
  ∃K',Sim B { s with b:=fun e=>if e=d then none else s.b e } a w { E with K:=K' }∧RelT w { E with K:=K' } s.r (.pv (.el ps)) (.pointer (some ⟨E.β d,0,none⟩))∧∀b o,E.K b o→K' b o:=h.freeze0 hd
theorem inner_X{n:Nat}(hS:Sim B s a w E){os:List MO}(hos:seqO (fun d=>(s.mo d).bind (MO.ren (rhoIn I))) I=some os)(hn:n≤B.w0.heap.size)(hX:∀d b,B.X d b→n≤b):∀d b,objX (envIn E I) os d b→n≤b:=by
 intro d b hx;obtain⟨hlen,hB,hR⟩:=handed hos;rcases hx with⟨cs,e1,e2⟩|⟨⟨e,W,m⟩,cap,e1,e2⟩
 ·obtain⟨j,rfl,hj⟩:=z49 e1;obtain⟨i,c,b1,b2,_⟩:=hB j cs hj;have e3:E.β i=b:=by grind [only,envIn,getD_of]
  rcases(hS.mem.box i c b2).2 with e4|e4<;>grind
 ·obtain⟨j,rfl,hj⟩:=z30 e1;obtain⟨i,b1,b2,b3⟩:=hR j e W m hj;have e3:E.γ i=some (b,cap):=by grind [only,envIn,getD_of]
  rcases hS.mem.row i e W m b3 with⟨e4,_⟩|⟨k,cap',e4,e5,_⟩<;>grind
theorem Sim.act(h:Sim B s a w E){a2:Act}(hsz:a2.tmps.size=B.N)(hd:a2.defers=B.ds)(ht:∀k x,s.t k=some x→RelT w E s.r x (a2.tmps.getD k undef)):Sim B s a2 w E:=
 ⟨hd,hsz,fun k x hx=>⟨(h.tmp k x hx).1,ht k x hx⟩,h.mem,h.itr,h.ii⟩
theorem inner_cells(hS:Sim B s a w E)(hI:I.Nodup){os:List MO}(hos:seqO (fun d=>(s.mo d).bind (MO.ren (rhoIn I))) I=some os){d k:Nat}(hx:objX (envIn E I) os d k):∃c e z,w.heap[k]?=some (.cells c e z):=by
 have hMp:=z114 hS hI hos;rcases hx with⟨cs,e1,e2⟩|⟨⟨e,W,m⟩,cap,e1,e2⟩
 ·have:=(hMp.box d cs e1).1.obj
  grind
 ·rcases hMp.row d e W m e1 with⟨e4,_⟩|⟨k',cap',e4,e5,h6⟩
  ·grind
  ·rw[e2]at e4;cases e4;obtain⟨cur,h7,_⟩:=h6.cells
   grind
theorem inner_keeps(hS:Sim B s a w E)(hI:I.Nodup){os:List MO}(hos:seqO (fun d=>(s.mo d).bind (MO.ren (rhoIn I))) I=some os){ds:List Deferred}{s':FS}{a':Act}{E':Env}(hS':Sim { start w (envIn E I) os N with ds:=ds } s' a' w' E'):∀(k:Nat) (o:Obj),w.heap[k]?=some o→o.isCells=false→w'.heap[k]?=some o:=by
 intro k o hk ho;refine(hS'.mem.low.block k (gA hk).1 fun d hx=> ?_).trans hk;obtain⟨c,e,z,hc⟩:=inner_cells hS hI hos hx;rw[hk]at hc;cases hc;cases ho
end
end
end Go.Sh
end

section
namespace Go.Proofs.YtcpaleaajdilgaaGreatDoor
open Go Go.RowKit Go.Mor Go.Sh Go.Sh.Cd1 Go.Sh.Cd4 Go.Sh.Cd5
inductive ESmall:V→Prop where
 |mk {k n:Int} {s:zB} {l:List V} (h:l.length<4611686018427387904) (ht:s.length<4611686018427387904) (hs:∀y∈l,ESmall y):ESmall (.mk k n s l)
theorem ESmall.len{x:V}(h:ESmall x):x.l.length<4611686018427387904:=by cases h;assumption
theorem ESmall.txt{x:V}(h:ESmall x):x.s.length<4611686018427387904:=by cases h;assumption
theorem ESmall.sub{x y:V}(h:ESmall x)(hy:y∈x.l):ESmall y:=by cases h with|mk _ _ hs=>exact hs y hy
theorem beqL(s t:zB):(s==t)=decide (s=t):=by rw[Bool.eq_iff_iff];simp
theorem node_ok(m:Nat)(e:V)(he:ESmall e)(n:Int):zC (gl0 m) 209 [.ptr 1000 0,tv e] [.box [bindM,I n]] (B (nodeE e)) [.box [bindM,I n]]:=by
 refine z22 tf_22 ?_;have HT:=eRightText_ok m e.s he.txt;have HN:=eRightName_ok (gl0 m) e.s he.txt;have HK:=takes_ok (gl0 m) e.s;have e0:=bS [];have hlen0:decide ((e.l.length:Int)=0)=(e.l.length==0):=by rw[Bool.eq_iff_iff];simp
 have hlen1:decide ((e.l.length:Int)=1)=(e.l.length==1):=by rw[Bool.eq_iff_iff];simp;omega
 have hlen2:decide ((e.l.length:Int)=2)=(e.l.length==2):=by rw[Bool.eq_iff_iff];simp;omega
 have e45:=bS [45];unfold B at*;unfold nodeE;by_cases k1:e.k=1
 ·rw[if_neg (by simp[k1]),if_pos k1];simp only[vW,seval,bmV,k1,e0,beqL]
  repeat' (first|(apply And.intro)|(intro _))
  all_goals(first|(simp_all;done)|(simp only[Option.some.injEq,Prod.mk.injEq,TV.pv.injEq,PV.v.injEq,Value.bool.injEq];rw[Bool.eq_iff_iff];simp_all<;>omega))
 by_cases n0:e.n=0
 ·rw[if_neg (by simp[n0]),if_neg k1];by_cases k2:e.k=2
  ·rw[if_pos k2];simp only[vW,seval,bmV,k2,n0];refine z7 HT ?_;cases z18 e.s
   ·simp only[vW,seval,bmV]
   ·simp only[vW,seval,bmV,hlen0,Bool.true_and]
  rw[if_neg k2];by_cases k3:e.k=3
  ·rw[if_pos k3];simp only[vW,seval,bmV,k3,n0];refine z7 HN ?_;cases z11 e.s
   ·simp only[vW,seval,bmV]
   ·simp only[vW,seval,bmV,hlen0,Bool.true_and]
  rw[if_neg k3];by_cases k4:e.k=4
  ·rw[if_pos k4];simp only[vW,seval,bmV,k4,n0];refine⟨fun h=> ?_,fun h=> ?_⟩
   ·rw[decide_eq_true h,hlen2,Bool.true_and]
   ·rw[decide_eq_false h,Bool.false_and]
  rw[if_neg k4];by_cases k5:e.k=5
  ·rw[if_pos k5];simp only[vW,seval,bmV,k5,n0,e45];cases e.s==[45]
   ·simp only[vW,seval,bmV]
   ·simp only[vW,seval,bmV,hlen1,Bool.true_and]
  rw[if_neg k5];by_cases k6:e.k=6
  ·rw[if_pos k6];simp only[vW,seval,bmV,k6,n0];refine z7 HK ?_;simp only[vW,seval,bmV];refine⟨fun h=> ?_,fun h=> ?_⟩
   ·refine z7 HK ?_;simp only[vW,seval,bmV,h]
   ·rw[decide_eq_false h,Bool.false_and]
  ·rw[if_neg k6];simp only[vW,seval,bmV,k1,k2,k3,k4,k5,k6,n0]
 ·rw[if_pos ⟨k1,n0⟩];simp only[vW,seval,bmV,k1,n0]
end Go.Proofs.YtcpaleaajdilgaaGreatDoor
end

section
namespace Go.Mor
open Go
theorem readP_txt{l:zB}{p:Nat}{q:Pc}{z:Nat}(h:readP l p=some (q,z)):q.s.length≤60:=by
 have hq:∀(r acc:zB) (k:Nat) (t:zB) (z:Nat),quoG r acc k=some (t,z)→t.length≤60:=by
  intro r
  induction r using(measure List.length).wf.induction with
  |_ r ih=>
   intro acc k t z h;cases r with
   |nil=>simp[quoG]at h
   |cons b r=>
    unfold quoG at h;split at h
    ·grind [z18]
    ·split at h
     ·split at h
      ·cases h
      ·rename_i c r';split at h
       ·exact ih r' (show r'.length<_ by simp;omega) _ _ _ _ h
       ·cases h
     ·exact ih r (show r.length<_ by simp) _ _ _ _ h
 cases l with
 |nil=>simp[readP]at h
 |cons b r=>
  unfold readP at h
  grind [z11,signP]
theorem z140:∀(f:Nat) (l:zB) (a:Nat) (acc L:List Pc),(∀q∈acc,q.s.length≤60)→lexG f l a acc=some (.ok L)→(∀q∈L,q.s.length≤60)∧L.length≤acc.length+f
 |0,l,a,acc,L,_,h=>by simp[lexG]at h
 |f+1,l,a,acc,L,ha,h=>by
  unfold lexG at h;split at h
  ·cases h;exact⟨ha,by omega⟩
  ·split at h
   ·have:=z140 f _ _ _ _ ha h;exact⟨this.1,by omega⟩
   ·split at h
    ·cases h
    ·rename_i q z hq;have:=z140 f _ _ _ _ (fun x hx=>by
      rcases List.mem_append.1 hx with hx|hx
      ·exact ha x hx
      ·rw[List.mem_singleton]at hx;subst hx;exact readP_txt hq) h
     exact⟨this.1,by have:=this.2;simp at this;omega⟩
theorem pk_txt{L:List Pc}(h:∀q∈L,q.s.length≤60)(sz p:Nat):(pkP L sz p).s.length≤60:=by
 grind [pkP,List.mem_of_getElem?]
theorem takes_3(s:zB):0≤takesV s∧takesV s≤3:=by
 grind [takesV]
end Go.Mor
end

section
namespace Go.Proofs.YtcpaleaajdilgaaGreatDoor
open Go Go.RowKit Go.Mor Go.Sh Go.Sh.Cd1 Go.Sh.Cd4 Go.Sh.Cd5
def rtL(r:V→Nat→Bool×Nat):List V→Nat→Bool×Nat
 |[],n=>(true,n)
 |x::l,n=>match r x n with
  |(true,n')=>rtL r l n'
  |(false,n')=>(false,n')
def rt:Nat→V→Nat→Bool×Nat
 |0,_,n=>(false,n+1)
 |d+1,e,n=>if n+1≤40∧nodeE e=true then rtL (rt d) e.l (n+1)else(false,n+1)
theorem rtL_eq{d:Nat}(ih:∀(e:V) (n:Nat),n≤40→((rt d e n).1=(okE d e&&decide (n+szE d e≤40))∧((rt d e n).1=true→(rt d e n).2=n+szE d e))):
  ∀(l:List V) (n:Nat),n≤40→((rtL (rt d) l n).1=(l.all (okE d)&&decide (n+(l.map (szE d)).sum≤40))∧((rtL (rt d) l n).1=true→(rtL (rt d) l n).2=n+(l.map (szE d)).sum)):=by
 intro l
 induction l with
 |nil=>intro n hn;simp[rtL,hn]
 |cons x l il=>
  intro n hn;have hx:=ih x n hn;unfold rtL;rcases hr:rt d x n with⟨b,n'⟩
  rw[hr]at hx;simp only at hx;cases b
  ·simp only[List.all_cons,List.map_cons,List.sum_cons];refine⟨?_,fun h=>by simp at h⟩;have h1:=hx.1;cases ho:okE d x
   ·simp
   ·rw[ho,Bool.true_and]at h1;have h2:¬n+szE d x≤40:=by intro h;rw[decide_eq_true h]at h1;exact absurd h1 (by simp)
    rw[decide_eq_false (by omega)];simp
  ·have h1:=hx.1;have h2:=hx.2 rfl;cases ho:okE d x
   ·rw[ho]at h1;simp at h1
   rw[ho,Bool.true_and]at h1;have h3:n+szE d x≤40:=of_decide_eq_true h1.symm;subst h2;have:=il (n+szE d x) h3;simp only[List.all_cons,List.map_cons,List.sum_cons,ho,Bool.true_and];rw[←Nat.add_assoc];exact this
theorem rt_eq:∀(d:Nat) (e:V) (n:Nat),n≤40→((rt d e n).1=(okE d e&&decide (n+szE d e≤40))∧((rt d e n).1=true→(rt d e n).2=n+szE d e)):=by
 intro d
 induction d with
 |zero=>intro e n hn;simp[rt,okE]
 |succ d ih=>
  intro e n hn;unfold rt okE szE;by_cases h1:n+1≤40
  ·cases h2:nodeE e
   ·simp
   ·rw[if_pos ⟨h1,rfl⟩];have:=rtL_eq ih e.l (n+1) h1;rw[Nat.add_assoc]at this;simpa using this
  ·rw[if_neg (by omega),decide_eq_false (by omega)];simp
theorem rt_right(e:V):(rt 8 e 0).1=rightE e:=by
 have:=(rt_eq 8 e 0 (by omega)).1;rw[Nat.zero_add]at this;exact this
theorem right_ok(m:Nat):∀(d:Nat),d≤8→∀(e:V),ESmall e→∀(n:Nat),n≤40→
  zC (gl0 m) 134 [.ptr 1000 0,tv e,I (9-(d:Int))] [.box [bindM,I (n:Int)]] (B (rt d e n).1) [.box [bindM,I ((rt d e n).2:Int)]]:=by
 intro d
 induction d with
 |zero=>
  intro _ e he n hn;refine z22 tf_23 ?_;have w1:=wS n;unfold rt B;simp only[vW,seval,bmV,w1]
 |succ d ih=>
  intro hd e he n hn;refine z22 tf_23 ?_;have w1:=wS n;have w2:IntKind.i64.wrap (9-((d+1:Nat):Int)+1)=9-(d:Int):=wG;have d1:¬(8:Int)<9-((d+1:Nat):Int):=by omega
  have HN:=node_ok m e he ((n+1:Nat):Int);have HD:=fun e he n hn=>ih (by omega) e he n hn;have hl:=he.len;unfold B at*;generalize hR:rt (d+1) e n=R;unfold rt at hR;by_cases d2:(40:Int)<((n+1:Nat):Int)
  ·rw[if_neg (by omega)]at hR;subst hR;simp only[vW,seval,bmV,w1,d1,d2]
  simp only[vW,seval,bmV,w1,d1,d2];refine z27 HN ?_;cases hN:nodeE e
  ·rw[if_neg (by simp[hN])]at hR;subst hR;simp only[vW,seval,bmV]
  rw[if_pos ⟨by omega,hN⟩]at hR;simp only[vW,seval,bmV];refine v_loop (σ:={x:Nat×Nat // x.1≤e.l.length∧x.2≤40∧rtL (rt d) (e.l.drop x.1) x.2=R})
   (fun x=>⟨[(0,.ptr 1000 0),(2,I (9-((d+1:Nat):Int))),(32,.pv (.sl 4 (V.rows e.l))),(33,I (e.l.length:Int)),(34,I (x.1.1:Int))],[(1000,[bindM,I (x.1.2:Int)])],[],[]⟩)
   (fun x=>e.l.length-x.1.1) ⟨(0,n+1),by omega,by omega,by simpa using hR⟩ ?_ ?_
  ·exact lwA
  rintro⟨⟨i,n⟩,hi,hn,hq⟩;simp only at hi hn hq;by_cases hlt:i<e.l.length
  ·have d1:(i:Int)<(e.l.length:Int):=by omega
   obtain⟨y,ey⟩:∃y,e.l[i]?=some y:=⟨_,gE hlt⟩
   have HY:=HD y (he.sub (gM ey)) n hn;have w1:=wS i;have hdr:e.l.drop i=y::e.l.drop (i+1):=by rw[List.drop_eq_getElem_cons hlt];congr 1;exact(gJ ey).2
   rw[hdr]at hq;unfold rtL at hq;have hle:=(rt_eq d y n hn)
   rcases hr:rt d y n with⟨b,n'⟩
   rw[hr]at hq HY hle;simp only at hq HY hle;simp only[vW,seval,bmV,d1,ey,w2];refine z27 HY ?_;cases b
   ·simp only at hq;subst hq;simp only[vW,seval,bmV]
   ·simp only at hq;have h3:n'≤40:=by
     have h4:=hle.1;have h5:=hle.2 rfl;rw[eq_comm,Bool.and_eq_true]at h4;have:=of_decide_eq_true h4.2;omega
    simp only[vW,seval,bmV,w1];refine z13 ⟨(i+1,n'),by simp only;omega,h3,hq⟩ (by show e.l.length-(i+1)<e.l.length-i;omega) ?_;exact lwA
  ·have d1:¬(i:Int)<(e.l.length:Int):=by omega
   obtain rfl:i=e.l.length:=by omega
   rw[List.drop_length]at hq;unfold rtL at hq;subst hq;simp only[vW,seval,bmV,d1]
theorem exprRight_ok(m:Nat)(e:V)(he:ESmall e):zC (gl0 m) 77 [tv e] [] (B (rightE e)) []:=by
 have HB:=bindings_ok (gl0 m);have HR:=right_ok m 8 (by omega) e he 0 (by omega);rw[rt_right]at HR;unfold B at*;refine z10 tf_93 ?_;simp only[vW,seval,bmV];refine z35 HB ?_;exact z91 HR
end Go.Proofs.YtcpaleaajdilgaaGreatDoor
end
