/- Merged texts: Rw Ze2 Ze3 Ze4 Cd4 PCls Ze0. No statement of the program is proved here. -/
import Derived.Test.YtbkgnekfigknhaaGreatDoorR16
set_option linter.unusedSimpArgs false
set_option linter.unusedVariables false
set_option maxRecDepth 100000
set_option maxHeartbeats 8000000
section
namespace Go.Proofs.YtbkgnekfigknhaaGreatDoor
open Go Go.RowKit Go.Mor Go.Sh
theorem z1M(l:List V)(x:V):V.rows (l++[x])=V.rows l++[[.v (.int .i64 x.k),.v (.int .i64 x.n),.v (.string (str x.s)),.sl 4 (V.rows x.l)]]:=by rw[z0j,z0j,List.map_append,List.map_cons,List.map_nil,z1b]
theorem zc2(l:List V):∀cs∈V.rows l,cs.length=4:=by
 intro cs h;rw[z0j]at h;obtain⟨f,_,rfl⟩:=List.mem_map.1 h;rw[z1b];rfl
theorem zcM{α:Type}{W:Nat}{x:List α}(hx:x.length=W):∀{X:List (List α)} {k:Nat},(∀cs∈X,cs.length=W)→k<X.length→List.take (k*W) X.flatten++x++List.drop (k*W+W) X.flatten=(X.set k x).flatten
 |[],k,_,h=>by simp at h
 |y::X,0,hW,_=>by
  have hy:=hW y (List.mem_cons_self ..);rw[List.flatten_cons,List.set_cons_zero,List.flatten_cons,Nat.zero_mul,List.take_zero,List.nil_append,Nat.zero_add,List.drop_append,List.drop_eq_nil_of_le (by omega),hy,Nat.sub_self,List.drop_zero,List.nil_append]
 |y::X,k+1,hW,h=>by
  have hy:=hW y (List.mem_cons_self ..);have ih:=zcM hx (X:=X) (k:=k) (fun cs hc=>hW cs (List.mem_cons_of_mem _ hc)) (by simpa using h);rw[List.flatten_cons,List.set_cons_succ,List.flatten_cons,←ih];have e1:(k+1)*W=W+k*W:=by rw[Nat.add_mul];omega
  rw[e1,List.take_append,List.drop_append,List.take_of_length_le (by omega),List.drop_eq_nil_of_le (by omega),hy];simp[Nat.add_sub_cancel_left,Nat.add_assoc]
theorem zou(l:List V)(k:Nat)(v:V)(h:k<l.length):List.take (k*4) (pvC (V.rows l).flatten)++[TV.pv (.v (.int .i64 v.k)),TV.pv (.v (.int .i64 v.n)),TV.pv (.v (.string (str v.s))),TV.pv (.sl 4 (V.rows v.l))]++List.drop (k*4+4) (pvC (V.rows l).flatten)=pvC (V.rows (l.set k v)).flatten:=by
 have hs:V.rows (l.set k v)=(V.rows l).set k (V.row v):=by rw[z0j,z0j,List.map_set]
 rw[hs,←zcM (x:=V.row v) (by rw[z1b];rfl) (zc2 l) (by rw[z1m];exact h),z1b];unfold pvC;simp[List.map_take,List.map_drop]
section
open Go.Sh.Cd1 Go.Sh.Cd5
def pcR(q:Pc):List PV:=[.v (.int .i64 q.k),.v (.int .i64 q.n),.v (.string (str q.s)),.v (.int .i64 (q.p:Int))]
def pcT(q:Pc):TV:=.agg [I q.k,I q.n,S (str q.s),I (q.p:Int)]
def pcs(L:List Pc):TV:=.pv (.sl 4 (L.map pcR))
def pB(L:List Pc)(p sz:Nat):List TV:=[pcs L,I (p:Int),I (sz:Int),z0u]
theorem z52(g:Sh.Glob)(L:List Pc)(p sz:Nat)(hL:L.length≤maxLen):zC g 219 [.ptr 1000 0] [.box (pB L p sz)] (pcT (pkP L sz p)) [.box (pB L p sz)]:=by
 refine zo tf_26 ?_;unfold pB pcs pcT;by_cases hlt:p<L.length
 ·have d1:(p:Int)<(L.length:Int):=by omega
  obtain⟨q,eq⟩:∃q,L[p]?=some q:=⟨_,gE hlt⟩
  have hq:pkP L sz p=q:=by simp[pkP,eq]
  rw[hq];simp only[vW,seval,d1,eq,pcR,bmV]
 ·have d1:¬(p:Int)<(L.length:Int):=by omega
  have hq:pkP L sz p=⟨0,0,[],sz⟩:=by simp[pkP,List.getElem?_eq_none (Nat.le_of_not_lt hlt)]
  rw[hq];simp only[vW,seval,d1,bmV];rfl
theorem z4l(g:Sh.Glob)(L:List Pc)(p sz:Nat)(t:zB)(hL:L.length≤maxLen)(hp:p<maxLen):zC g 268 [.ptr 1000 0,S (str t)] [.box (pB L p sz)] (B (zY (pkP L sz p) t)) [.box (pB L (if zY (pkP L sz p) t then p+1 else p) sz)]:=by
 refine zo tf_27 ?_;have HP:=z52 g L p sz hL;have w1:IntKind.i64.wrap ((p:Int)+1)=((p+1:Nat):Int):=by unfold maxLen at hp;rw[wrap64 (by omega) (by omega)];omega
 unfold zY at*;generalize pkP L sz p=q at*;unfold pB pcs pcT B at*;by_cases hk:q.k=4
 ·have hb:(q.k==4)=true:=by simp[hk]
  cases ht:q.s==t
  ·simp only[vW,seval];refine zt HP ?_;simp only[vW,seval,bmV,hk,hb,ht]
  ·simp only[vW,seval];refine zt HP ?_;simp only[vW,seval,bmV,hk,hb,ht,w1]
 ·have hb:(q.k==4)=false:=by simp[hk]
  simp only[vW,seval];refine zt HP ?_;simp only[vW,seval,bmV,hk,hb]
def zX(a:Nat):Value:=.iface 264 (.int .i64 (a:Int))
theorem z9H(g:Sh.Glob)(L:List Pc)(p sz:Nat)(t:zB)(hL:L.length≤maxLen)(hp:p<maxLen)(h:zY (pkP L sz p) t=true):zC g 269 [.ptr 1000 0,S (str t)] [.box (pB L p sz)] (.tuple []) [.box (pB L (p+1) sz)]:=by
 refine zo tf_25 ?_;have HT:=z4l g L p sz t hL hp;rw[h,if_pos rfl]at HT;unfold pB pcs B at*;simp only[vW,seval];exact z3i HT
theorem zaQ(g:Sh.Glob)(L:List Pc)(p sz:Nat)(t:zB)(hL:L.length≤maxLen)(hp:p<maxLen)(h:zY (pkP L sz p) t=false):z8i Tryz.prog g 269 [.ptr 1000 0,S (str t)] [.box (pB L p sz)] (zX (pkP L sz p).p) [.box (pB L p sz)]:=by
 refine z8T zk tf_25 rfl rfl rfl ?_
 conv in SFunc.code _=>reduce
 have HT:=z4l g L p sz t hL hp;have HP:=z52 g L p sz hL;rw[h,if_neg (by simp)]at HT;unfold pB pcs B pcT zX at*;simp only[vW,seval];refine z05 HT ?_;(with_reducible apply z4L);simp only[vW,seval];(with_reducible apply zmd);(· simp only[vW,seval,bmV];with_reducible rfl);(· rfl);(· exact HP);(· first|rfl|(simp only[vcA,seval];omega));(· simp only[vW,seval,bmV];with_reducible rfl);simp only[vW,seval,bmV]
theorem zb3(g:Sh.Glob)(s:zB):zC g 199 [S (str s)] [] (I (zm s)) []:=by
 refine za tf_106 ?_;have q1:=bS [108,101,110];have q2:=bS [116,101,120,116];have q3:=bS [110,117,109];have q4:=bS [108,101,102,116];have q5:=bS [114,105,103,104,116];have q6:=bS [102,114,111,109];have q7:=bS [102,105,110,100];have q8:=bS [109,105,110];have q9:=bS [109,97,120];have q10:=bS [105,102];have hb:∀t:zB,(s==t)=decide (s=t):=fun t=>by rw[Bool.eq_iff_iff];simp
 unfold zm;simp only[vW,seval,q1,q2,q3,q4,q5,q6,q7,q8,q9,q10,hb]
 repeat' (first|(apply And.intro)|(intro _))
 all_goals simp_all
end
section
open Go.Sh.Cd1 Go.Sh.Cd5
section
variable(g:Sh.Glob)(L:List Pc)(sz:Nat)
def EOk(f:Nat):Prop:=∀(least:Int) (p:Nat) (e:V) (p':Nat),0≤least→least≤5→p≤L.length→pE L sz f least p=some (.ok e p')→zC g 218 [.ptr 1000 0,I least] [.box (pB L p sz)] (tv e) [.box (pB L p' sz)]
def zas(f:Nat):Prop:=∀(least:Int) (p a p':Nat),0≤least→least≤5→p≤L.length→pE L sz f least p=some (.bad a p')→z8i Tryz.prog g 218 [.ptr 1000 0,I least] [.box (pB L p sz)] (zX a) [.box (pB L p' sz)]
def TOk(f:Nat):Prop:=∀(p:Nat) (e:V) (p':Nat),p≤L.length→pT L sz f p=some (.ok e p')→zC g 251 [.ptr 1000 0] [.box (pB L p sz)] (tv e) [.box (pB L p' sz)]
def zci(f:Nat):Prop:=∀(p a p':Nat),p≤L.length→pT L sz f p=some (.bad a p')→z8i Tryz.prog g 251 [.ptr 1000 0] [.box (pB L p sz)] (zX a) [.box (pB L p' sz)]
theorem z2W{q:Pc}{p:Nat}(h:pkP L sz p=q)(hk:q.k≠0):p<L.length:=by
 rcases Nat.lt_or_ge p L.length with h1|h1
 ·exact h1
 ·rw[pkP,List.getElem?_eq_none h1]at h;subst h;exact absurd rfl hk
theorem z1A{p:Nat}{t:zB}(h:zY (pkP L sz p) t=true):p<L.length:=by
 refine z2W L sz rfl ?_;unfold zY at h;simp only[Bool.and_eq_true,beq_iff_eq]at h;rw[h.1];decide
theorem z8l(s:zB):0≤zf s∧zf s≤4:=by
 unfold zf
 repeat' split
 all_goals omega
theorem zdL(s:zB):0≤zm s∧zm s≤3:=by
 unfold zm
 repeat' split
 all_goals omega
theorem z6c:∀f,(∀least p e p',p≤L.length→pE L sz f least p=some (.ok e p')→p'≤L.length)∧(∀least e0 p e p',p≤L.length→pL L sz f least e0 p=some (.ok e p')→p'≤L.length)∧
  (∀p e p',p≤L.length→pT L sz f p=some (.ok e p')→p'≤L.length)∧(∀n k p acc l p',p≤L.length→pH L sz f n k p acc=some (.ok l p')→p'≤L.length)
 |0=>⟨fun _ _ _ _ _ h=>by simp[pE]at h,fun _ _ _ _ _ _ h=>by simp[pL]at h,fun _ _ _ _ h=>by simp[pT]at h,fun _ _ _ _ _ _ _ h=>by simp[pH]at h⟩
 |f+1=>by
  obtain⟨h1,h2,h3,h4⟩:=z6c f;refine⟨fun least p e p' hp h=> ?_,fun least e0 p e p' hp h=> ?_,fun p e p' hp h=> ?_,fun n k p acc l p' hp h=> ?_⟩
  ·rw[pE]at h;split at h
   ·rename_i e1 p1 ht;exact h2 _ _ _ _ _ (h3 _ _ _ hp ht) h
   ·cases h
   ·cases h
  ·rw[pL]at h;split at h
   ·cases h;exact hp
   ·rename_i hk;rw[not_or]at hk;have hlt:=z2W L sz (p:=p) rfl (by have:=hk.1;simp only[ne_eq,Decidable.not_not]at this;rw[this];decide);split at h
    ·rename_i e2 p2 he;exact h2 _ _ _ _ _ (h1 _ _ _ _ hlt he) h
    ·cases h
    ·cases h
  ·rw[pT]at h;split at h
   ·rename_i hs;have hlt:=z1A L sz hs;split at h
    ·rename_i e1 p1 he;split at h
     ·rename_i hs2;cases h;exact z1A L sz hs2
     ·cases h
    ·cases h
    ·cases h
   split at h
   ·rename_i hs;have hlt:=z1A L sz hs;split at h
    ·rename_i e1 p1 he;cases h;exact h3 _ _ _ hlt he
    ·cases h
    ·cases h
   split at h
   ·rename_i hk;cases h;exact z2W L sz rfl (by rw[hk];decide)
   split at h
   ·rename_i hk;cases h;exact z2W L sz rfl (by rw[hk];decide)
   split at h
   ·rename_i hk;have hlt:=z2W L sz (p:=p) rfl (by rw[hk];decide);split at h
    ·rename_i ht;have hlt2:=z1A L sz ht.2;split at h
     ·rename_i l p1 he;cases h;exact h4 _ _ _ _ _ _ hlt2 he
     ·cases h
     ·cases h
    ·cases h;exact hlt
   ·cases h
  ·rw[pH]at h;split at h
   ·split at h
    ·cases h
    ·rename_i hk hs;have hp2:(if 0<k then p+1 else p)≤L.length:=by
      split
      ·rename_i h0;refine z1A L sz (t:=[44]) ?_;cases hh:zY (pkP L sz p) [44]with
       |true=>rfl
       |false=>exact absurd ⟨h0,hh⟩ hs
      ·exact hp
     split at h
     ·rename_i e1 p1 he;exact h4 _ _ _ _ _ _ (h1 _ _ _ _ hp2 he) h
     ·cases h
     ·cases h
   ·split at h
    ·rename_i hs;cases h;exact z1A L sz hs
    ·cases h
variable{g L sz}
theorem ziJ{f:Nat}(hL:L.length≤4611686018427387904)(ih:∀f',f'<f→EOk g L sz f'∧zas g L sz f'∧TOk g L sz f'∧zci g L sz f'):EOk g L sz f:=by
 intro least p e p' h0 h5 hp h;cases f with
 |zero=>simp[pE]at h
 |succ f=>
 rw[pE]at h;cases ht:pT L sz f p with
 |none=>rw[ht]at h;cases h
 |some r=>
 cases r with
 |bad a q=>rw[ht]at h;cases h
 |ok e1 p1=>
 rw[ht]at h;simp only at h;have HT:=(ih f (Nat.lt_succ_self f)).2.2.1 p e1 p1 hp ht;have hp1:=(z6c L sz f).2.2.1 p e1 p1 hp ht;refine zo tf_22 ?_;have hml:L.length≤maxLen:=by unfold maxLen;omega
 unfold pB pcs at HT ⊢;simp only[vW,seval,bmV];(with_reducible apply z3e);simp only[vW,seval,bmV];refine z05 HT ?_;refine zp (σ:={x:Nat×V×Nat // x.1≤f∧x.2.2≤L.length∧pL L sz x.1 least x.2.1 x.2.2=some (.ok e p')})
  (fun x=>⟨[(0,.ptr 1000 0),(1,I least),(4,.ptr 4 0),(5,.ptr 5 0)],[(1000,[.pv (.sl 4 (L.map pcR)),I (x.1.2.2:Int),I (sz:Int),z0u]),(4,[I 0,I 0,S ⟨#[]⟩,.pv (.v (.slice none 0 0))]),
   (5,[I x.1.2.1.k,I x.1.2.1.n,S (str x.1.2.1.s),.pv (.sl 4 (V.rows x.1.2.1.l))])],[],[]⟩) (fun x=>x.1.1) ⟨(f,e1,p1),Nat.le_refl _,hp1,h⟩ (z0M rfl) ?_
 rintro⟨⟨f1,e2,p2⟩,hf1,hp2,hl⟩;simp only at hf1 hp2 hl;cases f1 with
 |zero=>simp[pL]at hl
 |succ f1=>
 have HP:=z52 g L p2 sz hml;rw[pL]at hl;generalize hq:pkP L sz p2=q at HP hl;obtain⟨b0,b4⟩:=z8l q.s;unfold pB pcs pcT at HP;simp only[vW,seval,bmV];refine zt HP ?_;by_cases hk:q.k=4
 ·by_cases hb:zf q.s<least
  ·rw[if_pos (.inr hb)]at hl;cases hl;simp only[vW,seval,bmV,hk,hb]
  ·rw[if_neg (by rw[not_or];exact⟨by simpa using hk,hb⟩)]at hl;have hlt:=z2W L sz hq (by rw[hk];decide);cases he:pE L sz f1 (zf q.s+1) (p2+1)with
   |none=>rw[he]at hl;cases hl
   |some r=>
   cases r with
   |bad a q'=>rw[he]at hl;cases hl
   |ok e3 p3=>
   rw[he]at hl;simp only at hl;have HE:=(ih f1 (by omega)).1 (zf q.s+1) (p2+1) e3 p3 (by omega) (by omega) hlt he;have hp3:=(z6c L sz f1).1 _ _ _ _ hlt he;have w1:=wS p2;have w2:IntKind.i64.wrap (zf q.s+1)=zf q.s+1:=wrap64 (by omega) (by omega);unfold pB pcs at HE;simp only[vW,seval,bmV,hk,hb,w1];(with_reducible apply z3e);simp only[vW,seval,bmV,w2];(with_reducible apply zR);simp only[vW,seval,bmV,w2];rfl;rfl;exact HE;exact km;simp only[vW,seval,bmV,w2];rfl;simp only[vW,seval,bmV];refine zc ⟨(f1,.mk 4 0 q.s [e2,e3],p3),by omega,hp3,hl⟩ (Nat.lt_succ_self f1) ?_;apply z0o<;>simp[leL,lk,sv,Nat.beq,I,S,ES.kill,has,drp,zD,bmV]
   exact⟨rfl,rfl,rfl,by rw[Vl,show V.rows [e2,e3]=[V.row e2,V.row e3] from rfl,z1b,z1b]⟩
 ·rw[if_pos (.inl hk)]at hl;cases hl;simp only[vW,seval,bmV,hk]
theorem zgF{f:Nat}(hL:L.length≤4611686018427387904)(ih:∀f',f'<f→EOk g L sz f'∧zas g L sz f'∧TOk g L sz f'∧zci g L sz f'):zas g L sz f:=by
 intro least p a p' h0 h5 hp h;cases f with
 |zero=>simp[pE]at h
 |succ f=>
 have hml:L.length≤maxLen:=by unfold maxLen;omega
 rw[pE]at h;cases ht:pT L sz f p with
 |none=>rw[ht]at h;cases h
 |some r=>
 cases r with
 |bad a q=>
  rw[ht]at h;cases h;have HT:=(ih f (Nat.lt_succ_self f)).2.2.2 p a p' hp ht;refine z8T zk tf_22 rfl rfl rfl ?_
  conv in SFunc.code _=>reduce
  unfold pB pcs at HT ⊢;unfold zX at*;simp only[vW,seval,bmV];(with_reducible apply z4L);simp only[vW,seval,bmV];(with_reducible apply z2L);(· rfl);(· simp only[vW,seval,bmV];with_reducible rfl);(· exact HT);(· first|rfl|(simp only[vcA,seval];omega));(· simp only[vW,seval,bmV];with_reducible rfl);simp only[vW,seval,bmV]
 |ok e1 p1=>
 rw[ht]at h;simp only at h;have HT:=(ih f (Nat.lt_succ_self f)).2.2.1 p e1 p1 hp ht;have hp1:=(z6c L sz f).2.2.1 p e1 p1 hp ht;refine z8T zk tf_22 rfl rfl rfl ?_
 conv in SFunc.code _=>reduce
 unfold pB pcs at HT ⊢;unfold zX;simp only[vW,seval,bmV];(with_reducible apply z3e);simp only[vW,seval,bmV];refine z05 HT ?_;refine zp (σ:={x:Nat×V×Nat // x.1≤f∧x.2.2≤L.length∧pL L sz x.1 least x.2.1 x.2.2=some (.bad a p')})
  (fun x=>⟨[(0,.ptr 1000 0),(1,I least),(4,.ptr 4 0),(5,.ptr 5 0)],[(1000,[.pv (.sl 4 (L.map pcR)),I (x.1.2.2:Int),I (sz:Int),z0u]),(4,[I 0,I 0,S ⟨#[]⟩,.pv (.v (.slice none 0 0))]),
   (5,[I x.1.2.1.k,I x.1.2.1.n,S (str x.1.2.1.s),.pv (.sl 4 (V.rows x.1.2.1.l))])],[],[]⟩) (fun x=>x.1.1) ⟨(f,e1,p1),Nat.le_refl _,hp1,h⟩ (z0M rfl) ?_
 rintro⟨⟨f1,e2,p2⟩,hf1,hp2,hl⟩;simp only at hf1 hp2 hl;cases f1 with
 |zero=>simp[pL]at hl
 |succ f1=>
 have HP:=z52 g L p2 sz hml;rw[pL]at hl;generalize hq:pkP L sz p2=q at HP hl;obtain⟨b0,b4⟩:=z8l q.s;unfold pB pcs pcT at HP;simp only[vW,seval,bmV];refine zt HP ?_;by_cases hk:q.k=4
 ·by_cases hb:zf q.s<least
  ·rw[if_pos (.inr hb)]at hl;cases hl
  ·rw[if_neg (by rw[not_or];exact⟨by simpa using hk,hb⟩)]at hl;have hlt:=z2W L sz hq (by rw[hk];decide);have w1:=wS p2;have w2:IntKind.i64.wrap (zf q.s+1)=zf q.s+1:=wrap64 (by omega) (by omega);cases he:pE L sz f1 (zf q.s+1) (p2+1)with
   |none=>rw[he]at hl;cases hl
   |some r=>
   cases r with
   |bad a2 q'=>
    rw[he]at hl;cases hl;have HE:=(ih f1 (by omega)).2.1 (zf q.s+1) (p2+1) a p' (by omega) (by omega) hlt he;unfold pB pcs zX at HE;simp only[vW,seval,bmV,hk,hb,w1];(with_reducible apply z4L);simp only[vW,seval,bmV,w2];(with_reducible apply z2L);(· rfl);(· simp only[vW,seval,bmV,w2];with_reducible rfl);(· exact HE);(· first|rfl|(simp only[vcA,seval];omega));(· simp only[vW,seval,bmV,w2];with_reducible rfl);simp only[vW,seval,bmV,w2]
   |ok e3 p3=>
   rw[he]at hl;simp only at hl;have HE:=(ih f1 (by omega)).1 (zf q.s+1) (p2+1) e3 p3 (by omega) (by omega) hlt he;have hp3:=(z6c L sz f1).1 _ _ _ _ hlt he;unfold pB pcs at HE;simp only[vW,seval,bmV,hk,hb,w1];(with_reducible apply z3e);simp only[vW,seval,bmV,w2];(with_reducible apply zR);simp only[vW,seval,bmV,w2];rfl;rfl;exact HE;exact km;simp only[vW,seval,bmV,w2];rfl;simp only[vW,seval,bmV];refine zc ⟨(f1,.mk 4 0 q.s [e2,e3],p3),by omega,hp3,hl⟩ (Nat.lt_succ_self f1) ?_;apply z0o<;>simp[leL,lk,sv,Nat.beq,I,S,ES.kill,has,drp,zD,bmV]
   exact⟨rfl,rfl,rfl,by rw[Vl,show V.rows [e2,e3]=[V.row e2,V.row e3] from rfl,z1b,z1b]⟩
 ·rw[if_pos (.inl hk)]at hl;cases hl
theorem zgh{f:Nat}(hL:L.length≤4611686018427387904)(ih:∀f',f'<f→EOk g L sz f')(n p:Nat)(l:List V)(p':Nat)(hn0:0<n)(hn:n≤3)(hp:p≤L.length)(h:pH L sz f n 0 p []=some (.ok l p')):
  zC g 270 [.ptr 1000 0,I (n:Int)] [.box (pB L p sz)] (.pv (.sl 4 (V.rows l))) [.box (pB L p' sz)]:=by
 have hml:L.length<maxLen:=by unfold maxLen;omega
 refine zo tf_23 ?_;unfold pB pcs at*;simp only[vW,seval,bmV];refine zp (σ:={x:Nat×Nat×Nat×List V // x.1≤f∧x.2.1≤n∧x.2.2.1≤L.length∧x.2.2.2.length=x.2.1∧pH L sz x.1 n x.2.1 x.2.2.1 x.2.2.2=some (.ok l p')})
  (fun x=>⟨[(0,.ptr 1000 0),(5,.own 3000 4 (V.rows x.1.2.2.2)),(7,I (n:Int)),(8,I (x.1.2.1:Int))],[(1000,[.pv (.sl 4 (L.map pcR)),I (x.1.2.2.1:Int),I (sz:Int),z0u])],[(3000,(71,4,x.1.2.1))],[]⟩) (fun x=>x.1.1) ⟨(f,0,p,[]),Nat.le_refl _,Nat.zero_le _,hp,rfl,h⟩ ?_ ?_
 ·refine ES.Lw.trans ?_ (z7b (k:=5) (d:=3000) (e:=71) (W:=4) (.inr (by decide)) rfl);exact z0M rfl
 rintro⟨⟨f1,k,p1,acc⟩,hf1,hk,hp1,hacc,hl⟩;simp only at hf1 hk hp1 hacc hl;cases f1 with
 |zero=>simp[pH]at hl
 |succ f1=>
 rw[pH]at hl;by_cases hkn:k<n
 ·rw[if_pos hkn]at hl;have d1:(k:Int)<(n:Int):=by omega
  split at hl
  ·cases hl
  rename_i hcom;cases he:pE L sz f1 1 (if 0<k then p1+1 else p1)with
  |none=>rw[he]at hl;cases hl
  |some r=>
  cases r with
  |bad a q'=>rw[he]at hl;cases hl
  |ok e3 p3=>
  rw[he]at hl;simp only at hl;have wk:=wS k;have hacc':(V.rows acc).length=k:=by rw[z1m,hacc]
  by_cases h0:0<k
  ·rw[if_pos h0]at he;have hs:zY (pkP L sz p1) [44]=true:=by
    cases hh:zY (pkP L sz p1) [44]with
    |true=>rfl
    |false=>exact absurd ⟨h0,hh⟩ hcom
   have hlt:=z1A L sz hs;have HN:=z9H g L p1 sz [44] (by omega) (by omega) hs;have HE:=ih f1 (by omega) 1 (p1+1) e3 p3 (by omega) (by omega) hlt he;have hp3:=(z6c L sz f1).1 _ _ _ _ hlt he;have d0:(0:Int)<(k:Int):=by omega
   have q44:=bS [44];unfold pB pcs at HN HE;simp only[vW,seval,bmV,d1,d0];(with_reducible apply z3e);simp only[vW,seval,bmV,q44];refine z05 HN ?_;(with_reducible apply z3e);simp only[vW,seval,bmV];refine zt HE ?_;simp only[vW,seval,bmV,hacc',wk];refine⟨⟨by omega,by unfold maxLen;omega⟩,zc ⟨(f1,k+1,p3,acc++[e3]),by omega,hkn,hp3,by simp[hacc],hl⟩ (Nat.lt_succ_self f1) ?_⟩;refine z0M ?_;simp only[z1M,I]
  ·rw[if_neg h0]at he;obtain rfl:k=0:=by omega
   have HE:=ih f1 (by omega) 1 p1 e3 p3 (by omega) (by omega) hp1 he;have hp3:=(z6c L sz f1).1 _ _ _ _ hp1 he;have d2:(0:Int)<(n:Int):=by omega
   have w01:IntKind.i64.wrap 1=1:=by decide
   unfold pB pcs at HE;simp only[vW,seval,bmV,d2];(with_reducible apply z3e);simp only[vW,seval,bmV];refine zt HE ?_;simp only[vW,seval,bmV,hacc',w01];refine⟨by unfold maxLen;omega,zc ⟨(f1,1,p3,acc++[e3]),by omega,hkn,hp3,by simp[hacc],hl⟩ (Nat.lt_succ_self f1) ?_⟩;refine z0M ?_;simp only[z1M,I];rfl
 ·rw[if_neg hkn]at hl;have d1:¬(k:Int)<(n:Int):=by omega
  split at hl
  ·rename_i hs;cases hl;have hlt:=z1A L sz hs;have HN:=z9H g L p1 sz [41] (by omega) (by omega) hs;have q41:=bS [41];unfold pB pcs at HN;simp only[vW,seval,bmV,d1];(with_reducible apply z3e);simp only[vW,seval,bmV,q41];exact z3i HN
  ·cases hl
theorem zee{f:Nat}(hL:L.length≤4611686018427387904)(ih:∀f',f'<f→EOk g L sz f')(ihb:∀f',f'<f→zas g L sz f')(n p a p':Nat)(hn0:0<n)(hn:n≤3)(hp:p≤L.length)(h:pH L sz f n 0 p []=some (.bad a p')):
  z8i Tryz.prog g 270 [.ptr 1000 0,I (n:Int)] [.box (pB L p sz)] (zX a) [.box (pB L p' sz)]:=by
 have hml:L.length<maxLen:=by unfold maxLen;omega
 refine z8T zk tf_23 rfl rfl rfl ?_
 conv in SFunc.code _=>reduce
 unfold pB pcs zX at*;simp only[vW,seval,bmV];refine zp (σ:={x:Nat×Nat×Nat×List V // x.1≤f∧x.2.1≤n∧x.2.2.1≤L.length∧x.2.2.2.length=x.2.1∧pH L sz x.1 n x.2.1 x.2.2.1 x.2.2.2=some (.bad a p')})
  (fun x=>⟨[(0,.ptr 1000 0),(5,.own 3000 4 (V.rows x.1.2.2.2)),(7,I (n:Int)),(8,I (x.1.2.1:Int))],[(1000,[.pv (.sl 4 (L.map pcR)),I (x.1.2.2.1:Int),I (sz:Int),z0u])],[(3000,(71,4,x.1.2.1))],[]⟩) (fun x=>x.1.1) ⟨(f,0,p,[]),Nat.le_refl _,Nat.zero_le _,hp,rfl,h⟩ ?_ ?_
 ·refine ES.Lw.trans ?_ (z7b (k:=5) (d:=3000) (e:=71) (W:=4) (.inr (by decide)) rfl);exact z0M rfl
 rintro⟨⟨f1,k,p1,acc⟩,hf1,hk,hp1,hacc,hl⟩;simp only at hf1 hk hp1 hacc hl;cases f1 with
 |zero=>simp[pH]at hl
 |succ f1=>
 rw[pH]at hl;by_cases hkn:k<n
 ·rw[if_pos hkn]at hl;have d1:(k:Int)<(n:Int):=by omega
  by_cases hcom:0<k∧zY (pkP L sz p1) [44]=false
  ·rw[if_pos hcom]at hl;cases hl;have HN:=zaQ g L p' sz [44] (by omega) (by omega) hcom.2;have d0:(0:Int)<(k:Int):=by omega
   have q44:=bS [44];unfold pB pcs zX at HN;simp only[vW,seval,bmV,d1,d0];(with_reducible apply z4L);simp only[vW,seval,bmV,q44];(with_reducible apply z2L);(· rfl);(· simp only[vW,seval,bmV];with_reducible rfl);(· exact HN);(· first|rfl|(simp only[vcA,seval];omega));(· simp only[vW,seval,bmV];with_reducible rfl);simp only[vW,seval,bmV]
  rw[if_neg hcom]at hl;have wk:=wS k;have hacc':(V.rows acc).length=k:=by rw[z1m,hacc]
  by_cases h0:0<k
  ·rw[if_pos h0]at hl;have hs:zY (pkP L sz p1) [44]=true:=by
    cases hh:zY (pkP L sz p1) [44]with
    |true=>rfl
    |false=>exact absurd ⟨h0,hh⟩ hcom
   have hlt:=z1A L sz hs;have HN:=z9H g L p1 sz [44] (by omega) (by omega) hs;have d0:(0:Int)<(k:Int):=by omega
   have q44:=bS [44];unfold pB pcs at HN;simp only[vW,seval,bmV,d1,d0];(with_reducible apply z3e);simp only[vW,seval,bmV,q44];refine z05 HN ?_;cases he:pE L sz f1 1 (p1+1)with
   |none=>rw[he]at hl;cases hl
   |some r=>
   cases r with
   |bad a2 q'=>
    rw[he]at hl;cases hl;have HE:=ihb f1 (by omega) 1 (p1+1) a p' (by omega) (by omega) hlt he;unfold pB pcs zX at HE;(with_reducible apply z4L);simp only[vW,seval,bmV];(with_reducible apply z2L);(· rfl);(· simp only[vW,seval,bmV];with_reducible rfl);(· exact HE);(· first|rfl|(simp only[vcA,seval];omega));(· simp only[vW,seval,bmV];with_reducible rfl);simp only[vW,seval,bmV]
   |ok e3 p3=>
   rw[he]at hl;simp only at hl;have HE:=ih f1 (by omega) 1 (p1+1) e3 p3 (by omega) (by omega) hlt he;have hp3:=(z6c L sz f1).1 _ _ _ _ hlt he;unfold pB pcs at HE;(with_reducible apply z3e);simp only[vW,seval,bmV];refine zt HE ?_;simp only[vW,seval,bmV,hacc',wk];refine⟨⟨by omega,by unfold maxLen;omega⟩,zc ⟨(f1,k+1,p3,acc++[e3]),by omega,hkn,hp3,by simp[hacc],hl⟩ (Nat.lt_succ_self f1) ?_⟩;refine z0M ?_;simp only[z1M,I]
  ·rw[if_neg h0]at hl;obtain rfl:k=0:=by omega
   have d2:(0:Int)<(n:Int):=by omega
   have w01:IntKind.i64.wrap 1=1:=by decide
   simp only[vW,seval,bmV,d2];cases he:pE L sz f1 1 p1 with
   |none=>rw[he]at hl;cases hl
   |some r=>
   cases r with
   |bad a2 q'=>
    rw[he]at hl;cases hl;have HE:=ihb f1 (by omega) 1 p1 a p' (by omega) (by omega) hp1 he;unfold pB pcs zX at HE;(with_reducible apply z4L);simp only[vW,seval,bmV];(with_reducible apply z2L);(· rfl);(· simp only[vW,seval,bmV];with_reducible rfl);(· exact HE);(· first|rfl|(simp only[vcA,seval];omega));(· simp only[vW,seval,bmV];with_reducible rfl);simp only[vW,seval,bmV]
   |ok e3 p3=>
   rw[he]at hl;simp only at hl;have HE:=ih f1 (by omega) 1 p1 e3 p3 (by omega) (by omega) hp1 he;have hp3:=(z6c L sz f1).1 _ _ _ _ hp1 he;unfold pB pcs at HE;(with_reducible apply z3e);simp only[vW,seval,bmV];refine zt HE ?_;simp only[vW,seval,bmV,hacc',w01];refine⟨by unfold maxLen;omega,zc ⟨(f1,1,p3,acc++[e3]),by omega,hkn,hp3,by simp[hacc],hl⟩ (Nat.lt_succ_self f1) ?_⟩;refine z0M ?_;simp only[z1M,I];rfl
 ·rw[if_neg hkn]at hl;have d1:¬(k:Int)<(n:Int):=by omega
  split at hl
  ·cases hl
  ·rename_i hs;cases hl;have HN:=zaQ g L p' sz [41] (by omega) (by omega) (by simpa using hs);have q41:=bS [41];unfold pB pcs zX at HN;simp only[vW,seval,bmV,d1];(with_reducible apply z4L);simp only[vW,seval,bmV,q41];(with_reducible apply z2L);(· rfl);(· simp only[vW,seval,bmV];with_reducible rfl);(· exact HN);(· first|rfl|(simp only[vcA,seval];omega));(· simp only[vW,seval,bmV];with_reducible rfl);simp only[vW,seval,bmV]
theorem zfC(k n:Int)(t:zB):Wk (nv (.mk k n t [])) (tv (.mk k n t [])):=z1q rfl
theorem zh6{f:Nat}(hL:L.length≤4611686018427387904)(ih:∀f',f'<f→EOk g L sz f'∧zas g L sz f'∧TOk g L sz f'∧zci g L sz f'):TOk g L sz f:=by
 intro p e p' hp h;have hml:L.length<maxLen:=by unfold maxLen;omega
 cases f with
 |zero=>simp[pT]at h
 |succ f=>
 have T40:=z4l g L p sz [40] (by omega) (by omega);have T45:=z4l g L p sz [45] (by omega) (by omega);have q40:=bS [40];have q41:=bS [41];have q45:=bS [45];rw[pT]at h;by_cases h40:zY (pkP L sz p) [40]=true
 ·rw[if_pos h40]at h;rw[h40,if_pos rfl]at T40;have hlt:=z1A L sz h40;cases he:pE L sz f 1 (p+1)with
  |none=>rw[he]at h;cases h
  |some r=>
  cases r with
  |bad a q'=>rw[he]at h;cases h
  |ok e1 p1=>
  rw[he]at h;simp only at h;split at h
  ·rename_i h41;cases h;have HE:=(ih f (Nat.lt_succ_self f)).1 1 (p+1) e p1 (by omega) (by omega) hlt he;have hp1:=(z6c L sz f).1 _ _ _ _ hlt he;have HN:=z9H g L p1 sz [41] (by omega) (by omega) h41;refine zo tf_24 ?_;unfold pB pcs B at*;simp only[vW,seval,bmV,q40];refine z05 T40 ?_;(with_reducible apply z3e);simp only[vW,seval,bmV];refine z05 HE ?_;(with_reducible apply z3e);simp only[vW,seval,bmV,q41];exact z3i HN
  ·cases h
 have h40:zY (pkP L sz p) [40]=false:=by simpa using h40
 rw[h40,if_neg (by simp)]at T40;rw[if_neg (by simp[h40])]at h;by_cases h45:zY (pkP L sz p) [45]=true
 ·rw[if_pos h45]at h;rw[h45,if_pos rfl]at T45;have hlt:=z1A L sz h45;cases he:pT L sz f (p+1)with
  |none=>rw[he]at h;cases h
  |some r=>
  cases r with
  |bad a q'=>rw[he]at h;cases h
  |ok e1 p1=>
  rw[he]at h;cases h;have HE:=(ih f (Nat.lt_succ_self f)).2.2.1 (p+1) e1 p' hlt he;refine zo tf_24 ?_;unfold pB pcs B at*;simp only[vW,seval,bmV,q40];refine zt T40 ?_;simp only[vW,seval,bmV,q45];refine z05 T45 ?_;(with_reducible apply z3e);simp only[vW,seval,bmV];refine zt HE ?_;simp only[vW,seval,bmV,q45];rw[show V.rows [e1]=[V.row e1] from rfl,z1b]
 have h45:zY (pkP L sz p) [45]=false:=by simpa using h45
 rw[h45,if_neg (by simp)]at T45;rw[if_neg (by simp[h45])]at h;have HP:=z52 g L p sz (by omega);have w1:IntKind.i64.wrap ((p:Int)+1)=((p+1:Nat):Int):=by unfold maxLen at hml;rw[wrap64 (by omega) (by omega)];omega
 have hin:=fun hk=>z2W L sz (p:=p) rfl hk;generalize hq:pkP L sz p=q at*;by_cases k1:q.k=1
 ·rw[if_pos k1]at h;cases h;refine SCalls.out ?_ (zfC 1 q.n []);refine zo tf_24 ?_;unfold pB pcs B pcT at*;simp only[vW,seval,bmV,q40];refine zt T40 ?_;simp only[vW,seval,bmV,q45];refine z05 T45 ?_;refine zt HP ?_;simp only[vW,seval,bmV,k1,w1];rfl
 rw[if_neg k1]at h;by_cases k2:q.k=2
 ·rw[if_pos k2]at h;cases h;refine SCalls.out ?_ (zfC 2 0 q.s);refine zo tf_24 ?_;unfold pB pcs B pcT at*;simp only[vW,seval,bmV,q40];refine zt T40 ?_;simp only[vW,seval,bmV,q45];refine z05 T45 ?_;refine zt HP ?_;simp only[vW,seval,bmV,k2,w1]
 rw[if_neg k2]at h;by_cases k3:q.k=3
 ·rw[if_pos k3]at h;have hlt:=hin (by rw[k3];decide);have HK:=zb3 g q.s;obtain⟨t0,t3⟩:=zdL q.s;have T2:=z4l g L (p+1) sz [40] (by omega) (by omega);have hin2:zY (pkP L sz (p+1)) [40]=true→p+1<L.length:=fun h=>z1A L sz h;generalize zY (pkP L sz (p+1)) [40]=b at*;generalize ht:zm q.s=t at*;by_cases hc:0<t∧b=true
  ·rw[if_pos hc]at h;obtain⟨hc1,rfl⟩:=hc;rw[if_pos rfl]at T2;cases he:pH L sz f t.toNat 0 (p+2) []with
   |none=>rw[he]at h;cases h
   |some r=>
   cases r with
   |bad a q'=>rw[he]at h;cases h
   |ok l p1=>
   rw[he]at h;cases h;have HH:=zgh hL (fun f' hf'=>(ih f' (by omega)).1) t.toNat (p+2) l p' (by omega) (by omega) (hin2 rfl) he;have ht2:((t.toNat:Nat):Int)=t:=by omega
   rw[ht2]at HH;refine zo tf_24 ?_;unfold pB pcs B pcT at*;simp only[vW,seval,bmV,q40];refine zt T40 ?_;simp only[vW,seval,bmV,q45];refine z05 T45 ?_;refine zt HP ?_;simp only[vW,seval,bmV,k3,w1];refine z7 HK ?_;simp only[vW,seval,bmV,hc1,q40];refine z05 T2 ?_;(with_reducible apply z3e);simp only[vW,seval,bmV];exact z3i HH
  ·rw[if_neg hc]at h;cases h;refine SCalls.out ?_ (zfC 3 0 q.s);refine zo tf_24 ?_;unfold pB pcs B pcT at*;simp only[vW,seval,bmV,q40];refine zt T40 ?_;simp only[vW,seval,bmV,q45];refine z05 T45 ?_;refine zt HP ?_;simp only[vW,seval,bmV,k3,w1];refine z7 HK ?_;by_cases hc1:0<t
   ·have hb:b=false:=by simpa [hc1]using hc
    rw[hb,if_neg (by simp)]at T2;simp only[vW,seval,bmV,hc1,q40];exact z3i T2
   ·simp only[vW,seval,bmV,hc1]
 rw[if_neg k3]at h;cases h
theorem zgi{f:Nat}(hL:L.length≤4611686018427387904)(ih:∀f',f'<f→EOk g L sz f'∧zas g L sz f'∧TOk g L sz f'∧zci g L sz f'):zci g L sz f:=by
 intro p a p' hp h;have hml:L.length<maxLen:=by unfold maxLen;omega
 cases f with
 |zero=>simp[pT]at h
 |succ f=>
 have T40:=z4l g L p sz [40] (by omega) (by omega);have T45:=z4l g L p sz [45] (by omega) (by omega);have q40:=bS [40];have q41:=bS [41];have q45:=bS [45];rw[pT]at h;refine z8T zk tf_24 rfl rfl rfl ?_
 conv in SFunc.code _=>reduce
 by_cases h40:zY (pkP L sz p) [40]=true
 ·rw[if_pos h40]at h;rw[h40,if_pos rfl]at T40;have hlt:=z1A L sz h40;unfold pB pcs B zX at*;simp only[vW,seval,bmV,q40];refine z05 T40 ?_;cases he:pE L sz f 1 (p+1)with
  |none=>rw[he]at h;cases h
  |some r=>
  cases r with
  |bad a q'=>
   rw[he]at h;cases h;have HE:=(ih f (Nat.lt_succ_self f)).2.1 1 (p+1) a p' (by omega) (by omega) hlt he;unfold pB pcs zX at HE;(with_reducible apply z4L);simp only[vW,seval,bmV];(with_reducible apply z2L);(· rfl);(· simp only[vW,seval,bmV];with_reducible rfl);(· exact HE);(· first|rfl|(simp only[vcA,seval];omega));(· simp only[vW,seval,bmV];with_reducible rfl);simp only[vW,seval,bmV]
  |ok e1 p1=>
  rw[he]at h;simp only at h;have HE:=(ih f (Nat.lt_succ_self f)).1 1 (p+1) e1 p1 (by omega) (by omega) hlt he;have hp1:=(z6c L sz f).1 _ _ _ _ hlt he;unfold pB pcs at HE;(with_reducible apply z3e);simp only[vW,seval,bmV];refine z05 HE ?_;split at h
  ·cases h
  ·rename_i h41;cases h;have HN:=zaQ g L p' sz [41] (by omega) (by omega) (by simpa using h41);unfold pB pcs zX at HN;(with_reducible apply z4L);simp only[vW,seval,bmV,q41];(with_reducible apply z2L);(· rfl);(· simp only[vW,seval,bmV];with_reducible rfl);(· exact HN);(· first|rfl|(simp only[vcA,seval];omega));(· simp only[vW,seval,bmV];with_reducible rfl);simp only[vW,seval,bmV]
 have h40:zY (pkP L sz p) [40]=false:=by simpa using h40
 rw[h40,if_neg (by simp)]at T40;rw[if_neg (by simp[h40])]at h;by_cases h45:zY (pkP L sz p) [45]=true
 ·rw[if_pos h45]at h;rw[h45,if_pos rfl]at T45;have hlt:=z1A L sz h45;unfold pB pcs B zX at*;simp only[vW,seval,bmV,q40];refine zt T40 ?_;simp only[vW,seval,bmV,q45];refine z05 T45 ?_;cases he:pT L sz f (p+1)with
  |none=>rw[he]at h;cases h
  |some r=>
  cases r with
  |ok e1 q'=>rw[he]at h;cases h
  |bad a q'=>
  rw[he]at h;cases h;have HE:=(ih f (Nat.lt_succ_self f)).2.2.2 (p+1) a p' hlt he;unfold pB pcs zX at HE;(with_reducible apply z4L);simp only[vW,seval,bmV];(with_reducible apply z2L);(· rfl);(· simp only[vW,seval,bmV];with_reducible rfl);(· exact HE);(· first|rfl|(simp only[vcA,seval];omega));(· simp only[vW,seval,bmV];with_reducible rfl);simp only[vW,seval,bmV]
 have h45:zY (pkP L sz p) [45]=false:=by simpa using h45
 rw[h45,if_neg (by simp)]at T45;rw[if_neg (by simp[h45])]at h;have HP:=z52 g L p sz (by omega);have w1:IntKind.i64.wrap ((p:Int)+1)=((p+1:Nat):Int):=by unfold maxLen at hml;rw[wrap64 (by omega) (by omega)];omega
 have hin:=fun hk=>z2W L sz (p:=p) rfl hk;have HK:=zb3 g (pkP L sz p).s;have T2:=z4l g L (p+1) sz [40] (by omega);have hin2:zY (pkP L sz (p+1)) [40]=true→p+1<L.length:=fun h=>z1A L sz h;generalize zY (pkP L sz (p+1)) [40]=b at*;generalize hq:pkP L sz p=q at*;unfold pB pcs B pcT zX at*;simp only[vW,seval,bmV,q40];refine zt T40 ?_;simp only[vW,seval,bmV,q45];refine z05 T45 ?_;refine zt HP ?_;by_cases k1:q.k=1
 ·rw[if_pos k1]at h;cases h
 rw[if_neg k1]at h;by_cases k2:q.k=2
 ·rw[if_pos k2]at h;cases h
 rw[if_neg k2]at h;by_cases k3:q.k=3
 ·rw[if_pos k3]at h;have hlt:=hin (by rw[k3];decide);obtain⟨t0,t3⟩:=zdL q.s;have T2:=T2 (by omega);generalize ht:zm q.s=t at*;by_cases hc:0<t∧b=true
  ·rw[if_pos hc]at h;obtain⟨hc1,rfl⟩:=hc;rw[if_pos rfl]at T2;cases he:pH L sz f t.toNat 0 (p+2) []with
   |none=>rw[he]at h;cases h
   |some r=>
   cases r with
   |ok l p1=>rw[he]at h;cases h
   |bad a q'=>
   rw[he]at h;cases h;have HH:=zee hL (fun f' hf'=>(ih f' (by omega)).1) (fun f' hf'=>(ih f' (by omega)).2.1) t.toNat (p+2) a p' (by omega) (by omega) (hin2 rfl) he;have ht2:((t.toNat:Nat):Int)=t:=by omega
   rw[ht2]at HH;unfold pB pcs zX at HH;simp only[vW,seval,bmV,k3,w1];refine z7 HK ?_;simp only[vW,seval,bmV,hc1,q40];refine z05 T2 ?_;(with_reducible apply z4L);simp only[vW,seval,bmV];(with_reducible apply z2L);(· rfl);(· simp only[vW,seval,bmV];with_reducible rfl);(· exact HH);(· first|rfl|(simp only[vcA,seval];omega));(· simp only[vW,seval,bmV];with_reducible rfl);simp only[vW,seval,bmV]
  ·rw[if_neg hc]at h;cases h
 rw[if_neg k3]at h;cases h;simp only[vW,seval,bmV,k1,k2,k3,w1];(with_reducible apply z4L);simp only[vW,seval,bmV]
theorem z8U(hL:L.length≤4611686018427387904)(f:Nat):EOk g L sz f∧zas g L sz f∧TOk g L sz f∧zci g L sz f:=by
 induction f using Nat.strongRecOn with
 |_ f ih=>exact⟨ziJ hL ih,zgF hL ih,zh6 hL ih,zgi hL ih⟩
end
end
end Go.Proofs.YtbkgnekfigknhaaGreatDoor
end

section
namespace Go.Sh.Cd4
open Go Go.Sh
abbrev gQ(a:GA):Prop:=gT Go.Proofs.Tryz.prog a
theorem gK{a:GA}(h:gQ a:=by unfold gQ gT;kernel_rfl):gQ a:=h
theorem tf_120:gQ ⟨11,43,[(39,0),(40,0)],[],[[0,6],[],[],[10013],[15016],[14,17],[18019],[20029],[9,20,30041],[1003,7008,42]],[.tmp 6],false⟩:=gK
theorem tf_53:gQ ⟨13,41,[],[],[[0,4005],[8009],[1002,10],[4005,10015],[1002,16022],[2,4005,16,23],[],[27030],[7,31037],[1,6,24026,38039],[4006,38,40],[1,24026]],[.tmp 4,.tmp 5],false⟩:=gK
theorem tf_58:gQ ⟨16,17,[],[],[[1000001,4],[2003,5016]],[.tmp 4],false⟩:=gK
theorem tf_54:gQ ⟨18,14,[(10,1)],[],[[1000001,4005],[2003,7010],[11],[6,12],[6,12013]],[.tmp 4,.tmp 5],false⟩:=gK
theorem tf_118:gQ ⟨20,81,[(10,0),(11,0),(14,0),(37,0),(42,0),(52,0),(69,0),(77,0)],[],[[0],[10],[11017],[],[18025],[7,27028,73],[26,29033],[34045],[46048],[49055],[6,49,56064],[8,65071],[9,72],[7,73079],[1,3005,80]],[.cell true 2 2],false⟩:=gK
theorem tf_119:gQ ⟨36,67,[(10,0),(16,0),(23,0),(34,0),(42,0),(48,0),(62,0),(63,0)],[],[[0],[10],[11],[14],[1003,7,12013,15018],[13,20],[1003,7,12,19,21026],[7,19,28],[12,29],[12,27,30035],[1003,36037],[1003,36,38044],[12,27,45],[],[46048],[50051],[49,52065],[1003,8009,66]],[.cell true 4 6],false⟩:=gK
theorem tf_56:gQ ⟨38,39,[],[],[[0,2],[7015],[1,16],[2,16017],[],[21024],[25026],[1,3004,18020,27],[2,4,6,27034],[3,5,35036],[1,18020,37],[2,37038],[1,18020]],[.tmp 2],false⟩:=gK
theorem tf_185:gQ ⟨42,26,[],[],[[4],[6009],[1000001,10],[4,10011],[],[14015],[5,16023],[1000001,12013,24],[4,24025],[1000001,12013]],[.tmp 4],false⟩:=gK
theorem tf_186:gQ ⟨43,19,[(16,1)],[],[[4],[6],[],[9010],[11015],[1000001,5,7008,16017],[4005,16,18],[1000001,7008]],[.tmp 4],false⟩:=gK
theorem tf_55:gQ ⟨44,8,[],[],[[0,3],[1002,4007]],[.tmp 3],false⟩:=gK
theorem tf_121:gQ ⟨46,13,[],[],[[4],[5],[6009],[1000001,6,10012]],[.tmp 4],false⟩:=gK
theorem tf_136:gQ ⟨47,23,[],[],[[0,4005],[],[7010],[4005,12013,21],[11,14020],[1002,6,21022],[1002,6]],[.tmp 4,.tmp 5],false⟩:=gK
theorem tf_60:gQ ⟨72,47,[],[],[[2],[4016],[0,17],[2,17018],[],[21022],[3,23044],[0,19020,45],[2,45046],[0,19020]],[.tmp 2],false⟩:=gK
theorem tf_59:gQ ⟨73,22,[],[],[[0,2],[3011],[1,12],[1,12021]],[.tmp 2],false⟩:=gK
theorem tf_138:gQ ⟨96,62,[],[],[[0,2],[6014],[1,15],[2,15],[16019],[4005,21022],[20,23027],[28046],[1,3004,47],[2,47],[48049],[2,51052,61],[50,53060],[1,3005,61],[1,3]],[.tmp 2],false⟩:=gK
theorem tf_61:gQ ⟨127,9,[],[],[[2],[0,3008]],[.tmp 2],false⟩:=gK
theorem tf_57:gQ ⟨128,27,[],[],[[0,2],[3004],[1,5013],[1,5,14026]],[.tmp 2],false⟩:=gK
theorem tf_137:gQ ⟨168,56,[],[],[[2],[6012],[0,13],[2,13],[14016],[2,18019,55],[17,20029],[30045],[4005,46054],[0,3,55],[0,3]],[.tmp 2],false⟩:=gK
theorem tf_139:gQ ⟨169,21,[],[],[[0,2],[1,3020]],[.tmp 2],false⟩:=gK
theorem tf_140:gQ ⟨205,9,[],[],[[2],[0,3008]],[.tmp 2],false⟩:=gK
noncomputable def funcs:Nat→Option SFunc
 |_=>none
end Go.Sh.Cd4
end

section
namespace Go.Mor
open Go Go.RowKit
def pick(c n:Int):Int:=(if c<0 then -(c+1)else c)%n
theorem zH(c n:Int)(hn:0<n):0≤pick c n∧pick c n<n:=⟨Int.emod_nonneg _ (by omega),Int.emod_lt_of_pos _ hn⟩
structure RawF where
 n:Int
 k:Int
 o:Int
 ix:Bool
structure Raw where
 n:Int
 fs:List RawF
def nmF(i:Int):zB:=([[97],[98,50],[110,97,109,101],[110,101,120,116,95,111,110,101],[107,105,100,115],[120]]:List (zB)).getD i.toNat []
def nmC(i:Int):zB:=([[110,111,100,101],[105,116,101,109],[117,115,101,114],[112,97,103,101,95,49],[108,101,97,102],[113]]:List (zB)).getD i.toNat []
def z3E(r:RawF):Fld:=⟨nmF (pick r.n 6),⟨1+pick r.k 5,if pick r.k 5=4 then 1+pick r.o 4 else 0⟩,r.ix&&decide (1+pick r.k 5≤3)⟩
def z1x(acc:List Fld)(r:RawF):List Fld:=if fieldAt acc (z3E r).n<0 then acc++[z3E r] else acc
def zn(x:Raw):Cls:=⟨nmC (pick x.n 6),(x.fs.take 6).foldl z1x []⟩
theorem z7D{α:Type}(p:α→Bool)(l:List α)(k:Nat)(x:α)(hx:l[k]?=some x)(hp:p x=true)(h:∀(i:Nat) y,i<k→l[i]?=some y→p y=false):z0R p l=k:=by
 have:l.findIdx? p=some k:=by
  grind [List.findIdx?_eq_some_iff_getElem,List.getElem?_eq_some_iff,List.getElem?_eq_getElem]
 simp[z0R,this]
theorem z2R{α:Type}(p:α→Bool)(l:List α)(k:Nat)(h:z0R p l=k):∃x,l[k]?=some x∧p x=true:=by
 grind [z0R,List.findIdx?_eq_some_iff_getElem,List.getElem?_eq_getElem]
theorem z5f{α:Type}(p:α→Bool)(l:List α):z0R p l<0 ↔ ∀x∈l,p x=false:=by
 grind [z0R,List.findIdx?_eq_none_iff,List.findIdx?_eq_some_iff_getElem,List.getElem_mem]
def z6O(l:List Fld):Prop:=∀(i j:Nat) (f g:Fld),l[i]?=some f→l[j]?=some g→f.n=g.n→i=j
theorem zj5(all:List Fld):∀(r:List Fld) (k:Nat),z38 all k r=true ↔ ∀(i:Nat) f,r[i]?=some f→zF f=true∧fieldAt all f.n=((k+i:Nat):Int):=by
 intro r
 induction r with
 |nil=>grind [z38]
 |cons g r ih=>
  intro k;rw[z38,Bool.and_eq_true,Bool.and_eq_true,ih (k+1)];constructor
  ·grind
  ·intro h;have h0:=h 0 g (by simp);refine⟨⟨h0.1,by simpa using h0.2⟩,fun i f hf=> ?_⟩;have:=h (i+1) f (by grind)
   grind
theorem zcq{l:List Fld}(h:z6O l){i:Nat}{f:Fld}(hf:l[i]?=some f):fieldAt l f.n=i:=by
 refine z7D _ l i f hf (by simp) fun j y hj hy=> ?_;rw[beq_eq_false_iff_ne];intro he;have:=h j i y f hy hf he;omega
theorem z0Y(c:Cls):ze c=true ↔ zb c.n=true∧c.fs.length≤8∧(∀f∈c.fs,zF f=true)∧z6O c.fs:=by
 rw[ze,Bool.and_eq_true,Bool.and_eq_true,zj5,decide_eq_true_iff];constructor
 ·rintro⟨⟨h1,h2⟩,h3⟩;refine⟨h1,h2,fun f hf=> ?_,fun i j f g hi hj he=> ?_⟩
  ·grind [List.getElem?_of_mem]
  ·grind
 ·grind [List.mem_of_getElem?,zcq]
theorem zlc(j:Int)(h0:0≤j)(h1:j<6):zb (nmF j)=true∧(nmF j).length≤8:=by
 have:j=0∨j=1∨j=2∨j=3∨j=4∨j=5:=by omega
 rcases this with rfl|rfl|rfl|rfl|rfl|rfl<;>decide
theorem zlb(j:Int)(h0:0≤j)(h1:j<6):zb (nmC j)=true∧(nmC j).length≤8:=by
 have:j=0∨j=1∨j=2∨j=3∨j=4∨j=5:=by omega
 rcases this with rfl|rfl|rfl|rfl|rfl|rfl<;>decide
theorem ze1(r:RawF):zF (z3E r)=true∧(z3E r).n.length≤8:=by
 have h1:=zH r.n 6 (by omega);have h2:=zH r.k 5 (by omega);have h3:=zH r.o 4 (by omega);have h4:=zlc _ h1.1 h1.2;refine⟨?_,h4.2⟩;simp only[zF,z3E,h4.1,Bool.true_and,Bool.and_eq_true]
 grind [zg]
theorem zko{l:List Fld}{f:Fld}(h:z6O l)(hn:fieldAt l f.n<0):z6O (l++[f]):=by
 have hno:=(z5f _ _).1 hn;intro i j a b ha hb he;rw[List.getElem?_append]at ha hb;split at ha<;>split at hb
 ·exact h i j a b ha hb he
 ·grind
 ·grind
 ·grind
theorem zkI:∀(rs:List RawF) (acc:List Fld),(∀f∈acc,zF f=true∧f.n.length≤8)→z6O acc→
  (∀f∈rs.foldl z1x acc,zF f=true∧f.n.length≤8)∧z6O (rs.foldl z1x acc)∧(rs.foldl z1x acc).length≤acc.length+rs.length:=by
 intro rs
 induction rs with
 |nil=>intro acc h1 h2;exact⟨h1,h2,by simp⟩
 |cons r rs ih=>
  intro acc h1 h2;rw[List.foldl_cons];by_cases hn:fieldAt acc (z3E r).n<0
  ·have:z1x acc r=acc++[z3E r]:=by rw[z1x,if_pos hn]
   rw[this];have:=ih (acc++[z3E r]) (fun f hf=>by
    rcases List.mem_append.1 hf with hf|hf
    ·exact h1 f hf
    ·obtain rfl:=List.mem_singleton.1 hf;exact ze1 r) (zko h2 hn)
   refine⟨this.1,this.2.1,?_⟩;simp at this ⊢;omega
  ·have:z1x acc r=acc:=by rw[z1x,if_neg hn]
   rw[this];have:=ih acc h1 h2;refine⟨this.1,this.2.1,?_⟩;simp at this ⊢;omega
structure GoodC(c:Cls):Prop where
 nm:zb c.n=true∧c.n.length≤8
 fs:∀f∈c.fs,zF f=true∧f.n.length≤8
 di:z6O c.fs
 len:c.fs.length≤6
theorem z2D(x:Raw):GoodC (zn x):=by
 have h:=zkI (x.fs.take 6) [] (by simp) (by intro i j f g h;simp at h);have hb:=zH x.n 6 (by omega);exact⟨zlb _ hb.1 hb.2,h.1,h.2.1,by have:=h.2.2;simp only[zn];simp at this ⊢;omega⟩
theorem GoodC.right{c:Cls}(h:GoodC c):ze c=true:=(z0Y c).2 ⟨h.nm.1,by have:=h.len;omega,fun f hf=>(h.fs f hf).1,h.di⟩
end Go.Mor
end

section
namespace Go.Proofs.YtbkgnekfigknhaaGreatDoor
open Go Go.RowKit Go.Mor Go.Sh Go.Sh.Cd1 Go.Sh.Cd4
theorem z22{l:zB}{k:Nat}{c:UInt8}(h:l[k]?=some c):l.drop k=c::l.drop (k+1):=by
 obtain⟨hk,he⟩:=gJ h;rw[List.drop_eq_getElem_cons hk,he]
theorem zgc(g:Sh.Glob)(b:UInt8):zC g 127 [.pv (.v (.int .u8 (b.toNat:Int)))] [] (B (small b)) []:=by
 refine za tf_61 ?_;unfold small B;by_cases q1:97≤b.toNat
 ·have d1:(97:Int)≤(b.toNat:Int):=by omega
  have q2:decide ((b.toNat:Int)≤122)=decide (b.toNat≤122):=by rw[Bool.eq_iff_iff];simp;omega
  simp only[vW,seval,d1,q2,q1];first|done|simp
 ·have d1:¬(97:Int)≤(b.toNat:Int):=by omega
  simp only[vW,seval,d1,q1];first|done|simp
theorem z6j(g:Sh.Glob)(l:zB)(hl:l.length<4611686018427387904):zC g 72 [S (str l)] [] (B (zb l)) []:=by
 refine za tf_60 ?_;by_cases h1:1≤l.length
 ·have d1:¬(l.length:Int)<1:=by omega
  by_cases h20:l.length≤20
  ·have d2:¬(20:Int)<(l.length:Int):=by omega
   obtain⟨c,r,rfl⟩:∃c r,l=c::r:=List.exists_cons_of_ne_nil (by rintro rfl;simp at h1);have HS:=zgc g c;unfold B at HS ⊢;have e0:(c::r)[0]?=some c:=rfl;have hR:zb (c::r)=(small c&&(c::r).all zJ):=by
    unfold zb;rw[decide_eq_true ⟨h1,h20⟩];simp
   rw[hR];generalize hL:c::r=l at*;simp only[vW,seval,d1,d2,e0];refine z7 HS ?_;cases hs:small c
   ·simp only[vW,seval]
   simp only[vW,seval,d1,d2];refine zp (σ:={ k:Nat // k≤l.length∧(l.drop k).all zJ=l.all zJ })
    (fun k=>⟨[(0,S (str l)),(19,I (l.length:Int)),(20,I (k.1:Int))],[],[],[]⟩) (fun k=>l.length-k.1) ⟨0,Nat.zero_le _,rfl⟩ ?_ ?_
   ·exact lwA
   rintro⟨k,hk,hd⟩;by_cases hlt:k<l.length
   ·have d3:(k:Int)<(l.length:Int):=by omega
    obtain⟨b,eb⟩:∃b,l[k]?=some b:=⟨_,gE hlt⟩
    rw[z22 eb,List.all_cons]at hd;have hbn:=b.toNat_lt;have HB:=zgc g b;unfold B at HB;have w4:=wS k;simp only[vW,seval,d3,eb];refine z7 HB ?_;cases hsb:small b
    ·by_cases q1:b.toNat<48
     ·have d4:(b.toNat:Int)<48:=by omega
      have d6:¬(b.toNat:Int)=95:=by omega
      have hn:zJ b=false:=by unfold zJ;rw[hsb];simp;omega
      rw[hn,Bool.false_and]at hd;simp only[vW,seval,d3,eb,d4,d6];rw[←hd]
     ·have d4:¬(b.toNat:Int)<48:=by omega
      by_cases q2:57<b.toNat
      ·have d5:(57:Int)<(b.toNat:Int):=by omega
       by_cases q3:b.toNat=95
       ·have d6:(b.toNat:Int)=95:=by omega
        have hn:zJ b=true:=by unfold zJ;simp[q3]
        rw[hn,Bool.true_and]at hd;simp only[vW,seval,d3,eb,d4,d5,d6,w4];refine zc ⟨k+1,hlt,hd⟩ (by show l.length-(k+1)<l.length-k;omega) ?_;exact lwA
       ·have d6:¬(b.toNat:Int)=95:=by omega
        have hn:zJ b=false:=by unfold zJ;rw[hsb];simp;omega
        rw[hn,Bool.false_and]at hd;simp only[vW,seval,d3,eb,d4,d5,d6];rw[←hd]
      ·have d5:¬(57:Int)<(b.toNat:Int):=by omega
       have hn:zJ b=true:=by unfold zJ;simp;omega
       rw[hn,Bool.true_and]at hd;simp only[vW,seval,d3,eb,d4,d5,w4];refine zc ⟨k+1,hlt,hd⟩ (by show l.length-(k+1)<l.length-k;omega) ?_;exact lwA
    ·have hn:zJ b=true:=by unfold zJ;rw[hsb];rfl
     rw[hn,Bool.true_and]at hd;simp only[vW,seval,d3,eb,w4];refine zc ⟨k+1,hlt,hd⟩ (by show l.length-(k+1)<l.length-k;omega) ?_;exact lwA
   ·have d3:¬(k:Int)<(l.length:Int):=by omega
    rw[List.drop_eq_nil_of_le (by omega)]at hd;simp only[vW,seval,d3];rw[←hd];rfl
  ·have d2:(20:Int)<(l.length:Int):=by omega
   have hR:zb l=false:=by unfold zb;rw[decide_eq_false (by omega)];rfl
   rw[hR];unfold B;simp only[vW,seval,d1,d2]
 ·have d1:(l.length:Int)<1:=by omega
  have hR:zb l=false:=by unfold zb;rw[decide_eq_false (by omega)];rfl
  rw[hR];unfold B;simp only[vW,seval,d1]
theorem zcl(g:Sh.Glob)(l:zB)(hl:l.length<4611686018427387904):zC g 38 [.agg [S (str l),.pv (.v (.slice none 0 0))]] [] (B (zb l)) []:=by
 refine za tf_56 ?_;have HR:=z6j g l hl;unfold B at*;simp only[vW,seval];refine z7 HR ?_;cases zb l
 ·simp only[vW,seval]
 simp only[vW,seval];refine zp (σ:=Unit) (fun _=>⟨[(19,I 0),(20,I 0)],[],[],[]⟩) (fun _=>0) () ?_ ?_
 ·exact lwA
 rintro⟨⟩;simp only[vW,seval]
end Go.Proofs.YtbkgnekfigknhaaGreatDoor
end
