/- Merged texts: Zm10 Zm5 Zm11 Zy4 PRead Zn2 Zn3. No statement of the program is proved here. -/
import Derived.Test.YtcpaleaajdilgaaGreatDoorQ32
set_option linter.unusedSimpArgs false
set_option linter.unusedVariables false
set_option maxRecDepth 100000
set_option maxHeartbeats 8000000
section
namespace Go.Proofs.YtcpaleaajdilgaaGreatDoor
open Go Go.RowKit Go.Mor Go.Sh Go.Sh.Cd1
section
open Go.Sh.Cd7
def z6J(g:Sh.Glob)(vals:List V):Prop:=zC g 241 [.pv (.sl 4 (V.rows vals))] [] (.bs 1000 0 vals.length vals.length) [.box (pvC (V.rows vals).flatten)]
theorem zbr(l:List V):∀cs∈V.rows l,cs.length=4:=by
 intro cs h;rw[z0k]at h;obtain⟨f,_,rfl⟩:=List.mem_map.1 h;rw[z1k];rfl
theorem zfx(g:Sh.Glob)(l:List V)(hl:l.length≤1000)(hne:l≠[])(hf:∀v∈l,v.l=[]):z6J g l:=by
 have h0:=z2b g l hl (fun v hv=>zbJ (hf v hv));rw[←z1b l]at h0;have h:=h0.boxed (fun h=>hne (by rw[z0k]at h;simpa using h)) (fun cs hcs=>⟨zbr l cs hcs,fun c hc=>by
  rw[z0k]at hcs;obtain⟨f,hfm,rfl⟩:=List.mem_map.1 hcs;rw[z1k,hf f hfm]at hc;simp only[List.mem_cons,List.not_mem_nil,or_false]at hc;rcases hc with rfl|rfl|rfl|rfl<;>rfl⟩)
 rw[z1b]at h;exact h
theorem zgF{W:Nat}{x:List PV}(hx:x.length=W):∀{X:List (List PV)} {k:Nat},(∀cs∈X,cs.length=W)→k<X.length→List.take (k*W) X.flatten++x++List.drop (k*W+W) X.flatten=(X.set k x).flatten
 |[],k,_,h=>by simp at h
 |y::X,0,hW,_=>by
  have hy:=hW y (List.mem_cons_self ..);rw[List.flatten_cons,List.set_cons_zero,List.flatten_cons,Nat.zero_mul,List.take_zero,List.nil_append,Nat.zero_add,List.drop_append,List.drop_eq_nil_of_le (by omega),hy,Nat.sub_self,List.drop_zero,List.nil_append]
 |y::X,k+1,hW,h=>by
  have hy:=hW y (List.mem_cons_self ..);have ih:=zgF hx (X:=X) (k:=k) (fun cs hc=>hW cs (List.mem_cons_of_mem _ hc)) (by simpa using h);rw[List.flatten_cons,List.set_cons_succ,List.flatten_cons,←ih];have e1:(k+1)*W=W+k*W:=by rw[Nat.add_mul];omega
  rw[e1,List.take_append,List.drop_append,List.take_of_length_le (by omega),List.drop_eq_nil_of_le (by omega),hy];simp[Nat.add_sub_cancel_left,Nat.add_assoc]
theorem zmC(l:List V)(k:Nat)(v:V)(h:k<l.length):List.take (k*4) (pvC (V.rows l).flatten)++[TV.pv (.v (.int .i64 v.k)),TV.pv (.v (.int .i64 v.n)),TV.pv (.v (.string (str v.s))),TV.pv (.sl 4 (V.rows v.l))]++List.drop (k*4+4) (pvC (V.rows l).flatten)=pvC (V.rows (l.set k v)).flatten:=by
 have hs:V.rows (l.set k v)=(V.rows l).set k (V.row v):=by rw[z0k,z0k,List.map_set]
 rw[hs,←zgF (x:=V.row v) (by rw[z1k];rfl) (zbr l) (by rw[z1b];exact h),z1k];unfold pvC;simp[List.map_take,List.map_drop]
theorem z9A(m:Nat)(c:Cls)(t:Ty)(x:Tl)(vals:List V)(hx:x.is=true)(hs:∀e,x=.ev e→ESmall e)(hc:ClsOk c)(hf:∀v∈vals,VFew v∧VOk v)(hl:vals.length≤1000):
  (∃f p,tlT c t x=.fn (.func f) [] [p]∧zC (glE m) f [.pv (.sl 4 (V.rows vals)),.pv p] [] (tv (x.val c t vals)) [])∨(∃f p q,tlT c t x=.fn (.func f) [] [p,q]∧zC (glE m) f [.pv (.sl 4 (V.rows vals)),.pv p,.pv q] [] (tv (x.val c t vals)) []):=by
 cases x with
 |no=>cases hx
 |zero=>exact .inl ⟨_,_,rfl,zis (glE m) t vals⟩
 |ev e=>exact .inr ⟨_,_,_,rfl,zit m c e vals hc (hs e rfl) hf (by omega)⟩
theorem zcO(l:List V)(i:Nat)(xs:List V):V.rows (z16 l i xs)=(V.rows l).take i++V.rows xs++(V.rows l).drop (i+1):=by simp only[z0k];unfold z16;simp[List.map_take,List.map_drop]
theorem rows_take'(l:List V)(i:Nat):V.rows (l.take i)=(V.rows l).take i:=by simp only[z0k,List.map_take]
theorem rows_drop'(l:List V)(i:Nat):V.rows (l.drop i)=(V.rows l).drop i:=by simp only[z0k,List.map_drop]
theorem zmA(m:Nat)(c:Cls)(h:Chg)(vals:List V)(hx:(zz c h.x h.t).is=true)(hs:∀e,zz c h.x h.t=.ev e→ESmall e)(hc:ClsOk c)(hf:∀v∈vals,VFew v∧VOk v)(hl:vals.length≤1000):
  zC (glE m) 189 [.pv (.el (wkC c h)),.pv (.sl 4 (V.rows vals))] [] (.pv (.sl 4 (V.rows (vals++[(zz c h.x h.t).val c h.t vals])))) []:=by
 have HF:=z2b (glE m) vals hl (fun v hv=>(hf v hv).1);have HT:=z9A m c h.t _ vals hx hs hc hf hl;unfold wkC;generalize(zz c h.x h.t).val c h.t vals=r at*;generalize tlT c h.t (zz c h.x h.t)=px at*;generalize tlT c h.t (zz c h.o h.t)=po at*;refine z2X tf_3 ?_;unfold wkP;rcases HT with⟨f,p,rfl,HT⟩|⟨f,p,q,rfl,HT⟩
 ·simp only[vW,seval];left;refine z8 HF ?_;(with_reducible apply zJ);exact kv;exact HT;rfl;exact kv;simp only[vW,seval];refine⟨⟨by omega,by unfold maxLen;omega⟩,?_⟩;rw[z2g]
 ·simp only[vW,seval];left;refine z8 HF ?_;(with_reducible apply zJ);exact kv;exact HT;rfl;exact kv;simp only[vW,seval];refine⟨⟨by omega,by unfold maxLen;omega⟩,?_⟩;rw[z2g]
theorem zcW(g:Sh.Glob)(c:Cls)(h:Chg)(vals:List V)(hf:∀v∈vals,VFew v∧VOk v)(hl:vals.length≤1000):
  zC g 195 [.pv (.el (wkC c h)),.pv (.sl 4 (V.rows vals))] [] (.pv (.sl 4 (V.rows vals))) []:=by
 have HF:=z2b g vals hl (fun v hv=>(hf v hv).1);refine z9y tf_8 ?_;exact zd HF
theorem zkL(g:Sh.Glob)(c:Cls)(h:Chg)(vals:List V)(hf:∀v∈vals,VFew v∧VOk v)(hl:vals.length≤1000)(hi:atV c.fs h.f<vals.length):
  zC g 192 [.pv (.el (wkC c h)),.pv (.sl 4 (V.rows vals))] [] (.pv (.sl 4 (V.rows (z16 vals (atV c.fs h.f) [])))) []:=by
 unfold wkC;generalize tlT c h.t (zz c h.x h.t)=px at*;generalize tlT c h.t (zz c h.o h.t)=po at*;generalize atV c.fs h.f=i at*;have H1:=z2b g (vals.take i) (by rw[List.length_take];omega) (fun v hv=>(hf v (List.mem_of_mem_take hv)).1);have H2:=z2b g (vals.drop (i+1)) (by rw[List.length_drop];omega) (fun v hv=>(hf v (List.mem_of_mem_drop hv)).1);have HK:=zaW g [(V.rows vals).take i,(V.rows vals).drop (i+1)] (by show 2≤1000;decide) (by simp[z1b];omega);simp only[slR,List.map_cons,List.map_nil]at HK;rw[rows_take']at H1;rw[rows_drop']at H2;have tl:List.take vals.length (V.rows vals)=V.rows vals:=List.take_of_length_le (by rw[z1b];omega);have w1:=wS i;refine z2X tf_5 ?_;unfold wkP;simp only[vW,seval,w1,tl,List.drop_zero];refine⟨⟨by omega,by omega⟩,?_⟩;refine z7 H1 ?_;simp only[vW,seval,w1,tl,List.drop_zero];refine⟨by omega,?_⟩;refine z8 H2 ?_;refine z8 HK ?_;rw[zcO];simp[V.rows_nil]
theorem zkM(m:Nat)(c:Cls)(h:Chg)(vals:List V)(hb:z6J (glE m) vals)(hx:(zz c h.x h.t).is=true)(hs:∀e,zz c h.x h.t=.ev e→ESmall e)(hc:ClsOk c)(hf:∀v∈vals,VFew v∧VOk v)(hl:vals.length≤1000)(hi:atV c.fs h.f<vals.length):
  zC (glE m) 198 [.pv (.el (wkC c h)),.pv (.sl 4 (V.rows vals))] [] (.pv (.sl 4 (V.rows (z16 vals (atV c.fs h.f) [(zz c h.x h.t).val c h.t vals])))) []:=by
 have HT:=z9A m c h.t _ vals hx hs hc hf hl;unfold z6J at hb;unfold wkC;generalize(zz c h.x h.t).val c h.t vals=r at*;generalize tlT c h.t (zz c h.x h.t)=px at*;generalize tlT c h.t (zz c h.o h.t)=po at*;generalize atV c.fs h.f=i at*;have hset:=zmC vals i r hi;have hln:(V.rows vals).flatten.length=vals.length*4:=by rw[z4u (zbr vals),z1b]
 have hput:=z7x (x:=r) hi;refine z4U zf tf_19 rfl ?_
 conv in SFunc.code _=>reduce
 unfold wkP;refine z0R zf ?_;simp only[vW,seval];refine z0R zf ?_;simp only[vW,seval];refine z8 hb ?_;refine z0R zf ?_;rcases HT with⟨f,p,rfl,HT⟩|⟨f,p,q,rfl,HT⟩
 ·simp only[vW,seval];(with_reducible apply zJ);exact kv;exact HT;rfl;exact kv;simp only[vW,seval,hset];refine⟨by omega,by rw[hln];omega,?_⟩;refine z6X (z8f (k:=5) (d:=2028) (es:=V.rows (vals.set i r)) (c:=vals.length) rfl (zbr _) (by show some _=some _;rw[z1b,List.length_set])) (z44 zf ?_);simp only[vW,seval];rw[hput]
 ·simp only[vW,seval];(with_reducible apply zJ);exact kv;exact HT;rfl;exact kv;simp only[vW,seval,hset];refine⟨by omega,by rw[hln];omega,?_⟩;refine z6X (z8f (k:=5) (d:=2028) (es:=V.rows (vals.set i r)) (c:=vals.length) rfl (zbr _) (by show some _=some _;rw[z1b,List.length_set])) (z44 zf ?_);simp only[vW,seval];rw[hput]
theorem ziB(m:Nat)(c:Cls)(h:Chg)(vals:List V)(hx:(zz c h.x h.t).is=true)(ho:(zz c h.o h.t).is=true)(hs:∀e,zz c h.x h.t=.ev e→ESmall e)(hs':∀e,zz c h.o h.t=.ev e→ESmall e)(hc:ClsOk c)(hf:∀v∈vals,VFew v∧VOk v)(hl:vals.length≤1000)(hi:atV c.fs h.f<vals.length):
  zC (glE m) 201 [.pv (.el (wkC c h)),.pv (.sl 4 (V.rows vals))] [] (.pv (.sl 4 (V.rows (z16 vals (atV c.fs h.f) [(zz c h.x h.t).val c h.t vals,(zz c h.o h.t).val c h.t vals])))) []:=by
 have HT:=z9A m c h.t _ vals hx hs hc hf hl;have HU:=z9A m c h.t _ vals ho hs' hc hf hl;unfold wkC;generalize(zz c h.x h.t).val c h.t vals=r at*;generalize(zz c h.o h.t).val c h.t vals=u at*;generalize tlT c h.t (zz c h.x h.t)=px at*;generalize tlT c h.t (zz c h.o h.t)=po at*;generalize atV c.fs h.f=i at*;have H1:=z2b (glE m) (vals.take i) (by rw[List.length_take];omega) (fun v hv=>(hf v (List.mem_of_mem_take hv)).1);have H2:=z2b (glE m) (vals.drop (i+1)) (by rw[List.length_drop];omega) (fun v hv=>(hf v (List.mem_of_mem_drop hv)).1);have HK:=zaW (glE m) [(V.rows vals).take i,[[.v (.int .i64 r.k),.v (.int .i64 r.n),.v (.string (str r.s)),.sl 4 (V.rows r.l)],[.v (.int .i64 u.k),.v (.int .i64 u.n),.v (.string (str u.s)),.sl 4 (V.rows u.l)]],(V.rows vals).drop (i+1)] (by show 3≤1000;decide) (by simp[z1b];omega);simp only[slR,List.map_cons,List.map_nil]at HK;rw[rows_take']at H1;rw[rows_drop']at H2;have tl:List.take vals.length (V.rows vals)=V.rows vals:=List.take_of_length_le (by rw[z1b];omega);have w1:=wS i
 have hend:V.rows (z16 vals i [r,u])=(V.rows vals).take i++([[.v (.int .i64 r.k),.v (.int .i64 r.n),.v (.string (str r.s)),.sl 4 (V.rows r.l)],[.v (.int .i64 u.k),.v (.int .i64 u.n),.v (.string (str u.s)),.sl 4 (V.rows u.l)]]++(V.rows vals).drop (i+1)):=by
  rw[zcO];show _++[V.row r,V.row u]++_=_;rw[z1k r,z1k u,List.append_assoc]
 rw[hend];refine z2X tf_17 ?_;unfold wkP;rcases HT with⟨f,p,rfl,HT⟩|⟨f,p,q,rfl,HT⟩<;>rcases HU with⟨f',p',rfl,HU⟩|⟨f',p',q',rfl,HU⟩
 all_goals(
  simp only[vW,seval];(with_reducible apply zJ);exact kv;exact HT;rfl;exact kv;simp only[vW,seval];(with_reducible apply zJ);exact kv;exact HU;rfl;exact kv;simp only[vW,seval,tl,List.drop_zero];refine⟨⟨by omega,by omega⟩,?_⟩;refine z7 H1 ?_;simp only[vW,seval,w1,tl,List.drop_zero];refine⟨by omega,?_⟩;refine z8 H2 ?_;refine z8 HK ?_;simp)
def z8l:TV:=.agg [.pv (.v .nilFunc),.pv (.v .nilFunc),.pv (.v .nilFunc)]
theorem za8(m:Nat)(c:Cls)(h:Chg)(hc:ClsOk c)(hh:ChOk m h)(hno:(zn c&&zS h)=false):zC (glE m) 68 [clT c,chT h] [] (.tuple [z8l,B false]) []:=by
 have HR:=z28 (glE m) c hc;have HW:=z3N m h hh;generalize zn c=r at*;generalize zS h=w at*;refine za tf_44 ?_;unfold clT chT B z8l at*;cases r
 ·simp only[vW,seval];exact zd HR
 ·cases w
  ·simp only[vW,seval];refine z8 HR ?_;exact zd HW
  ·cases hno
theorem znl(m:Nat)(c:Cls)(h:Chg)(hc:ClsOk c)(hh:ChOk m h)(hr:zn c=true)(hw:zS h=true)(hk:h.k=1∨h.k=2∨h.k=3∨h.k=4∨h.k=5∨h.k=6)(j:Nat)
  (hj:findKs (TypeDesc.int .i64) (.int .i64 h.k) kdK 0=some (some j)) (hx:(kdL (wkC c h))[j]?=some (kdT (wkC c h) (zer h.k) (ze5 h.k) (zff h.k))):
  zC (glE m) 68 [clT c,chT h] [] (.tuple [kdT (wkC c h) (zer h.k) (ze5 h.k) (zff h.k),B (z0z c h)]) []:=by
 have HR:=z28 (glE m) c hc;have HW:=z3N m h hh;rw[hr]at HR;rw[hw]at HW;have HF:=z5G (glE m) c h.f hc.len;rw[zcr]at HF;have H1:=zcS m c h.x h.t hh.x hc;have H2:=zcS m c h.o h.t hh.o hc;have HM:=zpu (glE m) c h hk hc.len;have HK:=zlK (glE m) (wkC c h);unfold kdL kdT fnW at hx;unfold kdL kdT fnW at HK;unfold kdT fnW;have hps:(wkC c h).map TV.pv=[S (str c.n),.pv (.sl 4 (flR c.fs)),I h.k,S (str h.f),S (str h.n),S (str h.m),I h.t.k,I h.t.o,S (str h.x),S (str h.o),I (atV c.fs h.f:Int),.pv (.v (.bool (z0M c.fs h.f))),.pv (tlT c h.t (zz c h.x h.t)),.pv (tlT c h.t (zz c h.o h.t))]:=rfl;have tc:∀x,(TV.pv (tlT c h.t x)).cells=some [.pv (tlT c h.t x)]:=fun x=>by cases x<;>rfl
 refine z4U zf tf_44 rfl ?_
 conv in SFunc.code _=>reduce
 generalize wkC c h=ps at*;unfold clT chT tyT B at*;refine z0R zf ?_;simp only[vW,seval];refine z0R zf ?_;simp only[vW,seval];refine z8 HR ?_;refine z8 HW ?_;refine z0R zf ?_;simp only[vW,seval];refine z0R zf ?_;simp only[vW,seval];refine z8 HF ?_;refine z0R zf ?_;simp only[vW,seval];refine z7 H1 ?_;simp only[vW,seval,tc];refine z0R zf ?_;simp only[vW,seval];refine z7 H2 ?_;simp only[vW,seval,tc];refine z6X (zpe (k:=6) (d:=20) (ps:=ps) (show lk _ 20=_ from congrArg some hps.symm) rfl) (z44 zf ?_);simp only[vW,seval];refine z7 HK ?_;simp only[vW,seval,hj,hx];(with_reducible apply zJ);exact kv;exact HM;rfl;exact kv;simp only[vW,seval]
theorem zmF{cs ds:List TV}(hl:cs.length=ds.length)(h:∀(j:Nat) c d,cs[j]?=some c→ds[j]?=some d→Wk c d):Wk (.tuple cs) (.tuple ds):=by
 intro w E r v hr;cases hr with
 |tuple cs vs hl' hv=>
  refine .tuple ds vs (hl▸hl') (fun j d v hd hv'=> ?_);have hj:j<cs.length:=by
   rcases Nat.lt_or_ge j ds.length with h|h
   ·omega
   ·rw[List.getElem?_eq_none h]at hd;cases hd
  exact h j _ d (gE hj) hd w E r v (hv j _ v (gE hj) hv')
theorem z77{a b x y:TV}(h:Wk a b)(h':Wk x y):Wk (.tuple [a,x]) (.tuple [b,y]):=zmF rfl (fun j p q hp hq=>by
 match j with
 |0=>simp at hp hq;subst hp;subst hq;exact h
 |1=>simp at hp hq;subst hp;subst hq;exact h'
 |j+2=>simp at hp)
theorem ziD(s:zB):Wk (.agg [S (str s),zK]) (clT ⟨s,[]⟩):=zfi rfl (fun j p q hp hq=>by
 match j with
 |0=>simp at hp hq;subst hp;subst hq;exact .refl _
 |1=>simp at hp hq;subst hp;subst hq;exact z56 4
 |j+2=>simp at hp)
def z82(r:Cls×Int):TV:=.tuple [clT r.1,I r.2]
def z6p(r:List V×Int):TV:=.tuple [.pv (.sl 4 (V.rows r.1)),I r.2]
theorem zfg{h:Chg}(hw:zS h=true):h.k=1∨h.k=2∨h.k=3∨h.k=4∨h.k=5∨h.k=6:=by
 unfold zS at hw;simp only[Bool.and_eq_true]at hw;have:=hw.1.1.1.1.1.1;unfold z0H at this;by_cases h1:h.k=1
 ·exact .inl h1
 by_cases h2:h.k=2∨h.k=6
 ·omega
 by_cases h3:h.k=3
 ·omega
 by_cases h4:h.k=4
 ·omega
 by_cases h5:h.k=5
 ·omega
 rw[if_neg h1,if_neg h2,if_neg h3,if_neg h4,if_neg h5]at this;cases this
theorem zbv{m:Nat}{c:Cls}{s:zB}{t:Ty}(hs:TxOk m s):∀e,zz c s t=.ev e→ESmall e:=by
 intro e h;unfold zz at h;split at h
 ·cases h
 ·rename_i hne;split at h
  ·cases h
  ·split at h
   ·cases h;exact hs.sm hne
   ·cases h
theorem z83(m:Nat)(c:Cls)(h:Chg)(hc:ClsOk c)(hh:ChOk m h)(hr:zn c=true)(hw:zS h=true):
  zC (glE m) 68 [clT c,chT h] [] (.tuple [kdT (wkC c h) (zer h.k) (ze5 h.k) (zff h.k),B (z0z c h)]) []:=by
 have hk:=zfg hw;have H:=znl m c h hc hh hr hw hk;rcases hk with hk|hk|hk|hk|hk|hk
 ·exact H 0 (by rw[hk];rfl) (by rw[hk];rfl)
 ·exact H 1 (by rw[hk];rfl) (by rw[hk];rfl)
 ·exact H 2 (by rw[hk];rfl) (by rw[hk];rfl)
 ·exact H 3 (by rw[hk];rfl) (by rw[hk];rfl)
 ·exact H 4 (by rw[hk];rfl) (by rw[hk];rfl)
 ·exact H 5 (by rw[hk];rfl) (by rw[hk];rfl)
theorem z4t(m:Nat)(c:Cls)(h:Chg)(hc:ClsOk c)(hh:ChOk m h):zC (glE m) 32 [clT c,chT h] [] (B (okV c h)) []:=by
 have HN:=za8 m c h hc hh;have HY:=z83 m c h hc hh;unfold okV;refine za tf_41 ?_;cases hn:(zn c&&zS h)
 ·have HN:=HN hn;unfold clT chT z8l B at*;simp only[vW,seval];exact zd HN
 ·obtain⟨hr,hw⟩:=Bool.and_eq_true_iff.1 hn;have HY:=HY hr hw;unfold clT chT kdT fnW B at*;simp only[vW,seval];exact zd HY
theorem zgu{c:Cls}{h:Chg}(hm:z0z c h=true)(h1:h.k≠1):z0M c.fs h.f=true:=by
 unfold z0z at hm;rw[if_neg h1]at hm;split at hm
 ·exact hm
 split at hm
 ·simp only[Bool.and_eq_true]at hm;exact hm.1
 split at hm
 ·simp only[Bool.and_eq_true]at hm;exact hm.1
 split at hm
 ·simp only[Bool.and_eq_true]at hm;exact hm.1.1.1.1.1.1
 ·simp only[Bool.and_eq_true]at hm;exact hm.1
theorem zph{fs:List Fld}{s:zB}(h:z0M fs s=true):atV fs s<fs.length:=by
 obtain⟨f,hf,_⟩:=has_at h;exact(gJ hf).1
theorem zmz(m:Nat)(c:Cls)(h:Chg)(vals:List V)(hh:ChOk m h)(hw:zS h=true)(hm:z0z c h=true)(hB:h.k=4→vals≠[]→z6J (glE m) vals)(hc:ClsOk c)(hf:∀v∈vals,VFew v∧VOk v)(hl:vals.length≤1000)(he:vals.length=c.fs.length):
  zC (glE m) (zff h.k) [.pv (.el (wkC c h)),.pv (.sl 4 (V.rows vals))] [] (.pv (.sl 4 (V.rows (z23 c h vals)))) []:=by
 have hs:=fun e=>zbv (c:=c) (t:=h.t) hh.x e;have hs':=fun e=>zbv (c:=c) (t:=h.t) hh.o e;have hi:h.k≠1→atV c.fs h.f<vals.length:=fun h1=>by rw[he];exact zph (zgu hm h1)
 unfold zff z23;rcases zfg hw with hk|hk|hk|hk|hk|hk
 ·rw[hk,if_pos rfl,if_pos rfl];unfold z0z at hm;rw[if_pos hk]at hm;simp only[Bool.and_eq_true]at hm;exact zmA m c h vals hm.2 hs hc hf hl
 ·rw[hk,if_neg (by decide),if_pos rfl,if_neg (by decide),if_pos rfl];exact zkL (glE m) c h vals hf hl (hi (by omega))
 ·rw[hk,if_neg (by decide),if_neg (by decide),if_pos rfl,if_neg (by decide),if_neg (by decide),if_neg (by decide),if_neg (by decide)];exact zcW (glE m) c h vals hf hl
 ·unfold z0z at hm;rw[hk,if_neg (by decide),if_neg (by decide),if_neg (by decide),if_pos rfl]at hm;simp only[Bool.and_eq_true]at hm;rw[hk,if_neg (by decide),if_neg (by decide),if_neg (by decide),if_pos rfl,if_neg (by decide),if_neg (by decide),if_pos rfl];exact zkM m c h vals (hB hk (by intro e;have:=hi (by omega);rw[e]at this;simp at this)) hm.2 hs hc hf hl (hi (by omega))
 ·unfold z0z at hm;rw[hk,if_neg (by decide),if_neg (by decide),if_neg (by decide),if_neg (by decide),if_pos rfl]at hm;simp only[Bool.and_eq_true]at hm;rw[hk,if_neg (by decide),if_neg (by decide),if_neg (by decide),if_neg (by decide),if_pos rfl,if_neg (by decide),if_neg (by decide),if_neg (by decide),if_pos rfl];exact ziB m c h vals hm.1.2 hm.2 hs hs' hc hf hl (hi (by omega))
 ·rw[hk,if_neg (by decide),if_neg (by decide),if_neg (by decide),if_neg (by decide),if_neg (by decide),if_neg (by decide),if_neg (by decide),if_neg (by decide),if_neg (by decide)];exact zcW (glE m) c h vals hf hl
theorem z79(m:Nat)(c:Cls)(h:Chg)(hc:ClsOk c)(hh:ChOk m h)(hl:c.fs.length≤1000):zC (glE m) 30 [clT c,chT h] [] (z82 (z2t c h)) []:=by
 have HR:=z28 (glE m) c hc;have HN:=za8 m c h hc hh;have HY:=z83 m c h hc hh;unfold z2t okV;cases hr:zn c
 ·rw[hr]at HR;refine SCalls.out ?_ (z77 (ziD []) (.refl _));refine za tf_38 ?_;unfold clT chT zK B at*;simp only[vW,seval];refine z8 HR ?_;rfl
 rw[hr]at HR;cases hw:zS h
 ·have HN:=HN (by rw[hr,hw];rfl);refine SCalls.out ?_ (z77 (ziD []) (.refl _));refine za tf_38 ?_;unfold clT chT z8l zK B at*;simp only[vW,seval];refine z8 HR ?_;refine z8 HN ?_;rfl
 have HY:=HY hr hw;cases hm:z0z c h
 ·rw[hm]at HY;refine SCalls.out ?_ (z77 (ziD []) (.refl _));refine za tf_38 ?_;unfold clT chT kdT fnW zK B at*;simp only[vW,seval];refine z8 HR ?_;refine z8 HY ?_;rfl
 ·rw[hm]at HY;have HF:=zjg (glE m) c h (zfg hw) hl (zgu hm);refine za tf_38 ?_;unfold z82 clT chT kdT fnW B at*;simp only[vW,seval];refine z8 HR ?_;refine z8 HY ?_;(with_reducible apply zJ);exact kv;exact HF;rfl;exact kv;simp only[vW,seval]
theorem z3K(m:Nat)(c:Cls)(h:Chg)(vals:List V)(hc:ClsOk c)(hh:ChOk m h)(hB:h.k=4→vals≠[]→z6J (glE m) vals)(hf:∀v∈vals,VFew v∧VOk v)(hl:vals.length≤1000):zC (glE m) 31 [clT c,chT h,.pv (.sl 4 (V.rows vals))] [] (z6p (z3x c h vals)) []:=by
 have HC:=zdx (z7R m c vals hc (fun v hv=>⟨(hf v hv).2,by have:=(hf v hv).1.len;unfold maxLen;omega⟩) (by omega));have HN:=za8 m c h hc hh;have HY:=z83 m c h hc hh;have hck:(z1Z c vals).2=0→zn c=true∧vals.length=c.fs.length:=by
  intro h0;unfold z1Z at h0;split at h0
  ·cases h0
  ·rename_i hr;split at h0
   ·cases h0
   ·rename_i he;exact⟨by simpa using hr,by omega⟩
 unfold z3x;by_cases h0:(z1Z c vals).2=0
 ·obtain⟨hr,he⟩:=hck h0;rw[if_neg (by simpa using h0)];generalize z1Z c vals=k at*;obtain⟨k1,k2⟩:=k;simp only at h0;subst h0;unfold okV;cases hw:zS h
  ·have HN:=HN (by rw[hr,hw];rfl);rw[show(!(zn c&&false&&z0z c h))=true by simp,if_pos rfl];refine SCalls.out ?_ (z77 (z56 4) (.refl _));refine za tf_43 ?_;unfold z5D clT chT z8l B at*;simp only[vW,seval];refine z8 HC ?_;exact zd HN
  have HY:=HY hr hw;cases hm:z0z c h
  ·rw[hm]at HY;rw[show(!(zn c&&true&&false))=true by simp,if_pos rfl];refine SCalls.out ?_ (z77 (z56 4) (.refl _));refine za tf_43 ?_;unfold z5D clT chT kdT fnW B at*;simp only[vW,seval];refine z8 HC ?_;exact zd HY
  ·rw[hm]at HY;have HV:=zmz m c h vals hh hw hm hB hc hf hl he;rw[hr];refine za tf_43 ?_;unfold z6p z5D clT chT kdT fnW B at*;simp only[vW,seval];refine z8 HC ?_;refine z8 HY ?_;(with_reducible apply zJ);exact kv;exact HV;rfl;exact kv;simp only[vW,seval]
 ·rw[if_pos h0];refine SCalls.out ?_ (z77 (z56 4) (.refl _));generalize z1Z c vals=k at*;refine za tf_43 ?_;unfold z5D clT chT B at*;simp only[vW,seval];refine z7 HC ?_;simp only[vW,seval,h0]
end
theorem zdH(l:zB):bl (str l)=l:=by simp[bl,str]
theorem zee{x:Int}(h:I64 x):zak x=true:=by unfold zak;obtain⟨h1,h2⟩:=h;simp[h1,h2]
theorem zc5(a0 a1:Addr)(m:Nat)(x:Int)(h:I64 x):zC (gl a0 a1 m) 64 [I x] [] (S (str (num x))) []:=
 z4S a0 a1 m _ _ _ _ _ (by simp[z9q,I,Nat.beq,zee h])
theorem zmD(a0 a1:Addr)(m:Nat)(l:zB)(h:l.length≤10000):zC (gl a0 a1 m) 93 [S (str l)] [] (.tuple [S (str (text l)),I 0]) []:=
 z4S a0 a1 m _ _ _ _ _ (by simp[z9q,S,Nat.beq,zdH,zf9,h];omega)
theorem zi7(a0 a1:Addr)(m:Nat)(l:zB)(a:Int)(hl:l.length<1125899906842624)(h:I64 a):zC (gl a0 a1 m) 124 [S (str l),I a] [] (zdp (z0j l a)) []:=
 z4S a0 a1 m _ _ _ _ _ (by simp[z9q,S,I,Nat.beq,zdH,zee h,hl])
theorem zfM(a0 a1:Addr)(m:Nat)(l:zB)(a:Int)(hl:l.length<1125899906842624)(h:I64 a):zC (gl a0 a1 m) 125 [S (str l),I a] [] (zbl (z00 l a)) []:=
 z4S a0 a1 m _ _ _ _ _ (by simp[z9q,S,I,Nat.beq,zdH,zee h,hl])
def zoJ(x:V):Prop:=I64 x.k∧I64 x.n∧x.s.length≤60
end Go.Proofs.YtcpaleaajdilgaaGreatDoor
end

section
namespace Go.Mor
open Go Go.RowKit
abbrev Rd(α:Type):Type:=zB→Int→Option (α×Int)
def Rd.bind{α β:Type}(r:Rd α)(f:α→Rd β):Rd β:=fun s a=>match r s a with|none=>none|some (v,b)=>f v s b
def Rd.ret{α:Type}(v:α):Rd α:=fun _ a=>some (v,a)
def Rd.fail{α:Type}:Rd α:=fun _ _=>none
def Enc{α:Type}(r:Rd α)(e:zB)(v:α):Prop:=∀pre post:zB,r (pre++e++post) pre.length=some (v,((pre.length+e.length:Nat):Int))
def Cuts{α:Type}(r:Rd α):Prop:=∀(s:zB) (a:Int) (v:α) (b:Int) (k:Nat),r s a=some (v,b)→a≤k→a≤b∧(b≤k→r (s.take k) a=some (v,b))∧(k<b→r (s.take k) a=none)
theorem Enc.bind{α β:Type}{r:Rd α}{f:α→Rd β}{e1 e2:zB}{v1:α}{v2:β}(h1:Enc r e1 v1)(h2:Enc (f v1) e2 v2):Enc (r.bind f) (e1++e2) v2:=by
 intro pre post;have a:=h1 pre (e2++post);have b:=h2 (pre++e1) post
 grind [Rd.bind]
theorem Enc.ret{α:Type}(v:α):Enc (Rd.ret v) [] v:=fun pre post=>by simp[Rd.ret]
theorem Cuts.bind{α β:Type}{r:Rd α}{f:α→Rd β}(h1:Cuts r)(h2:∀v,Cuts (f v)):Cuts (r.bind f):=by
 intro s a v b k h hk;unfold Rd.bind at h ⊢;cases hr:r s a with
 |none=>grind
 |some p=>
  obtain⟨v1,b1⟩:=p;rw[hr]at h;obtain⟨g1,g2,g3⟩:=h1 s a v1 b1 k hr hk;by_cases hb:b1≤k
  ·obtain⟨j1,j2,j3⟩:=h2 v1 s b1 v b k h hb
   grind
  ·obtain⟨j1,_,_⟩:=h2 v1 s b1 v b b1.toNat h (by omega)
   grind
theorem Cuts.ret{α:Type}(v:α):Cuts (Rd.ret v):=by
 intro s a v' b k h hk;simp only[Rd.ret,Option.some.injEq,Prod.mk.injEq]at h ⊢
 grind
theorem Cuts.fail{α:Type}:Cuts (Rd.fail (α:=α)):=fun s a v b k h=>by cases h
theorem Enc.cut{α:Type}{r:Rd α}{e:zB}{v:α}(h:Enc r e v)(hc:Cuts r)(k:Nat)(hk:k<e.length):r (e.take k) 0=none:=by
 have a:=h [] [];simp at a;exact(hc e 0 v _ k a (by omega)).2.2 (by omega)
/-! Numbers. -/
def cont:zB→zB
 |[]=>[]
 |[g]=>[g]
 |g::r=>(g+128)::cont r
theorem zj2(l:zB)(g:UInt8):cont (l++[g])=l.map (·+128)++[g]:=by
 induction l with
 |nil=>rfl
 |cons a r ih=>
  cases r with
  |nil=>rfl
  |cons b q=>simp only[List.cons_append,cont,List.map_cons]at ih ⊢;rw[ih]
theorem zjZ(l:zB):z4k l=cont l:=by
 rcases List.eq_nil_or_concat l with rfl|⟨q,g,rfl⟩
 ·rfl
 ·rw[List.concat_eq_append,zj2];have:∀(n:Nat) (q:zB) (g:UInt8),q.length=n→z4k (q++[g])=q.map (·+128)++[g]:=by
   intro n
   induction n with
   |zero=>intro q g hq;obtain rfl:=List.eq_nil_of_length_eq_zero hq;rfl
   |succ n ih=>
    intro q g hq;rcases List.eq_nil_or_concat q with rfl|⟨p,a,rfl⟩
    ·simp at hq
    ·grind [z8A,zci]
  grind
theorem z0B(b:UInt8):b.toNat<256:=b.toNat_lt
theorem zk5{k:Nat}{b:UInt8}(st:Nat×Nat)(r:zB)(hk:k≠0)(h0:b.toNat≠0)(h9:k=9→b.toNat≤1)(hb:b.toNat<128):z0m k st (b::r)=.ok (st.1+b.toNat*2 ^ (7*k-1),st.2,k+1):=by
 grind [z0m]
theorem zk6{k:Nat}{b:UInt8}(st:Nat×Nat)(r:zB)(hk:k≠0)(h9:k≠9)(hb:128≤b.toNat):z0m k st (b::r)=z0m (k+1) (st.1+b.toNat%128*2 ^ (7*k-1),st.2) r:=by
 grind [z0m]
theorem zi5{b:UInt8}(st:Nat×Nat)(r:zB)(hb:b.toNat<128):z0m 0 st (b::r)=.ok (b.toNat / 2,b.toNat%2,1):=by
 grind [z0m]
theorem zi6{b:UInt8}(st:Nat×Nat)(r:zB)(hb:128≤b.toNat):z0m 0 st (b::r)=z0m 1 (b.toNat%128 / 2,b.toNat%128%2) r:=by
 grind [z0m]
theorem zk7:∀(f k:Nat) (st:Nat×Nat) (m:Nat) (zy:zB),m≠0→1≤k→k+f=10→m<2 ^ (64-7*k)→
    z0m k st (cont (z18 f m)++zy)=.ok (st.1+m*2 ^ (7*k-1),st.2,k+(z18 f m).length):=by
  intro f
  induction f with
  | zero => intro k st m zy hm h1 h2 h3; obtain rfl : k = 10 := by omega
            simp at h3;omega
  |succ f ih=>
    intro k st m zy hm h1 h2 h3
    have hb:(UInt8.ofNat (m%128)).toNat=m%128:=by rw[UInt8.toNat_ofNat'];omega
    rw[z18,if_neg hm]
    by_cases hd:m / 128=0
    · rw[hd,z7L]
      simp only[cont,List.cons_append,List.nil_append]
      have hm':m%128=m:=by omega
      rw[zk5 st zy (by omega) (by rw[hb];omega) (by rintro rfl;rw[hb];simp at h3;omega) (by rw[hb];omega),hb,hm']
      simp
    · have hk9:k≠9:=by rintro rfl;simp at h3;omega
      obtain⟨x,r,hx⟩:∃x r,z18 f (m / 128)=x::r:=by
        obtain⟨f',rfl⟩:∃f',f=f'+1:=⟨f-1,by omega⟩
        rw[z18,if_neg hd];exact⟨_,_,rfl⟩
      have hcn:cont (UInt8.ofNat (m%128)::z18 f (m / 128))=(UInt8.ofNat (m%128)+128)::cont (z18 f (m / 128)):=by rw[hx];rfl
      rw[hcn,List.cons_append]
      have hbb:(UInt8.ofNat (m%128)+128).toNat=m%128+128:=by
        rw[UInt8.toNat_add,hb];show(m%128+128)%256=_;omega
      rw[zk6 st _ (by omega) hk9 (by rw[hbb];omega),hbb]
      have hp:(2:Nat) ^ (64-7*k)=2 ^ (64-7*(k+1))*128:=by
        rw[show 64-7*k=(64-7*(k+1))+7 by omega,Nat.pow_add]
      rw[ih (k+1) _ (m / 128) zy hd (by omega) (by omega) (by rw[hp]at h3;omega)]
      have hq:(2:Nat) ^ (7*(k+1) - 1)=128*2 ^ (7*k-1):=by
        rw[show 7*(k+1) - 1=7+(7*k-1) by omega,Nat.pow_add]
      simp only[List.length_cons]
      congr 2
      · rw[hq,show(m%128+128)%128=m%128 by omega]
        generalize 2 ^ (7*k-1)=Q
        have:m*Q=(m%128)*Q+(m / 128)*(128*Q):=by
          conv=>lhs;rw[show m=m%128+128*(m / 128) by omega]
          rw[Nat.add_mul,Nat.mul_comm 128 (m / 128),Nat.mul_assoc]
        omega
      · congr 1;omega
theorem zka(x:Int)(h0: -9223372036854775808≤x)(h1:x≤9223372036854775807)(pre post:zB):rd (pre++num x++post) pre.length=.ok (x,(num x).length):=by
 have hpos:=znZ x;unfold rd;rw[if_pos (by grind)];have hd:List.drop (pre.length:Int).toNat (pre++num x++post)=num x++post:=by
  simp
 have hnl:(num x).length=1+(z18 9 (mag x / 64)).length:=by grind [num,z4Q,z4f]
 rw[hd,hnl,num,zjZ,z4f];have hs:sgn x≤1:=by grind [sgn]
 have hb:(UInt8.ofNat (mag x%64*2+sgn x)).toNat=mag x%64*2+sgn x:=by rw[UInt8.toNat_ofNat'];omega
 have key:z0m 0 (0,0) (cont (UInt8.ofNat (mag x%64*2+sgn x)::z18 9 (mag x / 64))++post)=.ok (mag x,sgn x,1+(z18 9 (mag x / 64)).length):=by
  by_cases hz:mag x / 64=0
  ·rw[hz,z7L];simp only[cont,List.cons_append,List.nil_append]
   grind [zi5]
  ·obtain⟨y,r,hx⟩:∃y r,z18 9 (mag x / 64)=y::r:=by
    grind [z18]
   have hcn:cont (UInt8.ofNat (mag x%64*2+sgn x)::z18 9 (mag x / 64))=(UInt8.ofNat (mag x%64*2+sgn x)+128)::cont (z18 9 (mag x / 64)):=by rw[hx];rfl
   grind [UInt8.ofNat,mag,sgn,UInt8.toNat_add,zi6,zk7]
 grind [sgn,mag]
theorem z98(x:Int)(h0: -9223372036854775808≤x)(h1:x≤9223372036854775807):Enc z0j (num x) x:=by
 intro pre post
 grind [z0j,zka]
theorem z5F(t:zB)(ht:t.length≤10000):Enc z00 (text t) t:=by
 intro pre post;have h:=zka t.length (by omega) (by omega) pre (t++post);rw[show pre++text t++post=pre++num t.length++(t++post) by simp[text],z00,rdW,h]
 dsimp only
 rw[show((pre.length:Int)+((num t.length).length:Nat)).toNat=(pre++num t.length).length by simp;omega,List.drop_left,show((t.length:Int)).toNat=t.length by omega,List.take_left]
 grind [text]
theorem zk8:∀(l:zB) (k:Nat) (st:Nat×Nat) (m sg z j:Nat),z0m k st l=.ok (m,sg,z)→k<z∧(z≤k+j→z0m k st (l.take j)=.ok (m,sg,z))∧(k+j<z→z0m k st (l.take j)=.error false):=by
 intro l
 induction l with
 |nil=>intro k st m sg z j h;cases h
 |cons b r ih=>
  intro k st m sg z j h;rw[z0m]at h;split at h
  ·cases h
  ·rename_i hc
   dsimp only at h
   split at h
   ·rename_i hb;injection h with h
    simp only[Prod.mk.injEq]at h;obtain⟨h1,h2,h3⟩:=h;refine⟨by omega,fun hz=> ?_,fun hz=> ?_⟩
    ·obtain⟨j',rfl⟩:∃j',j=j'+1:=⟨j-1,by omega⟩
     rw[List.take_succ_cons,z0m,if_neg hc];rw[if_pos hb,h1,h2,h3]
    ·obtain rfl:j=0:=by omega
     rfl
   ·rename_i hb;cases j with
    |zero=>
     obtain⟨h1,_,_⟩:=ih _ _ _ _ _ 0 h;exact⟨by omega,fun hz=>by omega,fun _=>rfl⟩
    |succ j'=>
     obtain⟨h1,h2,h3⟩:=ih _ _ _ _ _ j' h;refine⟨by omega,fun hz=> ?_,fun hz=> ?_⟩;all_goals
      rw[List.take_succ_cons,z0m,if_neg hc];rw[if_neg hb]
     ·exact h2 (by omega)
     ·exact h3 (by omega)
theorem zgC{s:zB}{a n:Int}{z:Nat}(h:rd s a=.ok (n,z))(k:Nat)(hk:a≤k):0≤a∧(a+z≤k→rd (s.take k) a=.ok (n,z))∧(k<a+z→rd (s.take k) a=.error false):=by
 unfold rd at h;split at h
 ·rename_i hin;cases hr:z0m 0 (0,0) (s.drop a.toNat)with
  |error e=>grind
  |ok p=>
   rw[hr]at h;injection h with h
   obtain⟨g1,g2,g3⟩:=zk8 _ _ _ _ _ _ (k-a.toNat) hr
   grind [List.drop_take,rd]
 ·cases h
theorem zac:Cuts z0j:=by
 intro s a v b k h hk;unfold z0j at h ⊢;cases hr:rd s a with
 |error e=>grind
 |ok p=>
  obtain⟨_,g1,g2⟩:=zgC hr k hk
  grind
theorem z4X:Cuts z00:=by
 intro s a v b k h hk;unfold z00 rdW at h ⊢;cases hr:rd s a with
 |error e=>grind
 |ok p=>
  obtain⟨n,z⟩:=p;rw[hr]at h
  dsimp only at h
  obtain⟨g0,g1,g2⟩:=zgC hr k hk;by_cases hn:n<0∨10000<n
  ·grind
  rw[if_neg hn]at h;by_cases hl:(s.length:Int) - (a+z)<n
  ·grind
  rw[if_neg hl]at h;obtain⟨rfl,rfl⟩:=h;refine⟨by omega,fun hb=> ?_,fun hb=> ?_⟩
  ·rw[g1 (by omega)]
   dsimp only
   rw[if_neg hn,if_neg (by grind)]
   grind [List.drop_take]
  ·grind
end Go.Mor
end

section
namespace Go.Proofs.YtcpaleaajdilgaaGreatDoor
open Go Go.RowKit Go.Mor Go.Sh Go.Sh.Cd1 Go.Sh.Cd7
def z1D(h:Chg):zB:=num h.k++text h.f++text h.n++text h.m++(num h.t.k++num h.t.o)++text h.x++text h.o
structure ChFit(h:Chg):Prop where
 k:I64 h.k
 tk:I64 h.t.k
 ot:I64 h.t.o
 f:h.f.length≤10000
 n:h.n.length≤10000
 m:h.m.length≤10000
 x:h.x.length≤10000
 o:h.o.length≤10000
theorem z57(a0 a1:Addr)(m:Nat)(s:zB)(hs:s.length≤10000):zC (gl a0 a1 m) 65 [S (str s)] [] (S (str (text s))) []:=by
 have HT:=zmD a0 a1 m s hs;refine z0s tf_53 ?_;exact zd HT
theorem z2Y{s:zB}(h:s.length≤10000):(text s).length≤10010:=by unfold text;rw[List.length_append];have:=z2d (s.length:Int);omega
def zdi(h:Chg):TV:=if zS h then .tuple [S (str (z1D h)),I 0] else .tuple [S (str []),I 70]
theorem zb1(a0 a1:Addr)(m:Nat)(h:Chg)(hh:ChOk m h)(hf:ChFit h):zC (glX a0 a1 m) 28 [chT h] [] (zdi h) []:=by
 have HW:=z2O (a0:=a0) (a1:=a1) (z3N m h hh);have N1:=z2n (zc5 a0 a1 m h.k hf.k);have N2:=z2n (zc5 a0 a1 m h.t.k hf.tk);have N3:=z2n (zc5 a0 a1 m h.t.o hf.ot);have T1:=z2n (z57 a0 a1 m h.f hf.f);have T2:=z2n (z57 a0 a1 m h.n hf.n);have T3:=z2n (z57 a0 a1 m h.m hf.m);have T4:=z2n (z57 a0 a1 m h.x hf.x);have T5:=z2n (z57 a0 a1 m h.o hf.o);have l1:=z2d h.k;have l2:=z2d h.t.k;have l3:=z2d h.t.o;have m1:=z2Y hf.f;have m2:=z2Y hf.n;have m3:=z2Y hf.m;have m4:=z2Y hf.x;have m5:=z2Y hf.o;unfold zdi z1D;generalize num h.k=n1 at*;generalize num h.t.k=n2 at*;generalize num h.t.o=n3 at*;generalize text h.f=t1 at*;generalize text h.n=t2 at*;generalize text h.m=t3 at*;generalize text h.x=t4 at*;generalize text h.o=t5 at*;refine za tf_40 ?_;unfold chT B at*;generalize zS h=wv at*;cases wv
 ·simp only[vW,seval];refine z8 HW ?_;rfl
 simp only[vW,seval];refine z8 HW ?_;refine z8 N1 ?_;refine zw (σ:={i:Nat // i≤3}) (fun i=>⟨[(1,.ptr 1 0),(4,S (str (n1++([t1,t2,t3].take i.1).flatten))),(19,.pv (.sl 1 [[.v (.string (str h.f))],[.v (.string (str h.n))],[.v (.string (str h.m))]])),(20,I 3),(21,I (i.1:Int))],
  [(1,[I h.k,S (str h.f),S (str h.n),S (str h.m),I h.t.k,I h.t.o,S (str h.x),S (str h.o)])],[],[]⟩) (fun i=>3-i.1) ⟨0,by decide⟩ ?_ ?_
 ·exact lwA
 rintro⟨i,hi⟩;have hi:i=0∨i=1∨i=2∨i=3:=by omega
 have e0:([t1,t2,t3].take 0).flatten=[]:=rfl;have e1:([t1,t2,t3].take 1).flatten=t1:=by simp
 have e2:([t1,t2,t3].take 2).flatten=t1++t2:=by simp
 have e3:([t1,t2,t3].take 3).flatten=t1++(t2++t3):=by simp
 rcases hi with rfl|rfl|rfl|rfl
 ·simp only[e0,List.append_nil];simp only[vW,seval];refine z8 T1 ?_;refine⟨by omega,zc ⟨1,by decide⟩ (by show 3-1<3-0;decide) ?_⟩;simp only[e1];apply z06<;>simp[leL,lk,sv,Nat.beq,I,S,ES.kill,has,drp,zK,show IntKind.i64.wrap 1=1 from rfl,show IntKind.i64.wrap 2=2 from rfl,show IntKind.i64.wrap 3=3 from rfl]
 ·simp only[e1];simp only[vW,seval];refine z8 T2 ?_;refine⟨by(try simp only[List.length_append]);omega,zc ⟨2,by decide⟩ (by show 3-2<3-1;decide) ?_⟩;simp only[e2,←List.append_assoc];apply z06<;>simp[leL,lk,sv,Nat.beq,I,S,ES.kill,has,drp,zK,show IntKind.i64.wrap 1=1 from rfl,show IntKind.i64.wrap 2=2 from rfl,show IntKind.i64.wrap 3=3 from rfl]
 ·simp only[e2,←List.append_assoc];simp only[vW,seval];refine z8 T3 ?_;refine⟨by(try simp only[List.length_append]);omega,zc ⟨3,by decide⟩ (by show 3-3<3-2;decide) ?_⟩;simp only[e3,←List.append_assoc];apply z06<;>simp[leL,lk,sv,Nat.beq,I,S,ES.kill,has,drp,zK,show IntKind.i64.wrap 1=1 from rfl,show IntKind.i64.wrap 2=2 from rfl,show IntKind.i64.wrap 3=3 from rfl]
 ·simp only[e3,←List.append_assoc];simp only[vW,seval];refine z8 N2 ?_;refine z8 N3 ?_;refine⟨by omega,by(try simp only[List.length_append]);omega,?_⟩;refine z8 T4 ?_;refine⟨by(try simp only[List.length_append]);omega,?_⟩;refine z8 T5 ?_;refine⟨by omega,?_⟩;simp[List.append_assoc]
def rdB(l:zB)(st:Int×Bool):MO:=.box [S (str l),I st.1,B st.2]
def nuS(l:zB)(st:Int×Bool):Int×(Int×Bool):=if st.2 then(0,(st.1,true))else match z0j l st.1 with|some (n,b)=>(n,(b,false))|none=>(0,(st.1,true))
def txS(l:zB)(st:Int×Bool):zB×(Int×Bool):=if st.2 then([],(st.1,true))else match z00 l st.1 with|some (t,b)=>(t,(b,false))|none=>([],(st.1,true))
theorem z8D(a0 a1:Addr)(m:Nat)(l:zB)(st:Int×Bool)(hl:l.length<1125899906842624)(h:I64 st.1):
  zC (gl a0 a1 m) 66 [.ptr 1000 0] [rdB l st] (I (nuS l st).1) [rdB l (nuS l st).2]:=by
 have HR:=zi7 a0 a1 m l st.1 hl h;obtain⟨a,bad⟩:=st;unfold nuS rdB
 dsimp only at*
 refine zp tf_0 ?_;unfold B at*;cases hr:z0j l a with
 |none=>
  rw[hr]at HR;simp only[zdp]at HR;cases bad
  ·simp only[vW,seval];exact zd HR
  ·simp only[vW,seval];exact zd HR
 |some p=>
  obtain⟨n,b⟩:=p;rw[hr]at HR;simp only[zdp]at HR;cases bad
  ·simp only[vW,seval];exact zd HR
  ·simp only[vW,seval];exact zd HR
theorem z4n(a0 a1:Addr)(m:Nat)(l:zB)(st:Int×Bool)(hl:l.length<1125899906842624)(h:I64 st.1):
  zC (gl a0 a1 m) 67 [.ptr 1000 0] [rdB l st] (S (str (txS l st).1)) [rdB l (txS l st).2]:=by
 have HR:=zfM a0 a1 m l st.1 hl h;have e0:=bS [];obtain⟨a,bad⟩:=st;unfold txS rdB
 dsimp only at*
 refine zp tf_1 ?_;unfold B at*;cases hr:z00 l a with
 |none=>
  rw[hr]at HR;simp only[zbl]at HR;cases bad
  ·simp only[vW,seval];refine z7 HR ?_;simp only[vW,seval,e0]
  ·simp only[vW,seval];refine z7 HR ?_;simp only[vW,seval,e0]
 |some p=>
  obtain⟨n,b⟩:=p;rw[hr]at HR;simp only[zbl]at HR;cases bad
  ·simp only[vW,seval];refine z7 HR ?_;simp only[vW,seval,e0]
  ·simp only[vW,seval];refine z7 HR ?_;simp only[vW,seval,e0]
theorem zet{l:zB}{st:Int×Bool}(hl:l.length<1125899906842624)(h:I64 st.1):I64 (nuS l st).2.1∧I64 (nuS l st).1:=by
 unfold nuS;split
 ·exact⟨h,by unfold I64;omega⟩
 split
 ·rename_i e;have:=z7U e;exact⟨⟨by dsimp only;omega,by dsimp only;omega⟩,⟨by dsimp only;omega,by dsimp only;omega⟩⟩
 ·exact⟨h,by unfold I64;omega⟩
theorem z8X{l:zB}{st:Int×Bool}(hl:l.length<1125899906842624)(h:I64 st.1):I64 (txS l st).2.1∧(txS l st).1.length≤10000:=by
 unfold txS;split
 ·exact⟨h,by simp⟩
 split
 ·rename_i e;have:=zbU e;exact⟨⟨by dsimp only;omega,by dsimp only;omega⟩,by dsimp only;omega⟩
 ·exact⟨h,by simp⟩
def z5a(l:zB)(a:Int):Chg×(Int×Bool):=
 let r1:=nuS l (a,false)
 let r2:=txS l r1.2
 let r3:=txS l r2.2
 let r4:=txS l r3.2
 let r5:=nuS l r4.2
 let r6:=nuS l r5.2
 let r7:=txS l r6.2
 let r8:=txS l r7.2
 (⟨r1.1,r2.1,r3.1,r4.1,⟨r5.1,r6.1⟩,r7.1,r8.1⟩,r8.2)
def zhc:Chg:=⟨0,[],[],[],⟨0,0⟩,[],[]⟩
def zdh(l:zB)(a:Int):TV:=
 bif (z5a l a).2.2|| !zS (z5a l a).1 then .tuple [chT zhc,I 0,I 10] else .tuple [chT (z5a l a).1,I (z5a l a).2.1,I 0]
theorem zaZ(a0 a1:Addr)(m:Nat)(l:zB)(a:Int)(hl:l.length<1125899906842624)(h:I64 a)(hh:(z5a l a).2.2=false→ChOk m (z5a l a).1):
  zC (glX a0 a1 m) 29 [S (str l),I a] [] (zdh l a) []:=by
 have e0:=bS [];unfold zdh;unfold z5a at*
 dsimp only at*
 have H1:=z2n (z8D a0 a1 m l (a,false) hl h);have b1:=(zet (st:=(a,false)) hl h).1;generalize nuS l (a,false)=r1 at*;obtain⟨n1,s1⟩:=r1;have H2:=z2n (z4n a0 a1 m l s1 hl b1);have b2:=(z8X hl b1).1
 dsimp only at*
 generalize txS l s1=r2 at*;obtain⟨n2,s2⟩:=r2;have H3:=z2n (z4n a0 a1 m l s2 hl b2);have b3:=(z8X hl b2).1
 dsimp only at*
 generalize txS l s2=r3 at*;obtain⟨n3,s3⟩:=r3;have H4:=z2n (z4n a0 a1 m l s3 hl b3);have b4:=(z8X hl b3).1
 dsimp only at*
 generalize txS l s3=r4 at*;obtain⟨n4,s4⟩:=r4;have H5:=z2n (z8D a0 a1 m l s4 hl b4);have b5:=(zet hl b4).1
 dsimp only at*
 generalize nuS l s4=r5 at*;obtain⟨n5,s5⟩:=r5;have H6:=z2n (z8D a0 a1 m l s5 hl b5);have b6:=(zet hl b5).1
 dsimp only at*
 generalize nuS l s5=r6 at*;obtain⟨n6,s6⟩:=r6;have H7:=z2n (z4n a0 a1 m l s6 hl b6);have b7:=(z8X hl b6).1
 dsimp only at*
 generalize txS l s6=r7 at*;obtain⟨n7,s7⟩:=r7;have H8:=z2n (z4n a0 a1 m l s7 hl b7);have b8:=(z8X hl b7).1
 dsimp only at*
 generalize txS l s7=r8 at*;obtain⟨n8,a8,bad⟩:=r8
 dsimp only at*
 have HW:bad=false→_:=fun e=>z2O (a0:=a0) (a1:=a1) (z3N m _ (hh e));generalize zS _=wv at*;unfold chT zhc rdB B at*
 dsimp only at*
 refine z0s tf_39 ?_;refine z7 H1 ?_;refine z7 H2 ?_;refine z7 H3 ?_;refine z8 H4 ?_;refine z8 H5 ?_;refine z8 H6 ?_;refine z8 H7 ?_;refine z7 H8 ?_;cases bad
 ·have HW:=HW rfl;cases wv
  ·simp only[vW,seval];refine z7 HW ?_;simp only[vW,seval,e0];rfl
  ·simp only[vW,seval];refine z7 HW ?_;simp only[vW,seval,e0];rfl
 ·simp only[vW,seval,e0];rfl
def z0r(a b:Chg):Bool:=(a.k==b.k)&&((a.f==b.f)&&((a.n==b.n)&&((a.m==b.m)&&(z0h a.t b.t&&((a.x==b.x)&&((a.o==b.o)&&true))))))
def chA(k:Int)(f n m:ByteArray)(t o:Int)(x y:ByteArray):Array Value:= #[.int .i64 k,.string f,.string n,.string m,.int .i64 t,.int .i64 o,.string x,.string y]
theorem zja(k k':Int)(f n m f' n' m':ByteArray)(t o t' o':Int)(x y x' y':ByteArray):zr Tryz.prog (Op.equal 50 (.agg (chA k f n m t o x y)) (.agg (chA k' f' n' m' t' o' x' y')))=
  some ((k==k')&&((f==f')&&((n==n')&&((m==m')&&(z0h ⟨t,o⟩ ⟨t',o'⟩&&((x==x')&&((y==y')&&true))))))):=by
 unfold Op.equal;obtain⟨d,hn⟩:∃d,Op.maxDepth=d+1+1+1:=⟨_,rfl⟩
 rw[hn,z2e _ _ _ _ (by kernel_rfl) (by kernel_rfl)];obtain⟨f1,f2,f3,f4,f5,f6,f7,hl,P1,P2,P3,P4,P5,P6,P7⟩:∃f1 f2 f3 f4 f5 f6 f7,(Tryz.prog.fieldsOf 50).toList=[f1,f2,f3,f4,f5,f6,f7]∧
   PartOk f1 (chA k f n m t o x y) (chA k' f' n' m' t' o' x' y') (.int .i64 k) (.int .i64 k') (k==k')∧
   PartOk f2 (chA k f n m t o x y) (chA k' f' n' m' t' o' x' y') (.string f) (.string f') (f==f')∧
   PartOk f3 (chA k f n m t o x y) (chA k' f' n' m' t' o' x' y') (.string n) (.string n') (n==n')∧
   PartOk f4 (chA k f n m t o x y) (chA k' f' n' m' t' o' x' y') (.string m) (.string m') (m==m')∧
   PartOk f5 (chA k f n m t o x y) (chA k' f' n' m' t' o' x' y') (.agg #[.int .i64 t,.int .i64 o]) (.agg #[.int .i64 t',.int .i64 o']) (z0h ⟨t,o⟩ ⟨t',o'⟩)∧
   PartOk f6 (chA k f n m t o x y) (chA k' f' n' m' t' o' x' y') (.string x) (.string x') (x==x')∧
   PartOk f7 (chA k f n m t o x y) (chA k' f' n' m' t' o' x' y') (.string y) (.string y') (y==y'):=
  ⟨(Tryz.prog.fieldsOf 50).toList.getD 0 default,(Tryz.prog.fieldsOf 50).toList.getD 1 default,(Tryz.prog.fieldsOf 50).toList.getD 2 default,(Tryz.prog.fieldsOf 50).toList.getD 3 default,
   (Tryz.prog.fieldsOf 50).toList.getD 4 default,(Tryz.prog.fieldsOf 50).toList.getD 5 default,(Tryz.prog.fieldsOf 50).toList.getD 6 default,by kernel_rfl,
   ⟨of_decide_eq_true (by kernel_rfl),by kernel_rfl,by kernel_rfl,fun n=>prI (n+1) _ _⟩,
   ⟨of_decide_eq_true (by kernel_rfl),by kernel_rfl,by kernel_rfl,fun n=>prS (n+1) _ _⟩,
   ⟨of_decide_eq_true (by kernel_rfl),by kernel_rfl,by kernel_rfl,fun n=>prS (n+1) _ _⟩,
   ⟨of_decide_eq_true (by kernel_rfl),by kernel_rfl,by kernel_rfl,fun n=>prS (n+1) _ _⟩,
   ⟨of_decide_eq_true (by kernel_rfl),by kernel_rfl,by kernel_rfl,fun n=>zmW n _ _ _ _⟩,
   ⟨of_decide_eq_true (by kernel_rfl),by kernel_rfl,by kernel_rfl,fun n=>prS (n+1) _ _⟩,
   ⟨of_decide_eq_true (by kernel_rfl),by kernel_rfl,by kernel_rfl,fun n=>prS (n+1) _ _⟩⟩
 rw[hl];exact z1s P1 (z1s P2 (z1s P3 (z1s P4 (z1s P5 (z1s P6 (z1s P7 zcI))))))
theorem zp6(k k':Int)(f n m f' n' m':ByteArray)(t o t' o':Int)(x y x' y':ByteArray):
  z04 Tryz.prog (do eqGuard .eql 50 (.const (.agg #[.int .i64 k,.string f,.string n,.string m,.int .i64 t,.int .i64 o,.string x,.string y])) (.const (.agg #[.int .i64 k',.string f',.string n',.string m',.int .i64 t',.int .i64 o',.string x',.string y'])) (.agg #[.int .i64 k,.string f,.string n,.string m,.int .i64 t,.int .i64 o,.string x,.string y]) (.agg #[.int .i64 k',.string f',.string n',.string m',.int .i64 t',.int .i64 o',.string x',.string y']);binOp .eql 50 (.agg #[.int .i64 k,.string f,.string n,.string m,.int .i64 t,.int .i64 o,.string x,.string y]) (.agg #[.int .i64 k',.string f',.string n',.string m',.int .i64 t',.int .i64 o',.string x',.string y']))=
  some (.pv (.v (.bool ((k==k')&&((f==f')&&((n==n')&&((m==m')&&(z0h ⟨t,o⟩ ⟨t',o'⟩&&((x==x')&&((y==y')&&true))))))))),.no):=by
 unfold z04;rw[zZ];have hg:zr Tryz.prog (eqGuard .eql 50 (.const (.agg #[.int .i64 k,.string f,.string n,.string m,.int .i64 t,.int .i64 o,.string x,.string y])) (.const (.agg #[.int .i64 k',.string f',.string n',.string m',.int .i64 t',.int .i64 o',.string x',.string y'])) (.agg #[.int .i64 k,.string f,.string n,.string m,.int .i64 t,.int .i64 o,.string x,.string y]) (.agg #[.int .i64 k',.string f',.string n',.string m',.int .i64 t',.int .i64 o',.string x',.string y']))=some ():=by kernel_rfl
 rw[hg,Option.bind_some];have hb:binOp .eql 50 (.agg #[.int .i64 k,.string f,.string n,.string m,.int .i64 t,.int .i64 o,.string x,.string y]) (.agg #[.int .i64 k',.string f',.string n',.string m',.int .i64 t',.int .i64 o',.string x',.string y'])=(Op.equal 50 (.agg (chA k f n m t o x y)) (.agg (chA k' f' n' m' t' o' x' y'))>>=fun r=>pure (.bool r)):=rfl;rw[hb,zZ,zja];rfl
theorem zng(a b:zB):(str a==str b)=(a==b):=by
 show((str a).data==(str b).data)=(a==b)
 rw[Bool.eq_iff_iff,beq_iff_eq,beq_iff_eq];constructor
 ·intro h;have:=congrArg Array.toList h;simpa [str]using this
 ·intro h;rw[h]
theorem zin(g:Sh.Glob)(a b:Chg):zC g 27 [chT a,chT b] [] (B (z0r a b)) []:=by
 have H:=zp6 a.k b.k (str a.f) (str a.n) (str a.m) (str b.f) (str b.n) (str b.m) a.t.k a.t.o b.t.k b.t.o (str a.x) (str a.o) (str b.x) (str b.o);simp only[zng]at H;refine za tf_42 ?_;unfold chT B z0r;simp only[vW,seval,H]
end Go.Proofs.YtcpaleaajdilgaaGreatDoor
end
