/- Merged texts: Cd7 Pk5 Zx2. No statement of the program is proved here. -/
import Derived.Test.YtcpaleaajdilgaaGreatDoorM1
import Derived.Test.YtcpaleaajdilgaaGreatDoorM2
import Derived.Test.YtcpaleaajdilgaaGreatDoorM3
import Derived.Test.YtcpaleaajdilgaaGreatDoorM4
import Derived.Test.YtcpaleaajdilgaaGreatDoorM5
import Derived.Test.YtcpaleaajdilgaaGreatDoorM6
import Derived.Test.YtcpaleaajdilgaaGreatDoorM7
import Derived.Test.YtcpaleaajdilgaaGreatDoorM8
import Derived.Test.YtcpaleaajdilgaaGreatDoorM9
import Derived.Test.YtcpaleaajdilgaaGreatDoorM10
import Derived.Test.YtcpaleaajdilgaaGreatDoorM11
import Derived.Test.YtcpaleaajdilgaaGreatDoorM12
import Derived.Test.YtcpaleaajdilgaaGreatDoorM13
import Derived.Test.YtcpaleaajdilgaaGreatDoorM14
import Derived.Test.YtcpaleaajdilgaaGreatDoorM15
import Derived.Test.YtcpaleaajdilgaaGreatDoorM16
set_option linter.unusedSimpArgs false
set_option linter.unusedVariables false
set_option maxRecDepth 100000
set_option maxHeartbeats 8000000
section
namespace Go.Sh.Cd7
open Go Go.Sh
theorem tf_110:gQ ⟨7,146,[],[],[[0,2,6],[25],[26],[1,3,5,7,27],[3,6,27029],[1,30032],[5,33038],[11,39054],[7010,55056],[6,55,57062],[63069],[70071],[72073],[74076],[16,74,77082],[12013,15,18,83108],[7010,14,17,109],[6,109112],[113114],[10,21,115122],[8009,20,123129],[22,24,130134],[7,14,17,19,23,135],[6,23,135136],[7010,14,17,19,115,137145]],[.tmp 6],false⟩:=gK
end Go.Sh.Cd7
end

section
namespace Go.Mor
open Go
theorem Put.news{c:Cls}{h:Chg}{vals:List V}{i:Nat}{gs:List Fld}{ws:List V}(hp:Put c h vals i gs ws)(hf:FitC c vals){j:Nat}{f:Fld}{v:V}(hj:gs[j]?=some f)(hv:ws[j]?=some v):
  (z39 c h)[i+j]?=some f∧(valsV c h vals)[i+j]?=some v:=by
 have hle:=hp.le;have hl:=hf.len;rw[hp.fs,hp.vs]
 grind [z126,Nat.add_sub_cancel_left]
end Go.Mor
end

section
namespace Go.Proofs.YtcpaleaajdilgaaGreatDoor
open Go Go.RowKit Go.Mor Go.Sh Go.Sh.Cd1 Go.Sh.Cd7
theorem told_of{c:Cls}{vals:List V}(hf:FitC c vals){s:zB}{t:Ty}(hs:s≠[])(h:(tellV c s t).is=true):(rdV s).2.2=0∧evalA c vals (rdV s).1=((tellV c s t).val c t vals,0):=by
 unfold tellV at h ⊢;rw[if_neg hs]at h ⊢;split at h
 ·cases h
 rename_i he;rw[if_neg he];split at h
 ·rename_i hT;rw[if_pos hT];have hev:evalA c vals (rdV s).1=(worthV c.fs vals 8 (rdV s).1,0):=by
   unfold evalA;rw[hT.1,hf.chk];rfl
  exact⟨Decidable.not_not.1 he,by rw[hev];show _=((evalA c vals (rdV s).1).1,_);rw[hev]⟩
 ·cases h
theorem told_at{c:Cls}{vals:List V}{h:Chg}(hf:FitC c vals)(ho:okV c h=true)(hk:h.k=1∨h.k=4∨h.k=5):
  ∃k:Nat,(z39 c h)[k]?=some ⟨if h.k=4 then h.f else h.n,h.t,false⟩∧(valsV c h vals)[k]?=some ((tellV c h.x h.t).val c h.t vals)∧(tellV c h.x h.t).is=true∧FitC ⟨c.n,z39 c h⟩ (valsV c h vals):=by
 obtain⟨i,gs,ws,hp,h1,h2⟩:=put_of hf ho;have hm:=(ok_parts ho).2.2;have hi:(tellV c h.x h.t).is=true:=by
  unfold mayV at hm;rcases hk with hk|hk|hk<;>(rw[hk]at hm;simp at hm;grind)
 refine⟨i+0,?_⟩;rcases hk with hk|hk|hk
 ·obtain⟨a1,a2⟩:=h1 (.inl hk);rw[if_neg (by omega)];exact⟨(hp.news hf a1 a2).1,(hp.news hf a1 a2).2,hi,hp.fits hf⟩
 ·obtain⟨a1,a2⟩:=h2 hk;rw[if_pos hk];exact⟨(hp.news hf a1 a2).1,(hp.news hf a1 a2).2,hi,hp.fits hf⟩
 ·obtain⟨a1,a2⟩:=h1 (.inr hk);rw[if_neg (by omega)];exact⟨(hp.news hf a1 a2).1,(hp.news hf a1 a2).2,hi,hp.fits hf⟩
theorem fit_at{c:Cls}{vals:List V}(hf:FitC c vals){k:Nat}{v:V}(h:vals[k]?=some v):rightV v=true∧VFew v∧VOk v:=by
 have hl:=hf.len;have hlt:=(gJ h).1;have:=hf.fit k _ v (gE (show k<c.fs.length by omega)) h;unfold fitsV at this;simp only[Bool.and_eq_true]at this;exact⟨this.1.1.1,few_right this.1.1.1⟩
theorem changeTold_ok(a0 a1:Addr)(m:Nat)(x:Raw)(l:List Int)(a:RawH)(hx:RawOk x)(hl:l.length≤9223372036854775807)(ha:RawHOk a):
  zC (glX a0 a1 m) 7 [rawT x,.pv (.sl 1 (iiR l)),rawHT a] [] (.pv (.v (.bool true))) []:=by
 have HX:=ex7_ok a0 a1 m;have HC:=classOf4_ok (glX a0 a1 m) x hx;have hg:=classOf_good x;have hn:=classOf_nmL x;have hc6:=hg.len;have HV:=valsOf4_ok (glX a0 a1 m) (z52 x) l 5 (fun _ hf=>hg.type hf) (by omega) hl (by decide);have hvl:=z187 (z52 x).fs l 5;have hfit:FitC (z52 x) (mkVals (z52 x).fs l 5):=⟨hg.right,hvl,fun i f v hf hv=>vals_fit hg l (by decide) hf hv⟩
 generalize mkVals (z52 x).fs l 5=vals at*;generalize z52 x=c at*;have H1:=chgOf_ok (glX a0 a1 m) a c ha hg hn;have i1:=chIn_ok m (chgOf_in a hg hn);generalize chgOf a c=h at*;refine z10 tf_110 ?_;cases r1:okV c h
 ·rw[r1]at H1;unfold clT chT rawT rawHT B at*;simp only[vW,seval];refine z8 HX ?_;refine z8 HC ?_;refine z8 HV ?_;exact z14 H1
 rw[r1]at H1;by_cases hk:h.k=1∨h.k=4∨h.k=5
 ·obtain⟨k,e1,e2,hi,hF⟩:=told_at hfit r1 hk;have HA:=ap_ok (a0:=a0) (a1:=a1) hfit i1.1;have HW:=va_ok (a0:=a0) (a1:=a1) hfit i1.1;rw[(ap_yes hfit r1).1]at HA;rw[(ap_yes hfit r1).2]at HW;obtain⟨f1,f2⟩:=fieldT_at hF.r e1;have HF:=field_ok (glX a0 a1 m) ⟨c.n,z39 c h⟩ (if h.k=4 then h.f else h.n) (by have:=(clsR_ok hF.r).2;omega);rw[f1]at HF;obtain⟨_,w1,w2⟩:=fit_at hF e2;have hvk:k<(valsV c h vals).length:=(gJ e2).1;have HS:=same_self (glX a0 a1 m) w1;have HZ:=zero_ok (glX a0 a1 m) h.t;have et:eqTy h.t h.t=true:=by simp[eqTy]
  have d0:¬((valsV c h vals).length:Int)≤(k:Int):=by omega
  have e0:=bS [];have nm:(if h.k=4 then S (str h.f)else S (str h.n))=S (str (if h.k=4 then h.f else h.n)):=by split<;>rfl
  generalize hNM:(if h.k=4 then h.f else h.n)=nmv at*;unfold applyT at HA;unfold valsT at HW;by_cases hs:h.x=[]
  ·have ey:(tellV c h.x h.t).val c h.t vals=zeroV h.t:=by unfold tellV;rw[if_pos hs];rfl
   rw[ey]at HS e2;have HS':zC (glX a0 a1 m) 18 [tv (zeroV h.t),nv (zeroV h.t)] [] (B true) []:=HS.inp rfl (fun j c d hc hd=>by
    match j with
    |0=>cases hc;cases hd;exact .refl _
    |1=>cases hc;cases hd;exact nv_tv (zeroV_l _)
    |j+2=>simp at hc)
   generalize z39 c h=fs' at*;generalize valsV c h vals=vs' at*;clear hF r1 hi hfit ey HS i1 f1;obtain⟨hk0,hf,hn0,hm,ht,hx0,ho⟩:=h;simp only at*;subst hs;unfold clT chT rawT rawHT B tyT at*;rcases hk with rfl|rfl|rfl
   all_goals
    simp only[Int.reduceEq,if_true,if_false]at hNM;subst hNM;simp only[vW,seval];refine z8 HX ?_;refine z8 HC ?_;refine z8 HV ?_;refine z8 H1 ?_;refine z8 HA ?_;refine z8 HW ?_;refine z7 HF ?_;simp only[vW,seval,d0,e1,neqTy,et,clV];refine z7 HZ ?_;simp only[vW,seval,e0,e2];exact z14 HS'
  ·obtain⟨p0,pv⟩:=told_of hfit hs hi;have HP:=sc_EX (a0:=a0) (a1:=a1) (i1.1.x.rd hs);have HE:=sc_EX (a0:=a0) (a1:=a1) (evEval_ok m c (rdV h.x).1 vals (clsR_ok hfit.r).1 (i1.1.x.sm hs) (fit_few hfit) (by rw[hfit.len];omega));rw[pv]at HE;have hb:(h.x==[])=false:=by simpa using hs
   generalize(tellV c h.x h.t).val c h.t vals=y at*;generalize rdV h.x=r at*;unfold parT at HP;rw[if_pos p0,p0]at HP;unfold evalT at HE;rw[if_pos rfl]at HE;generalize z39 c h=fs' at*;generalize valsV c h vals=vs' at*;clear hF r1 hi hfit i1 f1 pv p0;obtain⟨hk0,hf,hn0,hm,ht,hx0,ho⟩:=h;simp only at*;unfold clT chT rawT rawHT B tyT at*;rcases hk with rfl|rfl|rfl
   all_goals
    simp only[Int.reduceEq,if_true,if_false]at hNM;subst hNM;simp only[vW,seval];refine z8 HX ?_;refine z8 HC ?_;refine z8 HV ?_;refine z8 H1 ?_;refine z8 HA ?_;refine z8 HW ?_;refine z7 HF ?_;simp only[vW,seval,d0,e1,neqTy,et,clV];refine z7 HZ ?_;simp only[vW,seval,e0,hb];refine z8 HP ?_;refine z7 HE ?_;simp only[vW,seval,e2];exact z14 HS
 ·have k1:¬h.k=1:=fun e=>hk (.inl e);have k4:¬h.k=4:=fun e=>hk (.inr (.inl e));have k5:¬h.k=5:=fun e=>hk (.inr (.inr e));unfold clT chT rawT rawHT B at*;simp only[vW,seval];refine z8 HX ?_;refine z8 HC ?_;refine z8 HV ?_;refine z7 H1 ?_;simp only[vW,seval,k1,k4,k5]
end Go.Proofs.YtcpaleaajdilgaaGreatDoor
end
