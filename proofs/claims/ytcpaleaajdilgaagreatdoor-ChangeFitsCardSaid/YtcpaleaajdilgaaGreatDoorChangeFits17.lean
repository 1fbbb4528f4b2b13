/- Merged texts: PrX Cd7 Pk5 Zx1 Zx4. No statement of the program is proved here. -/
import Derived.Test.YtcpaleaajdilgaaGreatDoorM1
import Derived.Test.YtcpaleaajdilgaaGreatDoorM2
import Derived.Test.YtcpaleaajdilgaaGreatDoorM3
import Derived.Test.YtcpaleaajdilgaaGreatDoorM4
import Derived.Test.YtcpaleaajdilgaaGreatDoorM5
import Derived.Test.YtcpaleaajdilgaaGreatDoorM6
import Derived.Test.YtcpaleaajdilgaaGreatDoorM7
import Derived.Test.YtcpaleaajdilgaaGreatDoorM8
import Derived.Test.YtcpaleaajdilgaaGreatDoorM9
import Derived.Test.YtcpaleaajdilgaaGreatDoorM10
import Derived.Test.YtcpaleaajdilgaaGreatDoorM11
import Derived.Test.YtcpaleaajdilgaaGreatDoorM12
import Derived.Test.YtcpaleaajdilgaaGreatDoorM13
import Derived.Test.YtcpaleaajdilgaaGreatDoorM14
import Derived.Test.YtcpaleaajdilgaaGreatDoorM15
import Derived.Test.YtcpaleaajdilgaaGreatDoorM16
set_option linter.unusedSimpArgs false
set_option linter.unusedVariables false
set_option maxRecDepth 100000
set_option maxHeartbeats 8000000
section
namespace Go.Proofs.YtcpaleaajdilgaaGreatDoor
open Go Go.RowKit Go.Mor Go.Sh
theorem sc_0X{a0 a1:Addr}{m f:Nat}{xs:List TV}{os:List MO}{y:TV}{os':List MO}(h:zC (gl0 m) f xs os y os'):zC (glX a0 a1 m) f xs os y os':=sc_EX (sc_0E h)
end Go.Proofs.YtcpaleaajdilgaaGreatDoor
end

section
namespace Go.Sh.Cd7
open Go Go.Sh
theorem tf_108:gQ ⟨6,148,[],[],[[0,2,6],[21],[22],[1,3,5,7,23],[3,6,23025],[1,26028],[5,29034],[35040],[41047],[11,48],[7010,12015,49064],[6,16,49,65070],[13,15,17,71091],[7010,12,14,92],[6,92],[93096],[6,98099,146],[97,100107],[108119],[19020,120145],[7010,12,14,18,146],[7010,12,14,18,147]],[.tmp 6],false⟩:=gK
end Go.Sh.Cd7
end

section
namespace Go.Mor
open Go
theorem Put.keeps{c:Cls}{h:Chg}{vals:List V}{i:Nat}{gs:List Fld}{ws:List V}(hp:Put c h vals i gs ws)(hf:FitC c vals){j:Nat}{f:Fld}{v:V}(hj:c.fs[j]?=some f)(hv:vals[j]?=some v)(hne:f.n≠h.f):
  ∃k:Nat,(z39 c h)[k]?=some f∧(valsV c h vals)[k]?=some v:=by
 have hle:=hp.le;have hl:=hf.len;have hln:=hp.len;rw[hp.fs,hp.vs];have hji:j≠i:=fun e=>by subst e;exact hne (hp.own f hj)
 by_cases hlt:j<i
 ·refine⟨j,?_,?_⟩
  ·grind [z126]
  ·grind [z126]
 ·refine⟨j+gs.length-1,?_,?_⟩
  ·grind [z126]
  ·grind [z126]
end Go.Mor
end

section
namespace Go.Proofs.YtcpaleaajdilgaaGreatDoor
open Go Go.RowKit Go.Mor Go.Sh Go.Sh.Cd1 Go.Sh.Cd7
theorem ap_no{c:Cls}{vals:List V}{h:Chg}(hf:FitC c vals)(ho:okV c h=false):applyV c h=(⟨[],[]⟩,70)∧valsA c h vals=([],70):=by
 unfold applyV valsA;rw[hf.chk,hf.r,ho];exact⟨rfl,rfl⟩
theorem changeFits_ok(a0 a1:Addr)(m:Nat)(x:Raw)(l:List Int)(a:RawH)(hx:RawOk x)(hl:l.length≤9223372036854775807)(ha:RawHOk a):
  zC (glX a0 a1 m) 6 [rawT x,.pv (.sl 1 (iiR l)),rawHT a] [] (.pv (.v (.bool true))) []:=by
 have HX:=ex7_ok a0 a1 m;have HC:=classOf4_ok (glX a0 a1 m) x hx;have hg:=classOf_good x;have hn:=classOf_nmL x;have hc6:=hg.len;have HV:=valsOf4_ok (glX a0 a1 m) (z52 x) l 5 (fun _ hf=>hg.type hf) (by omega) hl (by decide);have hvl:=z187 (z52 x).fs l 5;have hfit:FitC (z52 x) (mkVals (z52 x).fs l 5):=⟨hg.right,hvl,fun i f v hf hv=>vals_fit hg l (by decide) hf hv⟩
 generalize mkVals (z52 x).fs l 5=vals at*;generalize z52 x=c at*;have H1:=chgOf_ok (glX a0 a1 m) a c ha hg hn;have i1:=chIn_ok m (chgOf_in a hg hn);generalize chgOf a c=h at*;have HA:=ap_ok (a0:=a0) (a1:=a1) hfit i1.1;have HW:=va_ok (a0:=a0) (a1:=a1) hfit i1.1;refine z10 tf_108 ?_;cases r1:okV c h
 ·rw[r1]at H1;have HR:=sc_EX (a0:=a0) (a1:=a1) (changeRight_ok m c h (clsR_ok hfit.r).1 i1.1);rw[r1]at HR;rw[(ap_no hfit r1).1]at HA;rw[(ap_no hfit r1).2]at HW;unfold clT chT rawT rawHT B applyT valsT at*;simp only[vW,seval];refine z8 HX ?_;refine z8 HC ?_;refine z8 HV ?_;refine z8 H1 ?_;refine z8 HA ?_;refine z8 HW ?_;exact z14 HR
 rw[r1]at H1;rw[(ap_yes hfit r1).1]at HA;rw[(ap_yes hfit r1).2]at HW;obtain⟨i,gs,ws,hp,_,_⟩:=put_of hfit r1;have hF:=hp.fits hfit;have hc8:=clsR_ok hF.r;have HK:=sc_0X (a0:=a0) (a1:=a1) (classCheck_ok m ⟨c.n,z39 c h⟩ (valsV c h vals) hc8.1 (fun v hv=>⟨(fit_few hF v hv).2,by have:=(fit_few hF v hv).1.len;unfold maxLen;omega⟩) (by rw[hF.len];omega));rw[hF.chk]at HK;have HR:=classRight_ok (glX a0 a1 m) ⟨c.n,z39 c h⟩ hc8.1;rw[hF.r]at HR;have hlen:=hfit.len;have key:∀(i:Nat) f v,c.fs[i]?=some f→vals[i]?=some v→f.n≠h.f→∃k:Nat,(z39 c h)[k]?=some f∧(valsV c h vals)[k]?=some v∧k<8∧zC (glX a0 a1 m) 34 [clT ⟨c.n,z39 c h⟩,S (str f.n)] [] (.tuple [I (k:Int),B true]) []∧zC (glX a0 a1 m) 18 [tv v,tv v] [] (B true) []:=fun i f v hi hv hne=>by
  obtain⟨k,e1,e2⟩:=hp.keeps hfit hi hv hne;obtain⟨f1,f2⟩:=fieldT_at hF.r e1;have HF:=field_ok (glX a0 a1 m) ⟨c.n,z39 c h⟩ f.n (by omega);rw[f1]at HF;exact⟨k,e1,e2,f2,HF,same_self _ (fit_few hfit v (gM hv)).1⟩
 have hlc:=(clsR_ok hfit.r).2;generalize z39 c h=fs' at*;generalize valsV c h vals=vs' at*;clear hF r1 hfit i1 hp hc8;obtain⟨hk0,hf,hn0,hm,ht,hx0,ho⟩:=h;simp only at*;unfold clT chT rawT rawHT B applyT valsT checkT at*;simp only[vW,seval];refine z8 HX ?_;refine z8 HC ?_;refine z8 HV ?_;refine z8 H1 ?_;refine z8 HA ?_;refine z8 HW ?_;refine z8 HK ?_;refine z7 HR ?_;simp only[vW,seval,clV];refine v_loop (σ:={i:Nat // i≤c.fs.length}) (fun i=>⟨[(7,.pv (.v (.bool true))),(8,.ptr 8 0),(9,.pv (.sl 4 (V.rows vals))),(10,.ptr 10 0),(12,.ptr 12 0),(14,.pv (.sl 4 (V.rows vs'))),(18,I (i.1:Int))],
  [(8,[S (str c.n),.pv (.sl 4 (flR c.fs))]),(10,[I hk0,S (str hf),S (str hn0),S (str hm),I ht.k,I ht.o,S (str hx0),S (str ho)]),(12,[S (str c.n),.pv (.sl 4 (flR fs'))])],[],[]⟩) (fun i=>c.fs.length-i.1) ⟨0,Nat.zero_le _⟩ ?_ ?_
 ·exact lwA
 rintro⟨i,hi⟩;by_cases hlt:i<c.fs.length
 ·have d1:(i:Int)<(c.fs.length:Int):=by omega
  obtain⟨f,ef⟩:∃f,c.fs[i]?=some f:=⟨_,gE hlt⟩
  obtain⟨v,ev⟩:∃v,vals[i]?=some v:=⟨_,gE (by omega)⟩
  have w1:=wS i;by_cases hne:f.n=hf
  ·have hb:(f.n==hf)=true:=by simpa using hne
   simp only[vW,seval,d1,ef,clV,hb];refine z13 ⟨i+1,hlt⟩ (by show c.fs.length-(i+1)<c.fs.length-i;omega) ?_;apply lw_of<;>simp[leL,lk,sv,Nat.beq,I,S,ES.kill,has,drp,nilT,w1]
  ·have hb:(f.n==hf)=false:=by simpa using hne
   obtain⟨k,e1,e2,k8,HF,HS⟩:=key i f v ef ev hne;have s1:(str f.n==str f.n)=true:=by rw[strB3];simp
   have s2:eqTy ⟨f.t.k,f.t.o⟩ ⟨f.t.k,f.t.o⟩=true:=by simp[eqTy]
   simp only[vW,seval,d1,ef,clV,hb];refine z7 HF ?_;simp only[vW,seval,e1,e2,ef,ev,clV,neqFld,s1,s2];refine z7 HS ?_;simp only[vW,seval];refine z13 ⟨i+1,hlt⟩ (by show c.fs.length-(i+1)<c.fs.length-i;omega) ?_;apply lw_of<;>simp[leL,lk,sv,Nat.beq,I,S,ES.kill,has,drp,nilT,w1]
 ·have d1:¬(i:Int)<(c.fs.length:Int):=by omega
  simp only[vW,seval,d1,clV]
end Go.Proofs.YtcpaleaajdilgaaGreatDoor
end
