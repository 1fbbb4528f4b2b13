/- Merged texts: Pk2 Cd10 Yd2. No statement of the program is proved here. -/
import Derived.Test.YtbkgnekfigknhaaGreatDoorQ39
set_option linter.unusedSimpArgs false
set_option linter.unusedVariables false
set_option maxRecDepth 100000
set_option maxHeartbeats 8000000
section
namespace Go.Mor
open Go
theorem zjg(f g:Fld):z94 f g=true ↔ f=g:=by
 obtain⟨n,⟨k,o⟩,ix⟩:=f;obtain⟨n',⟨k',o'⟩,ix'⟩:=g
 grind [z94]
theorem zb0:∀(l q:List Fld),z1N l q=true ↔ l=q
 |[],[]=>by simp[z1N]
 |[],_::_=>by simp[z1N]
 |_::_,[]=>by simp[z1N]
 |f::l,g::q=>by rw[z1N,Bool.and_eq_true,zjg,zb0 l q,List.cons.injEq]
end Go.Mor
end

section
namespace Go.Sh.Cd10
open Go Go.Sh
theorem tf_124:gQ ⟨4,137,[],[],[[8],[25],[0,26027],[1,28032],[33039],[2003,9011,40041],[2,8,40,42050],[51059],[60066],[67074],[75080],[15019,81101],[3,9014,102],[3,8,102105],[10012,106115],[13014,20,116122],[9,21024,123136]],[.tmp 8],false⟩:=gK
end Go.Sh.Cd10
end

section
namespace Go.Proofs.YtbkgnekfigknhaaGreatDoor
open Go Go.RowKit Go.Mor Go.Sh Go.Sh.Cd1 Go.Sh.Cd7 Go.Sh.Cd10
theorem zc5(c:Cls):z49 c c=true:=by unfold z49;rw[(zb0 _ _).2 rfl];simp
theorem zc6(m:Nat)(l:List RawL)(n a0:Int)(vals:List Int)(hx:∀x∈l,RawLOk x)(hlen:l.length≤9223372036854775807)(hn:I64 n)(h0:I64 a0)(hv:vals.length≤9223372036854775807):
  zC (glE m) 4 [.pv (.sl 3 (rlR l)),I n,I a0,.pv (.sl 1 (iiR vals))] [] (B true) []:=by
 have HX:=za5 m;have HS:=z6F (glE m) l hx hlen;obtain⟨hs,hs4,hne⟩:=z5l l;generalize z2V l=s at*;have hsl:0<s.length:=List.length_pos_iff.2 hne;obtain⟨k,ek,hk⟩:=z3j n hsl;obtain⟨ln,eln⟩:∃x,s[k]?=some x:=⟨_,gE hk⟩
 obtain⟨hg,hg5,_⟩:=hs.g ln (gM eln);have hlo:=z5O m hg;have HL:=z6S m s (by omega) (zah m hs) (by rw[hs.r.check]) eln;have P0:=z3i (glE m) n (s.length:Int) hn (by omega);rw[ek]at P0;have d0:(k:Int)<(s.length:Int):=by omega
 refine za tf_124 ?_;by_cases hz:ln.hs.length=0
 ·have d1:((ln.hs.length:Nat):Int)=0:=by omega
  unfold scT B at*;simp only[vW,seval];refine z8 HX ?_;refine z8 HS ?_;simp only[vW,seval,z0d];refine z7 P0 ?_;simp only[vW,seval,z0d,z1t,eln,lnR,z0n,d0,d1]
 have d1:¬((ln.hs.length:Nat):Int)=0:=by omega
 obtain⟨f,ef,hf⟩:=z3j a0 (show 0<ln.hs.length by omega);have P1:=z3i (glE m) a0 (ln.hs.length:Int) h0 (by omega);rw[ef]at P1;have d2:(f:Int)<(ln.hs.length:Int):=by omega
 obtain⟨h,ex⟩:∃h,ln.hs[f]?=some h:=⟨_,gE hf⟩
 obtain⟨n1,n2,n3⟩:=z7L hlo ex;have A1:=z74 hlo HL (v:=f) (by omega);have A2:=z74 hlo HL (v:=f+1) (by omega);have hrf:zd (zj ln f).1=true:=z1a (z0p hg.r (by omega));have hrt:zd (zj ln (f+1)).1=true:=z1a (z0p hg.r (by omega));have hfit:=zev hrf vals (many:=3) (by decide);have HV:=z7K (glE m) (zj ln f).1 vals 3 (fun _ h=>z5x hrf h) (by omega) hv (by decide);generalize z2z (zj ln f).1.fs vals 3=v at*;obtain⟨v1,v2,v3⟩:=z7b hg.r ex hfit;have HA:=z5J m _ h n2 (hlo.h h (gM ex)) (by omega);rw[n1]at HA;have HW:=z7P m _ h v n2 (hlo.h h (gM ex)) (fun _ hne=>zcD (glE m) v (z2G hfit) hne (fun y hy=>(z32 hfit y hy).1)) (z32 hfit) (z2G hfit);rw[v3]at HW;have C1:=z3T hlo HL (fr:=f) (tt:=f+1) (by omega) (by omega) v hfit;have ec:z1K ln f v (f+1-f)=z0B (zj ln f).1 h v:=by
  rw[show f+1-f=0+1 by omega];show z0B (zj ln (f+0)).1 (ln.hs.getD (f+0) ch0) v=_;rw[Nat.add_zero,List.getD_eq_getElem?_getD,ex];rfl
 rw[ec]at C1;have S0:=z82 (glE m) (zj ln (f+1)).1 (zj ln (f+1)).1 (by have:=(z0V hrt).2;omega) (by have:=(z0V hrt).2;omega);rw[zc5]at S0;have S1:=z4W (glE m) (z0B (zj ln f).1 h v) (fun x hx=>(z32 v2 x hx).1) (by have:=z2G v2;omega);have w1:=wS f;generalize(zj ln f).1=c at*;generalize(zj ln (f+1)).1=d at*;generalize z0B c h v=u at*;have d8:¬(8:Int)<((flR c.fs).length:Int):=by rw[z1R];omega
 unfold z5I ziE scT clT chT B at*;simp only[vW,seval];refine z8 HX ?_;refine z8 HS ?_;simp only[vW,seval,z0d];refine z7 P0 ?_;simp only[vW,seval,z0d,z1t,eln,lnR,z0n,d0,d1];refine z7 P1 ?_;simp only[vW,seval,z0d,z1t,eln,lnR,z0n,z2o,chR,ex,d0,d2,w1];refine z8 A1 ?_;simp only[vW,seval,w1];refine z8 A2 ?_;refine z8 HA ?_;refine z8 S0 ?_;simp only[vW,seval,d8];refine⟨fun h=>h.elim,?_⟩;refine z8 HV ?_;simp only[vW,seval,w1];refine z8 C1 ?_;refine z8 HW ?_;exact ze S1
end Go.Proofs.YtbkgnekfigknhaaGreatDoor
end
