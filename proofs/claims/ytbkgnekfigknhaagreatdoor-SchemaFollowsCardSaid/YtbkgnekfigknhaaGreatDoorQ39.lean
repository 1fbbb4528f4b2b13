/- Merged texts: Yb2 Yd1. No statement of the program is proved here. -/
import Derived.Test.YtbkgnekfigknhaaGreatDoorQ38
set_option linter.unusedSimpArgs false
set_option linter.unusedVariables false
set_option maxRecDepth 100000
set_option maxHeartbeats 8000000
section
namespace Go.Proofs.YtbkgnekfigknhaaGreatDoor
open Go Go.RowKit Go.Mor Go.Sh Go.Sh.Cd1 Go.Sh.Cd7 Go.Sh.Cd10
def c8:Cls:=⟨[99],[⟨[97],⟨1,0⟩,false⟩]⟩
def h8:Chg:=⟨1,[],[98],[],⟨1,0⟩,[97,32,42,32,50],[]⟩
def d8:Cls:=⟨[99],[⟨[97],⟨1,0⟩,false⟩,⟨[98],⟨1,0⟩,false⟩]⟩
def l8:Ln:=⟨c8,[h8]⟩
def n8(n:Int):V:=.mk 1 n [] []
theorem zdM:zd c8=true:=by kernel_rfl
theorem zqW:z0x c8 h8=(d8,0):=by kernel_rfl
theorem zpl:z08 l8=true:=by kernel_rfl
theorem zqY:zj l8 1=(d8,0):=by kernel_rfl
theorem zpj:zj l8 0=(c8,0):=by kernel_rfl
theorem zqZ:z1K l8 0 [n8 3] 1=[n8 3,n8 6]:=by kernel_rfl
theorem znc(m:Nat):ChOk m h8:=⟨by unfold z0v h8;decide,by unfold z0v h8;decide,by unfold z0v h8;decide,z9z m (r:=rdV h8.x) (by kernel_rfl) (by unfold h8;decide),zfj m⟩
theorem l8_s:RightS [l8]:=⟨by decide,fun l hl=>by simp at hl;subst hl;exact zpl,fun i j a b hi hj _=>by
 have h1:=(gJ hi).1;have h2:=(gJ hj).1;simp at h1 h2;omega⟩
theorem zdu(m:Nat):LnOk m l8:=⟨zpl,fun x hx=>by unfold l8 at hx;simp at hx;subst hx;exact znc m⟩
theorem zlN(m:Nat):z7X m [l8]:=fun l hl=>by
 simp at hl;subst hl;exact⟨(z0V zdM).1,(zdu m).h⟩
theorem zpk:FitC (zj l8 0).1 [n8 3]:=by
 rw[zpj];refine⟨zdM,rfl,fun i f v hf hv=> ?_⟩
 match i with
 |0=>cases hf;cases hv;show _=true;kernel_rfl
 |i+1=>cases hv
theorem ziM(m:Nat)(ls:List Ln)(hl:ls.length≤1000)(hs:z7X m ls)(he:(z5K ls).2=0)(c:Cls)(hc:zd c=true){k:Nat}(hn:z1i ls c.n=(k,true)):zC (glE m) 26 [scT ls,clT c] [] (.tuple [.agg [zu],I 80]) []:=by
 have HC:=z69 m ls hl hs;have HR:=z0y (glE m) c (z0V hc).1;have HN:=z7p (glE m) ls c.n hl;rw[he]at HC;rw[hc]at HR;rw[hn]at HN;refine za tf_162 ?_;unfold scT clT B zu at*;simp only[vW,seval];refine z8 HC ?_;refine z8 HR ?_;refine z8 HN ?_;simp only[vW,seval,false_imp_iff,and_true,true_and,forall_const]
theorem zoG:Wk (.agg [zu]) (scT []):=z64 rfl fun j a b ha hb=>by
 match j with
 |0=>cases ha;cases hb;exact z2F 3
 |j+1=>cases ha
theorem last_bad'(m:Nat){ls:List Ln}{n e:Int}(he:e≠0)(HL:zC (glE m) 33 [scT ls,I n] [] (zex e) []):zC (glE m) 28 [scT ls,I n] [] (.tuple [I 0,I e]) []:=zlO he HL
theorem za5(m:Nat):zC (glE m) 7 [] [] (B true) []:=by
 have HL:zC (glE m) 33 [scT [l8],I 0] [] (.tuple [.agg (lnC l8),I 0]) []:=z6S m [l8] (by decide) (zlN m) (by rw[l8_s.check]) (k:=0) rfl;have A1:zC (glE m) 26 [.agg [zu],clT c8] [] (.tuple [scT [⟨c8,[]⟩],I 0]) []:=(znw m c8 zdM).inp rfl (fun j c d hc hd=>by
  match j with
  |0=>cases hc;cases hd;exact zoG
  |1=>cases hc;cases hd;exact .refl _
  |j+2=>cases hc)
 have T1:=zmI m c8 h8 zdM (znc m) (by rw[zqW]);have V1:=z3T (zdu m) HL (fr:=0) (tt:=1) (Nat.zero_le _) (Nat.le_refl _) [n8 3] zpk;rw[show 1-0=1 from rfl,zqZ]at V1;have V1':zC (glE m) 12 [scT [l8],I 0,I 0,I 1,.pv (.sl 4 ([n8 3].map rvN))] [] (.tuple [.pv (.sl 4 (V.rows [n8 3,n8 6])),I 0]) []:=V1.inp rfl (fun j c d hc hd=>by
  match j with
  |0=>cases hc;cases hd;exact .refl _
  |1=>cases hc;cases hd;exact .refl _
  |2=>cases hc;cases hd;exact .refl _
  |3=>cases hc;cases hd;exact .refl _
  |4=>cases hc;cases hd;exact zgW (by intro v hv;simp at hv;subst hv;rfl)
  |j+5=>cases hc)
 have P0:zC (glE m) 10 [scT [l8],I 0,I 0] [] (.tuple [clT c8,I 0]) []:=by
  have:=z74 (zdu m) HL (v:=0) (Nat.zero_le _);rw[zpj]at this;exact this
 have P1:zC (glE m) 10 [scT [l8],I 0,I 1] [] (.tuple [clT d8,I 0]) []:=by
  have:=z74 (zdu m) HL (v:=1) (Nat.le_refl _);rw[zqY]at this;exact this
 have P2:=zoS HL 2 (.inr (by decide));have A2:=ziM m [l8] (by decide) (zlN m) (by rw[l8_s.check]) c8 zdM (l8_s.find (k:=0) (x:=l8) rfl);have L0:zC (glE m) 28 [scT [l8],I 0] [] (.tuple [I 1,I 0]) []:=znX HL;have F0:zC (glE m) 29 [scT [l8],S (str [99])] [] (.tuple [I 0,B true]) []:=by
  have:=z7p (glE m) [l8] [99] (by decide);rw[show z1i [l8] [99]=(0,true) from l8_s.find (k:=0) (x:=l8) rfl]at this;exact this
 have L1:=last_bad' m (by decide) (zlS m [l8] (by decide) (zlN m) 1 (by rw[l8_s.check]) (.inr (by decide)));have V2:=ziT HL 1 0 (.inr (.inr (by decide))) zu;have SV:=z4W (glE m) [n8 3,n8 6] (by intro v hv;simp at hv;rcases hv with rfl|rfl<;>exact(zqT rfl (by decide)).1) (by decide);have SV':zC (glE m) 14 [.pv (.sl 4 (V.rows [n8 3,n8 6])),.pv (.sl 4 ([n8 3,n8 6].map rvN))] [] (B true) []:=SV.inp rfl (fun j c d hc hd=>by
  match j with
  |0=>cases hc;cases hd;exact .refl _
  |1=>cases hc;cases hd;exact zgW (by intro v hv;simp at hv;rcases hv with rfl|rfl<;>rfl)
  |j+2=>cases hc)
 have S1:=zf3 (glE m) [l8] [l8] (by decide) (by intro l hl;simp at hl;subst hl;exact⟨by decide,by decide⟩) (by intro l hl;simp at hl;subst hl;decide);rw[show z2U z4t [l8] [l8]=true by kernel_rfl]at S1;have S2:=zf3 (glE m) [⟨c8,[]⟩] [l8] (by decide) (by intro l hl;simp at hl;subst hl;exact⟨by decide,by decide⟩) (by intro l hl;simp at hl;subst hl;decide);rw[show z2U z4t [⟨c8,[]⟩] [l8]=false by kernel_rfl]at S2;have T1:zC (glE m) 27 [scT [⟨c8,[]⟩],I 0,chT h8] [] (.tuple [scT [l8],I 0]) []:=T1;clear V1 SV;generalize V.rows [n8 3,n8 6]=r1 at*;unfold scT at*;generalize z1e [l8]=r8 at*;generalize z1e [⟨c8,[]⟩]=r0 at*;unfold clT chT flR c8 d8 h8 n8 rvN zu B at*;simp only[List.map_cons,List.map_nil]at*;refine z0u tf_125 ?_;refine z8 A1 ?_;refine z8 T1 ?_;refine z8 V1' ?_;refine z8 P0 ?_;refine z8 P1 ?_;refine z8 P2 ?_;refine z8 A2 ?_;refine z8 L0 ?_;refine z8 F0 ?_;refine z8 L1 ?_;refine z8 V2 ?_;refine z8 SV' ?_;refine z8 S1 ?_;exact ze S2
theorem znF(m:Nat){h:Chg}(hi:ChRd h):ChOk m h:=by
 have key:∀s,zdF s→TxOk m s:=fun s hs=>by
  rcases hs with rfl|⟨h2,r,hr⟩
  ·exact zfj m
  ·exact z9z m hr (by omega)
 have sh:∀s:zB,s.length≤20→z0v s:=fun s h=>by unfold z0v;omega
 exact⟨sh _ hi.f,sh _ hi.n,sh _ hi.m,key _ hi.x,key _ hi.o⟩
theorem z5O(m:Nat){l:Ln}(h:GoodL l):LnOk m l:=⟨h.r,fun x hx=>znF m (h.h x hx)⟩
theorem zah(m:Nat){s:List Ln}(h:GoodS s):z7X m s:=fun l hl=>⟨(z0V (z5O m (h.g l hl).1).c).1,(z5O m (h.g l hl).1).h⟩
end Go.Proofs.YtbkgnekfigknhaaGreatDoor
end
