/- Merged texts: Pk5 Cd1 Zy2 Cd10 Zn7 Ln6 Zx2 Yd3. No statement of the program is proved here. -/
import Derived.Test.YtbkgnekfigknhaaGreatDoorQ39
set_option linter.unusedSimpArgs false
set_option linter.unusedVariables false
set_option maxRecDepth 100000
set_option maxHeartbeats 8000000
section
namespace Go.Mor
open Go
theorem Put.keeps{c:Cls}{h:Chg}{vals:List V}{i:Nat}{gs:List Fld}{ws:List V}(hp:Put c h vals i gs ws)(hf:FitC c vals){j:Nat}{f:Fld}{v:V}(hj:c.fs[j]?=some f)(hv:vals[j]?=some v)(hne:f.n≠h.f):
  ∃k:Nat,(z0b c h)[k]?=some f∧(z0B c h vals)[k]?=some v:=by
 have hle:=hp.le;have hl:=hf.len;have hln:=hp.len;rw[hp.fs,hp.vs];have hji:j≠i:=fun e=>by subst e;exact hne (hp.own f hj)
 by_cases hlt:j<i
 ·refine⟨j,?_,?_⟩
  ·grind [z2P]
  ·grind [z2P]
 ·refine⟨j+gs.length-1,?_,?_⟩
  ·grind [z2P]
  ·grind [z2P]
end Go.Mor
end

section
namespace Go.Sh.Cd1
open Go Go.Sh
theorem tf_191:gQ ⟨19,9,[],[],[[1000001,4],[2003,5008]],[.tmp 4],false⟩:=gK
end Go.Sh.Cd1
end

section
namespace Go.Proofs.YtbkgnekfigknhaaGreatDoor
open Go Go.RowKit Go.Mor Go.Sh Go.Sh.Cd1
theorem zot(g:Sh.Glob)(x y:V)(hx:VSmall x):zC g 19 [tv x,tv y] [] (.pv (.v (.bool (decide (cmpV x y=0))))) []:=by
 refine z0u tf_191 ?_;exact ze (zaW g x y hx)
end Go.Proofs.YtbkgnekfigknhaaGreatDoor
end

section
namespace Go.Sh.Cd10
open Go Go.Sh
theorem tf_122:gQ ⟨5,152,[],[],[[8],[25],[0,26027],[1,28032],[33038],[39041],[2003,9012,42043],[2,8,42,44048],[49054],[55061],[],[62063],[17,65066,84,96],[64,67075],[76083],[84091],[3,9017,92093],[8,92,94095],[17,96098],[3,12,16,99101],[102109],[10011,15,110116],[14,21,117122],[9,13,18020,22024,123151]],[.tmp 8],false⟩:=gK
end Go.Sh.Cd10
end

section
namespace Go.Proofs.YtbkgnekfigknhaaGreatDoor
open Go Go.RowKit Go.Mor Go.Sh Go.Sh.Cd1 Go.Sh.Cd7
theorem znG{c:Cls}(h:zd c=true):ClsOk c∧c.fs.length≤8:=by
 have hr:=(z0T c).1 h;have key:∀s,zb s=true→z0v s:=fun s hs=>by
  unfold zb at hs;simp only[Bool.and_eq_true,decide_eq_true_eq]at hs;have:=hs.1.1.2;unfold z0v;omega
 refine⟨⟨key _ hr.1,fun f hf=>key _ ?_,by omega⟩,hr.2.1⟩;have:=hr.2.2.1 f hf;unfold zD at this;simp only[Bool.and_eq_true]at this;exact this.1.1
end Go.Proofs.YtbkgnekfigknhaaGreatDoor
end

section
namespace Go.Mor
open Go
theorem zlv{c:Cls}{vals:List V}{h:Chg}(hf:FitC c vals)(ho:okV c h=true){j:Nat}{f:Fld}{v:V}(hj:c.fs[j]?=some f)(hv:vals[j]?=some v)(hk:h.k=1∨h.f≠f.n∨h.k=3∨h.k=6):
  ∃(j':Nat) (g:Fld),(z0b c h)[j']?=some g∧g.n=(if h.k=3∧h.f=f.n then h.n else f.n)∧(z0B c h vals)[j']?=some v:=by
 by_cases h1:h.k=1
 ·refine⟨j,f,?_,by simp[h1],?_⟩
  ·unfold z0b;have:=(gJ hj).1;simp only[h1,if_true];rw[List.getElem?_append_left this,hj]
  ·unfold z0B;have:=(gJ hv).1;simp only[h1,if_true];rw[List.getElem?_append_left this,hv]
 by_cases hn:h.f=f.n
 ·have hk':h.k=3∨h.k=6:=by grind
  have hm:z0G c h=true:=by
   unfold okV at ho;simp only[Bool.and_eq_true]at ho;exact ho.2
  have hh:z0z c.fs h.f=true:=by
   cases hv:z0z c.fs h.f
   ·simp[z0G,h1,hv]at hm
   ·rfl
  obtain⟨f',hf',hn'⟩:=has_at hh;have hd:=((z0T c).1 hf.r).2.2.2;have hi:atV c.fs h.f=j:=hd _ _ f' f hf' hj (by rw[hn',hn]);have hjl:=(gJ hj).1;have key:∀(x:Fld),(z0R c.fs j [x])[j]?=some x:=fun x=>by
   rw[z2P (by omega)];simp
  rcases hk' with hk'|hk'
  ·refine⟨j,⟨h.n,f.t,f.ix⟩,?_,by simp[hk',hn],?_⟩
   ·unfold z0b;simp only[hk',hi,List.getD_eq_getElem?_getD,hj,Option.getD_some];simpa using key ⟨h.n,f.t,f.ix⟩
   ·unfold z0B;simp[hk',hv]
  ·refine⟨j,⟨f.n,f.t, !f.ix⟩,?_,by simp[hk'],?_⟩
   ·unfold z0b;simp only[hk',hi,List.getD_eq_getElem?_getD,hj,Option.getD_some];simpa using key ⟨f.n,f.t, !f.ix⟩
   ·unfold z0B;simp[hk',hv]
 ·obtain⟨i,gs,ws,hp,_⟩:=zeP hf ho;obtain⟨j',e1,e2⟩:=hp.keeps hf hj hv (fun e=>hn e.symm);exact⟨j',f,e1,by simp[hn],e2⟩
def Fol(l:Ln)(v0:List V)(x:V)(i:Nat)(nm:zB):Prop:=∃(j:Nat) (g:Fld),(zj l i).1.fs[j]?=some g∧g.n=nm∧(z1K l 0 v0 i)[j]?=some x
theorem zlu{l:Ln}(hr:z08 l=true){v0:List V}(hf:FitC (zj l 0).1 v0){i:Nat}{h:Chg}(hx:l.hs[i]?=some h){nm:zB}{x:V}(H:Fol l v0 x i nm)(hk:h.k=1∨h.f≠nm∨h.k=3∨h.k=6):
  Fol l v0 x (i+1) (if h.k=3∧h.f=nm then h.n else nm):=by
 obtain⟨j,g,h1,rfl,h2⟩:=H;have hi:=(gJ hx).1;have hfi:FitC (zj l i).1 (z1K l 0 v0 i):=by
  have:=z4z hr hf i (by omega)
  rwa [Nat.zero_add]at this
 obtain⟨s1,s2,_⟩:=z7b hr hx hfi;obtain⟨j',g',e1,e2,e3⟩:=zlv hfi s1 h1 h2 hk;have hv:(zj l (i+1)).1.fs=z0b (zj l i).1 h:=by
  have hn:=z3o hx;rw[z3Z h (z0p hr (by omega))]at hn;rw[hn];unfold z0x;rw[hfi.r,s1];rfl
 have hc:z1K l 0 v0 (i+1)=z0B (zj l i).1 h (z1K l 0 v0 i):=by
  show z0B (zj l (0+i)).1 (l.hs.getD (0+i) ch0) _=_;rw[Nat.zero_add,List.getD_eq_getElem?_getD,hx];rfl
 exact⟨j',g',by rw[hv];exact e1,e2,by rw[hc];exact e3⟩
end Go.Mor
end

section
namespace Go.Proofs.YtbkgnekfigknhaaGreatDoor
open Go Go.RowKit Go.Mor Go.Sh Go.Sh.Cd1 Go.Sh.Cd7
theorem zjl{c:Cls}{k:Nat}{f:Fld}(hr:zd c=true)(h:c.fs[k]?=some f):z1D c.fs f.n=.tuple [I (k:Int),B true]∧k<8:=by
 obtain⟨_,h1,_,h2⟩:=z5Z hr h;have:=(znG hr).2;refine⟨?_,by omega⟩;unfold z1D;rw[h1,if_neg (by omega)]
theorem zkg(g:Sh.Glob){v:V}(h:VFew v):zC g 19 [tv v,tv v] [] (B true) []:=by
 have:=zot g v v h.small;rw[zcn]at this;exact this
section
open Go.Sh.Cd10
theorem zax(m:Nat)(l:List RawL)(n a0:Int)(vals:List Int)(hx:∀x∈l,RawLOk x)(hlen:l.length≤9223372036854775807)(hn:I64 n)(h0:I64 a0)(hv:vals.length≤9223372036854775807):
  zC (glE m) 5 [.pv (.sl 3 (rlR l)),I n,I a0,.pv (.sl 1 (iiR vals))] [] (B true) []:=by
 have HX:=za5 m;have HS:=z6F (glE m) l hx hlen;obtain⟨hs,hs4,hne⟩:=z5l l;generalize z2V l=s at*;have hsl:0<s.length:=List.length_pos_iff.2 hne;obtain⟨k,ek,hk⟩:=z3j n hsl;obtain⟨ln,eln⟩:∃x,s[k]?=some x:=⟨_,gE hk⟩
 obtain⟨hg,hg5,_⟩:=hs.g ln (gM eln);have hlo:=z5O m hg;have HL:=z6S m s (by omega) (zah m hs) (by rw[hs.r.check]) eln;have P0:=z3i (glE m) n (s.length:Int) hn (by omega);rw[ek]at P0;have d0:(k:Int)<(s.length:Int):=by omega
 refine za tf_122 ?_;by_cases hz:ln.c.fs.length=0
 ·have d1:((ln.c.fs.length:Nat):Int)=0:=by omega
  unfold scT B at*;simp only[vW,seval];refine z8 HX ?_;refine z8 HS ?_;simp only[vW,seval,z0d];refine z7 P0 ?_;simp only[vW,seval,z0d,z1t,eln,lnR,z1R,d0,d1]
 have d1:¬((ln.c.fs.length:Nat):Int)=0:=by omega
 obtain⟨f,ef,hf⟩:=z3j a0 (show 0<ln.c.fs.length by omega);have P1:=z3i (glE m) a0 (ln.c.fs.length:Int) h0 (by omega);rw[ef]at P1;have d2:(f:Int)<(ln.c.fs.length:Int):=by omega
 obtain⟨fl,efl⟩:∃x,ln.c.fs[f]?=some x:=⟨_,gE hf⟩
 have hz0:=z2W ln;rw[show z2d ln=(ln.c,0) by simp[z2d,hlo.c]]at hz0;have hfit:=zev hlo.c vals (many:=3) (by decide);have HV:=z7K (glE m) ln.c vals 3 (fun _ h=>z5x hlo.c h) (by have:=(z0V hlo.c).2;omega) hv (by decide);generalize z2z ln.c.fs vals 3=v at*;have hvl:=hfit.len;obtain⟨xv,exv⟩:∃x,v[f]?=some x:=⟨_,gE (by omega)⟩
 have hfit0:FitC (zj ln 0).1 v:=by rw[hz0];exact hfit
 have C1:=z3T hlo HL (fr:=0) (tt:=ln.hs.length) (Nat.zero_le _) (Nat.le_refl _) v hfit0;rw[Nat.sub_zero]at C1;have A1:=z74 hlo HL (v:=ln.hs.length) (Nat.le_refl _);have hfe:=z4z hg.r hfit0 ln.hs.length (by omega);rw[Nat.zero_add]at hfe;have HSm:=zkg (glE m) (z32 hfit xv (gM exv)).1;have hd0:((zj ln ln.hs.length).1.fs.length:Nat)≤8:=(z0V hfe.r).2;have start:Fol ln v xv 0 fl.n:=⟨f,fl,by rw[hz0];exact efl,rfl,exv⟩
 unfold scT clT B at*;simp only[vW,seval];refine z8 HX ?_;refine z8 HS ?_;simp only[vW,seval,z0d];refine z7 P0 ?_;simp only[vW,seval,z0d,z1t,eln,lnR,z1R,d0,d1];refine z7 P1 ?_;simp only[vW,seval,z0d,z1t,eln,lnR,z1R,clV,z0n,efl,d0,d2];refine zl (σ:={x:Nat×zB // x.1≤ln.hs.length∧Fol ln v xv x.1 x.2}) (fun x=>⟨[(3,.pv (.sl 1 (iiR vals))),(9,.pv (.v (.bool true))),(10,.ptr 10 0),(11,I (k:Int)),(12,.ptr 12 0),(13,I (f:Int)),(14,S (str x.1.2)),(15,I (ln.hs.length:Int)),(16,I (x.1.1:Int))],[(10,[.pv (.sl 3 (z1e s))]),(12,[S (str ln.c.n),.pv (.sl 4 (flR ln.c.fs))])],[],[]⟩) (fun x=>ln.hs.length-x.1.1) ⟨(0,fl.n),Nat.zero_le _,start⟩ ?_ ?_
 ·exact lwA
 rintro⟨⟨i,nm⟩,hi,hfol⟩;have hi:i≤ln.hs.length:=hi;have hfol:Fol ln v xv i nm:=hfol;by_cases hlt:i<ln.hs.length
 ·have d3:(i:Int)<(ln.hs.length:Int):=by omega
  obtain⟨h,ex⟩:∃h,ln.hs[i]?=some h:=⟨_,gE hlt⟩
  have w1:=wS i;have nxt:=zlu hg.r hfit0 ex hfol;by_cases k1:h.k=1
  ·have nxt:=nxt (.inl k1);rw[if_neg (by omega)]at nxt;simp only[vW,seval,z0d,z1t,eln,lnR,z0n,z2o,chR,ex,d0,d3,k1,w1];exact zc ⟨(i+1,nm),hlt,nxt⟩ (by show ln.hs.length-(i+1)<ln.hs.length-i;omega) lwA
  cases hp:(h.f==nm)
  ·have hp':h.f≠nm:=by simpa using hp
   have nxt:=nxt (.inr (.inl hp'));rw[if_neg (fun e=>hp' e.2)]at nxt;simp only[vW,seval,z0d,z1t,eln,lnR,z0n,z2o,chR,ex,d0,d3,k1,hp,w1,false_imp_iff,true_and,and_true,forall_const];exact zc ⟨(i+1,nm),hlt,nxt⟩ (by show ln.hs.length-(i+1)<ln.hs.length-i;omega) lwA
  ·have hp':h.f=nm:=by simpa using hp
   by_cases k3:h.k=3
   ·have nxt:=nxt (.inr (.inr (.inl k3)));rw[if_pos ⟨k3,hp'⟩]at nxt;simp only[vW,seval,z0d,z1t,eln,lnR,z0n,z2o,chR,ex,d0,d3,k3,hp,w1,false_imp_iff,true_and,and_true,forall_const];exact zc ⟨(i+1,h.n),hlt,nxt⟩ (by show ln.hs.length-(i+1)<ln.hs.length-i;omega) lwA
   by_cases k6:h.k=6
   ·have nxt:=nxt (.inr (.inr (.inr k6)));rw[if_neg (fun e=>k3 e.1)]at nxt;simp only[vW,seval,z0d,z1t,eln,lnR,z0n,z2o,chR,ex,d0,d3,k6,hp,w1,false_imp_iff,true_and,and_true,forall_const];exact zc ⟨(i+1,nm),hlt,nxt⟩ (by show ln.hs.length-(i+1)<ln.hs.length-i;omega) lwA
   simp only[vW,seval,z0d,z1t,eln,lnR,z0n,z2o,chR,ex,d0,d3,k1,k3,k6,hp,w1,false_imp_iff,true_and,and_true,forall_const]
 have d3:¬(i:Int)<(ln.hs.length:Int):=by omega
 obtain rfl:i=ln.hs.length:=by omega
 obtain⟨j,g,e1,rfl,e2⟩:=hfol;obtain⟨f1,f2⟩:=zjl hfe.r e1;have HF:=z4A (glE m) (zj ln ln.hs.length).1 g.n (by omega);rw[f1]at HF;have hjl:=(gJ e2).1;have d4:(j:Int)<((z1K ln 0 v ln.hs.length).length:Int):=by omega
 have d5:(f:Int)<(v.length:Int):=by omega
 generalize(zj ln ln.hs.length).1=d at*;generalize z1K ln 0 v ln.hs.length=u at*;unfold clT B at HF;simp only[vW,seval,d3];refine z8 HV ?_;refine z8 C1 ?_;refine z8 A1 ?_;refine z8 HF ?_;refine⟨fun _=>⟨hjl,fun b hb=> ?_⟩,fun h=>absurd d4 h⟩;rw[e2]at hb;obtain rfl:=Option.some.inj hb;refine⟨by omega,fun b hb=> ?_⟩;rw[exv]at hb;obtain rfl:=Option.some.inj hb;exact ze HSm
end
end Go.Proofs.YtbkgnekfigknhaaGreatDoor
end
