/- Merged texts: Zu8 Zu9 Zy5 Zx1 Pk8 Zf4 Zx3 CSChPrinted. No statement of the program is proved here. -/
import Derived.Test.YtcpaleaajdilgaaGreatDoorQ41
set_option linter.unusedSimpArgs false
set_option linter.unusedVariables false
set_option maxRecDepth 100000
set_option maxHeartbeats 8000000
section
namespace Go.Proofs.YtcpaleaajdilgaaGreatDoor
open Go Go.RowKit Go.Mor Go.Sh Go.Sh.Cd1
section
open Go.Sh.Cd7
theorem zlb{c:Cls}(h:zn c=true):ClsOk c∧c.fs.length≤8:=by
 have hr:=(z2f c).1 h;have key:∀s,zb s=true→z0t s:=fun s hs=>by
  unfold zb at hs;simp only[Bool.and_eq_true,decide_eq_true_eq]at hs;have:=hs.1.1.2;unfold z0t;omega
 refine⟨⟨key _ hr.1,fun f hf=>key _ ?_,by omega⟩,hr.2.1⟩;have:=hr.2.2.1 f hf;unfold zG at this;simp only[Bool.and_eq_true]at this;exact this.1.1
theorem zn1:I64 0:=⟨by decide,by decide⟩
theorem zjM{i:Nat}(h:i<6):([[PV.v (.string ⟨#[110,101,119,95,49]⟩)],[.v (.string ⟨#[109,111,114,101]⟩)],[.v (.string ⟨#[122,57]⟩)],[.v (.string ⟨#[97]⟩)],[.v (.string ⟨#[110,97,109,101]⟩)],[.v (.string ⟨#[107,105,100,115]⟩)]]:List (List PV))[i]?=some [.v (.string (str (nmH (i:Int))))]:=by
 have:i=0∨i=1∨i=2∨i=3∨i=4∨i=5:=by omega
 rcases this with rfl|rfl|rfl|rfl|rfl|rfl<;>rfl
theorem zkk{s:zB}(h:s=[]∨s∈exL):RTx s:=by
 rcases h with rfl|h
 ·exact⟨⟨(V.nil,0,50),by kernel_rfl⟩,fun h=>absurd rfl h⟩
 ·obtain⟨_,h2,r,hr,_⟩:=z5v h;exact⟨⟨r,hr⟩,(z4M 0 hr (by omega)).sm⟩
theorem zla(g:Sh.Glob)(x:RawH)(c:Cls)(hx:RawHOk x)(hg:GoodC c)(hn:∀f∈c.fs,f.n∈nmL):zC g 23 [z6d x,clT c] [] (.tuple [chT (z5Y x c),B (okV c (z5Y x c))]) []:=by
 have hc6:=hg.len;have hcl:=(zlb hg.right).1;have hin:=zdM x hg hn;have sh:∀s:zB,s.length≤20→z0t s:=fun s h=>by unfold z0t;omega
 have HR:=zeR g c (z5Y x c) hcl (sh _ hin.f) (sh _ hin.n) (sh _ hin.m) (zkk hin.x) (zkk hin.o);have HC:=z9M g ⟨0,[⟨0,x.t.k,x.t.o,false⟩]⟩ ⟨zn1,fun r hr=>by obtain rfl:=List.mem_singleton.1 hr;exact⟨zn1,hx.tk,hx.ot⟩,by simp⟩;have hcf:z1Q ⟨0,[⟨0,x.t.k,x.t.o,false⟩]⟩=⟨nmC 0,[⟨nmF 0,tyH x.t,false⟩]⟩:=rfl;rw[hcf]at HC;have PK:=z3R g x.k 6 hx.k (by decide);have PN:=z3R g x.n 6 hx.n (by decide);have PM:=z3R g x.m 6 hx.m (by decide);have bk:=zF x.k 6 (by decide);have bn:=zF x.n 6 (by decide);have bm:=zF x.m 6 (by decide);have E1:=ze0 g x.x (tyH x.t) c hx.x (by omega) hn;have E2:=ze0 g x.o (tyH x.t) c hx.o (by omega) hn;obtain⟨jn,hjn⟩:=Int.eq_ofNat_of_zero_le bn.1;obtain⟨jm,hjm⟩:=Int.eq_ofNat_of_zero_le bm.1;have en:=zjM (i:=jn) (by omega);have em:=zjM (i:=jm) (by omega);have e0:=bS [];obtain⟨h,hh⟩:∃h,z5Y x c=h:=⟨_,rfl⟩
 rw[hh]at HR ⊢;unfold z5Y at hh;rw[hjn,hjm]at hh;rw[hjn]at PN;rw[hjm]at PM;have wk:IntKind.i64.wrap (1+Go.Mor.pick x.k 6)=1+Go.Mor.pick x.k 6:=wrap64 (by omega) (by omega);clear hin
 dsimp only at hh
 generalize Go.Mor.pick x.k 6=k at*;generalize nmH (jn:Int)=nn at*;generalize nmH (jm:Int)=mm at*;generalize z4P x.x (tyH x.t) c=xx at*;generalize z4P x.o (tyH x.t) c=oo at*;generalize tyH x.t=t at*;obtain⟨tk,ot⟩:=t;generalize hfn:(if c.fs=[] then [] else(c.fs.getD (Go.Mor.pick x.f c.fs.length).toNat z4e).n)=fn at hh;generalize hR:okV c h=R at*;have hk:k=0∨k=1∨k=2∨k=3∨k=4∨k=5:=by omega
 refine za tf_112 ?_;unfold z6d clT tyT B z7A at*;simp only[vW,seval];refine z7 HC ?_;simp only[vW,seval,clV];refine z7 PK ?_;simp only[vW,seval,wk];refine z7 PN ?_;simp only[vW,seval,en];refine z7 PM ?_;simp only[vW,seval,em];refine z8 E1 ?_;refine z7 E2 ?_;have hfs:(c.fs=[]∧fn=[]∧¬(0:Int)<(c.fs.length:Int))∨(∃(j:Nat) (y:Fld),(0:Int)<(c.fs.length:Int)∧zC g 25 [I x.f,I (c.fs.length:Int)] [] (I (j:Int)) []∧c.fs[j]?=some y∧fn=y.n):=by
  by_cases h0:c.fs=[]
  ·rw[if_pos h0]at hfn;exact .inl ⟨h0,hfn.symm,by rw[h0];decide⟩
  ·have hlp:0<c.fs.length:=List.length_pos_iff.2 h0;have d0:(0:Int)<(c.fs.length:Int):=by omega
   have PF:=z3R g x.f (c.fs.length:Int) hx.f d0;have bf:=zF x.f (c.fs.length:Int) d0;obtain⟨j,hj⟩:=Int.eq_ofNat_of_zero_le bf.1;rw[hj]at PF;obtain⟨y,ey⟩:∃y,c.fs[j]?=some y:=⟨_,gE (by omega)⟩
   rw[if_neg h0,hj,Int.toNat_natCast,Go.Mor.getD_of ey]at hfn;exact .inr ⟨j,y,d0,PF,ey,hfn.symm⟩
 clear hfn;rcases hk with rfl|rfl|rfl|rfl|rfl|rfl
 ·obtain rfl:h=⟨1,[],nn,[],⟨tk,ot⟩,xx,[]⟩:=by rw[←hh];rfl
  clear hh;rcases hfs with⟨h0,rfl,d0⟩|⟨j,y,d0,PF,ey,rfl⟩
  ·unfold chT at*;try unfold ty0 at*
   simp only[vW,seval,d0,e0,clV];refine z8 HR ?_;try trivial
  ·unfold chT at*;try unfold ty0 at*
   simp only[vW,seval,d0,clV];refine z7 PF ?_;simp only[vW,seval,clV,ey,e0];refine z8 HR ?_;try trivial
 ·obtain rfl:h=⟨2,fn,[],[],ty0,[],[]⟩:=by rw[←hh];rfl
  clear hh;rcases hfs with⟨h0,rfl,d0⟩|⟨j,y,d0,PF,ey,rfl⟩
  ·unfold chT at*;try unfold ty0 at*
   simp only[vW,seval,d0,e0,clV];refine z8 HR ?_;try trivial
  ·unfold chT at*;try unfold ty0 at*
   simp only[vW,seval,d0,clV];refine z7 PF ?_;simp only[vW,seval,clV,ey,e0];refine z8 HR ?_;try trivial
 ·obtain rfl:h=⟨3,fn,nn,[],ty0,[],[]⟩:=by rw[←hh];rfl
  clear hh;rcases hfs with⟨h0,rfl,d0⟩|⟨j,y,d0,PF,ey,rfl⟩
  ·unfold chT at*;try unfold ty0 at*
   simp only[vW,seval,d0,e0,clV];refine z8 HR ?_;try trivial
  ·unfold chT at*;try unfold ty0 at*
   simp only[vW,seval,d0,clV];refine z7 PF ?_;simp only[vW,seval,clV,ey,e0];refine z8 HR ?_;try trivial
 ·obtain rfl:h=⟨4,fn,[],[],⟨tk,ot⟩,xx,[]⟩:=by rw[←hh];rfl
  clear hh;rcases hfs with⟨h0,rfl,d0⟩|⟨j,y,d0,PF,ey,rfl⟩
  ·unfold chT at*;try unfold ty0 at*
   simp only[vW,seval,d0,e0,clV];refine z8 HR ?_;try trivial
  ·unfold chT at*;try unfold ty0 at*
   simp only[vW,seval,d0,clV];refine z7 PF ?_;simp only[vW,seval,clV,ey,e0];refine z8 HR ?_;try trivial
 ·obtain rfl:h=⟨5,fn,nn,mm,⟨tk,ot⟩,xx,oo⟩:=by rw[←hh];rfl
  clear hh;rcases hfs with⟨h0,rfl,d0⟩|⟨j,y,d0,PF,ey,rfl⟩
  ·unfold chT at*;try unfold ty0 at*
   simp only[vW,seval,d0,e0,clV];refine z8 HR ?_;try trivial
  ·unfold chT at*;try unfold ty0 at*
   simp only[vW,seval,d0,clV];refine z7 PF ?_;simp only[vW,seval,clV,ey,e0];refine z8 HR ?_;try trivial
 ·obtain rfl:h=⟨6,fn,[],[],ty0,[],[]⟩:=by rw[←hh];rfl
  clear hh;rcases hfs with⟨h0,rfl,d0⟩|⟨j,y,d0,PF,ey,rfl⟩
  ·unfold chT at*;try unfold ty0 at*
   simp only[vW,seval,d0,e0,clV];refine z8 HR ?_;try trivial
  ·unfold chT at*;try unfold ty0 at*
   simp only[vW,seval,d0,clV];refine z7 PF ?_;simp only[vW,seval,clV,ey,e0];refine z8 HR ?_;try trivial
theorem znr(m:Nat){h:Chg}(hi:ChIn h):ChOk m h∧ChFit h:=by
 have key:∀s,(s=[]∨s∈exL)→TxOk m s∧s.length≤10000:=fun s hs=>by
  rcases hs with rfl|hs
  ·exact⟨zaE m,by decide⟩
  ·obtain⟨_,h2,r,hr,_⟩:=z5v hs;exact⟨z4M m hr (by omega),by omega⟩
 have sh:∀s:zB,s.length≤20→z0t s:=fun s h=>by unfold z0t;omega
 have kk:=hi.k;have tk:=hi.tk;have ot:=hi.ot;have f:=hi.f;have n:=hi.n;have m':=hi.m;exact⟨⟨sh _ f,sh _ n,sh _ m',(key _ hi.x).1,(key _ hi.o).1⟩,⟨⟨by omega,by omega⟩,⟨by omega,by omega⟩,⟨by omega,by omega⟩,by omega,by omega,by omega,(key _ hi.x).2,(key _ hi.o).2⟩⟩
end
theorem zih{x:V}(h:z0U x=true):x=.mk 0 0 [] []∨(∃n, -1000000000000000≤n∧n≤1000000000000000∧x=.mk 1 n [] [])∨(∃s,zh s=true∧x=.mk 2 0 s [])∨(∃k n,(k=3∨k=4)∧z2A n=true∧x=.mk k n [] []):=by
 unfold z0U bare at h;have e:=V.eta x;by_cases h0:x.k=0
 ·rw[if_pos h0]at h;simp at h;obtain⟨⟨h1,h2⟩,h3⟩:=h;exact .inl (by rw[←e,h0,h1,h2,h3])
 rw[if_neg h0]at h;by_cases h0:x.k=1
 ·rw[if_pos h0]at h;simp at h;obtain⟨⟨⟨h1,h2⟩,h3⟩,h4⟩:=h;exact .inr (.inl ⟨x.n,h3,h4,by rw[←e,h0,h1,h2];rfl⟩)
 rw[if_neg h0]at h;by_cases h0:x.k=2
 ·rw[if_pos h0]at h;simp at h;obtain⟨⟨h1,h2⟩,h3⟩:=h;exact .inr (.inr (.inl ⟨x.s,h3,by rw[←e,h0,h1,h2];rfl⟩))
 rw[if_neg h0]at h;by_cases h0:x.k=3∨x.k=4
 ·rw[if_pos h0]at h;simp at h;obtain⟨⟨h1,h2⟩,h3⟩:=h;exact .inr (.inr (.inr ⟨x.k,x.n,h0,h3,by rw[←e,h1,h2];rfl⟩))
 ·rw[if_neg h0]at h;cases h
theorem zdb{s:zB}(h:zh s=true):s.length≤60:=by unfold zh at h;simp at h;exact h.1
theorem zfR{n:Int}(h:z2A n=true):(1≤n∧n≤100000)∨(-20≤n∧n≤ -1):=by unfold z2A at h;simpa using h
theorem z54{x:V}(h:z0U x=true):zoJ x∧x.k≠5∧x.l=[]:=by
 unfold zoJ I64;rcases zih h with rfl|⟨n,h1,h2,rfl⟩|⟨s,h1,rfl⟩|⟨k,n,h1,h2,rfl⟩
 ·refine⟨⟨⟨?_,?_⟩,⟨?_,?_⟩,?_⟩,?_,rfl⟩<;>simp[V.k,V.n,V.s]
 ·refine⟨⟨⟨?_,?_⟩,⟨?_,?_⟩,?_⟩,?_,rfl⟩<;>simp[V.k,V.n,V.s]<;>omega
 ·have:=zdb h1;refine⟨⟨⟨?_,?_⟩,⟨?_,?_⟩,?_⟩,?_,rfl⟩<;>simp[V.k,V.n,V.s]<;>omega
 ·have:=zfR h2;refine⟨⟨⟨?_,?_⟩,⟨?_,?_⟩,?_⟩,?_,rfl⟩<;>simp[V.k,V.n,V.s]<;>omega
theorem zbo{x:V}(h:z14 x=true)(h5:x.k=5):x.n=0∧x.s=[]∧x.l.length≤12∧∀y∈x.l,y.k≠5∧z0U y=true:=by
 unfold z14 at h;rw[if_pos h5]at h;simp only[Bool.and_eq_true,beq_iff_eq,decide_eq_true_eq,Bool.not_eq_true',List.any_eq_false]at h;obtain⟨⟨⟨h1,h2⟩,h3⟩,h4⟩:=h;refine⟨h1,h2,h3,fun y hy=> ?_⟩;have:=h4 y hy;unfold z2T at this;simp at this;exact this
theorem zbq{x:V}(h:z14 x=true)(h5:x.k≠5):z0U x=true:=by unfold z14 at h;rwa [if_neg h5]at h
theorem zij{x:V}(h:z14 x=true):VOk x∧VSmall x∧x.s.length≤60∧x.l.length≤12:=by
 have hm:maxLen=9223372036854775807:=rfl;by_cases h5:x.k=5
 ·obtain⟨h1,h2,h3,h4⟩:=zbo h h5;refine⟨⟨by unfold z1P;rw[h2];simp,fun y hy=> ?_⟩,?_,by rw[h2];simp,h3⟩
  ·have:=(z54 (h4 y hy).2).1.2.2;unfold z1P;omega
  ·obtain⟨k,n,s,l⟩:=x;simp only[Vl]at h3 h4;refine .mk (by omega) (fun y hy=> ?_);have:=(z54 (h4 y hy).2).2.2;obtain⟨k',n',s',l'⟩:=y;simp only[Vl]at this;subst this;exact .mk (by simp) (by simp)
 ·have h0:=z54 (zbq h h5);refine⟨⟨by have:=h0.1.2.2;unfold z1P;omega,by rw[h0.2.2];simp⟩,?_,h0.1.2.2,by rw[h0.2.2];simp⟩;obtain⟨k,n,s,l⟩:=x;have:=h0.2.2;simp only[Vl]at this;subst this;exact .mk (by simp) (by simp)
section
open Go.Sh.Cd7
theorem zje{x:V}(h:z14 x=true):VFew x∧VOk x:=by
 have hv:=zij h;refine⟨?_,hv.1⟩;by_cases h5:x.k=5
 ·obtain⟨_,_,h3,h4⟩:=zbo h h5;obtain⟨k,n,s,l⟩:=x;simp only[Vl]at h3 h4;exact .mk (by omega) (fun y hy=>zbJ (z54 (h4 y hy).2).2.2)
 ·exact zbJ (z54 (zbq h h5)).2.2
theorem zbL{c:Cls}{vals:List V}(h:FitC c vals):∀v∈vals,VFew v∧VOk v:=fun v hv=>by
 obtain⟨i,hi⟩:=List.getElem?_of_mem hv;have hl:=h.len;have hlt:=(gJ hi).1;have:=h.fit i _ v (gE (show i<c.fs.length by omega)) hi;unfold zD at this;simp only[Bool.and_eq_true]at this;exact zje this.1.1.1
theorem zmL{a0 a1:Addr}{m:Nat}{c:Cls}{vals:List V}{h:Chg}(hf:FitC c vals)(hh:ChOk m h):zC (glX a0 a1 m) 30 [clT c,chT h] [] (z82 (z2t c h)) []:=by
 have hr:=z96 hf.r;exact z2O (z79 m c h hr.1 hh (by omega))
theorem znh{a0 a1:Addr}{m:Nat}{c:Cls}{vals:List V}{h:Chg}(hf:FitC c vals)(hh:ChOk m h):zC (glX a0 a1 m) 31 [clT c,chT h,.pv (.sl 4 (V.rows vals))] [] (z6p (z3x c h vals)) []:=by
 have hr:=z96 hf.r;have hl:vals.length≤1000:=by rw[hf.len];omega
 exact z2O (z3K m c h vals hr.1 hh (fun _ hne=>zjk (glE m) vals hl hne (fun v hv=>(zbL hf v hv).1)) (zbL hf) hl)
theorem zaq{c:Cls}{h:Chg}(ho:okV c h=true):zn c=true∧zS h=true∧z0z c h=true:=by
 unfold okV at ho;simp only[Bool.and_eq_true]at ho;exact⟨ho.1.1,ho.1.2,ho.2⟩
theorem ziL{c:Cls}{vals:List V}{h:Chg}(hf:FitC c vals)(ho:okV c h=true):z2t c h=(⟨c.n,z1a c h⟩,0)∧z3x c h vals=(z23 c h vals,0):=zoq hf (zaq ho).2.1 (zaq ho).2.2
end
end Go.Proofs.YtcpaleaajdilgaaGreatDoor
end

section
namespace Go.Mor
open Go Go.Sh
def vB:Nat→V→V→Bool
 |0,_,_=>false
 |d+1,.mk k n s l,.mk k' n' s' l'=>zal k k'&&zal n n'&&z7Z (fun x y:UInt8=>Nat.beq x.toNat y.toNat) s s'&&z7Z (vB d) l l'
theorem znq{s t:zB}(h:z7Z (fun x y:UInt8=>Nat.beq x.toNat y.toNat) s t=true):s=t:=by
 obtain⟨h1,h2⟩:=z81 h;apply List.ext_getElem?
 grind [Nat.lt_or_ge,List.getElem?_eq_getElem,Nat.eq_of_beq_eq_true,UInt8.toNat_inj,List.getElem?_eq_none]
theorem zqJ:∀{d:Nat} {x y:V},vB d x y=true→x=y:=by
 intro d
 induction d with
 |zero=>grind [vB]
 |succ d ih=>
  intro x y h;obtain⟨k,n,s,l⟩:=x;obtain⟨k',n',s',l'⟩:=y;simp only[vB,Bool.and_eq_true]at h;obtain⟨⟨⟨h1,h2⟩,h3⟩,h4⟩:=h;rw[intB_eq h1,intB_eq h2,znq h3];obtain⟨h5,h6⟩:=z81 h4;have:l=l':=by
   apply List.ext_getElem?
   grind
  rw[this]
def zpJ(e:zB):Bool:=match z1W 1000 e with
 |some r=>z0q r.1&&(match z1W 1000 (z19 8 r.1)with
  |some q=>vB 20 q.1 r.1&&zal q.2.2 0&&zal q.2.1 0&&Nat.ble (z19 8 r.1).length 200&&Nat.ble 1 (z19 8 r.1).length
  |none=>false)
 |none=>false
theorem zpI:exL.all zpJ=true:=by kernel_rfl
def z2Z(s:zB):zB:=if s=[] then [] else z19 8 (rdV s).1
theorem z91{e:zB}(h:e∈exL):z0q (rdV e).1=true∧(rdV e).2.2=0∧(rdV e).2.1=0∧z2Z e≠[]∧(z2Z e).length≤200∧rdV (z2Z e)=((rdV e).1,0,0)∧z1W 1000 (z2Z e)=some ((rdV e).1,0,0)∧z2Z e=z19 8 (rdV e).1:=by
 obtain⟨h0,_,r,hr,h1,h2⟩:=z5v h;have hp:=List.all_eq_true.1 zpI e h;have ha:z2Z e=z19 8 r.1:=by grind [z2Z,rdV]
 have hrd:rdV e=r:=by grind [rdV]
 unfold zpJ at hp;rw[hr]at hp;simp at hp;obtain⟨h3,h4⟩:=hp;rw[hrd,ha];split at h4
 ·rename_i q hq;simp only[Bool.and_eq_true]at h4;obtain⟨⟨⟨⟨h5,h6⟩,h7⟩,h8⟩,h9⟩:=h4;have e5:=zqJ h5;have e6:=intB_eq h6;have e7:=intB_eq h7;have eq:q=(r.1,0,0):=by
   grind
  rw[eq]at hq;have h9':=Nat.le_of_ble_eq_true h9;refine⟨h3,h1,h2,fun h=>by rw[h]at h9';simp at h9',Nat.le_of_ble_eq_true h8,?_,hq,rfl⟩
  grind [rdV]
 ·cases h4
def z1U(h:Chg):Chg:={ h with x:=z2Z h.x,o:=z2Z h.o }
theorem z5W{c:Cls}{t:Ty}{s:zB}(h:s=[]∨s∈exL):zz c (z2Z s) t=zz c s t:=by
 rcases h with rfl|h
 ·rfl
 ·obtain⟨h1,h2,h3,h4,h5,h6,_⟩:=z91 h;have hne:s≠[]:=by rintro rfl;have:=(z5v h).1;simp at this
  grind [zz]
theorem zca{b:Bool}{s:zB}(h:s=[]∨s∈exL):z2F (z2Z s) b=z2F s b:=by
 rcases h with rfl|h
 ·rfl
 ·obtain⟨h1,h2,h3,h4,h5,h6,_⟩:=z91 h;have hne:s≠[]:=by rintro rfl;have:=(z5v h).1;simp at this
  grind [z2F]
theorem zcb{h:Chg}(hi:ChIn h):zS (z1U h)=zS h:=by unfold zS z1U;dsimp only;rw[zca hi.x,zca hi.o]
theorem zfY{c:Cls}{h:Chg}(hi:ChIn h):okV c (z1U h)=okV c h:=by
 unfold okV;rw[zcb hi];congr 1;unfold z0z z1U;rw[z5W hi.x,z5W hi.o]
theorem zgZ{c:Cls}{h:Chg}(hi:ChIn h):z2t c (z1U h)=z2t c h:=by unfold z2t;rw[zfY hi];rfl
theorem ziK{c:Cls}{h:Chg}(hi:ChIn h)(vals:List V):z3x c (z1U h) vals=z3x c h vals:=by
 unfold z3x;rw[zfY hi];have:z23 c (z1U h) vals=z23 c h vals:=by
  unfold z23 z1U;rw[z5W hi.x,z5W hi.o]
 rw[this]
end Go.Mor
end

section
namespace Go.Proofs.YtcpaleaajdilgaaGreatDoor
open Go Go.RowKit Go.Mor Go.Sh Go.Sh.Cd1
section
open Go.Sh.Cd5
theorem zfH(m:Nat){e:V}(hr:z0q e=true)(hs:ESmall e):zC (glT m) 40 [tv e] [] (.tuple [S (str (z19 8 e)),I 0]) []:=by
 have h:=zm8 m e hs;unfold prV at h
 rwa [if_pos hr]at h
end
section
open Go.Sh.Cd7
theorem zdE(a0 a1:Addr)(m:Nat){s:zB}(h:s=[]∨s∈exL)(hs:s≠[]):
  ∃e p,zC (glX a0 a1 m) 36 [S (str s)] [] (.tuple [tv e,I p,I 0]) []∧zC (glX a0 a1 m) 40 [tv e] [] (.tuple [S (str (z2Z s)),I 0]) []:=by
 have h:=h.resolve_left hs;obtain⟨h1,h2,_,_,_,_,_,h8⟩:=z91 h;obtain⟨_,hl,r,hr,_⟩:=z5v h;have ht:=z4M m hr (by omega);have HP:=ht.rd hs;have HQ:=zfH m h1 (ht.sm hs);unfold zbT at HP;rw[if_pos h2,h2]at HP;rw[←h8]at HQ;exact⟨_,_,z2O HP,z2O (zdy HQ)⟩
theorem z90(m:Nat){s:zB}(h:s=[]∨s∈exL):TxOk m (z2Z s)∧(z2Z s).length≤10000:=by
 rcases h with rfl|h
 ·exact⟨zaE m,by decide⟩
 ·obtain⟨_,_,_,_,h5,_,h7,_⟩:=z91 h;exact⟨z4M m h7 (by omega),by omega⟩
theorem zni(m:Nat){h:Chg}(hi:ChIn h)(ho:ChOk m h)(hf:ChFit h):ChOk m (z1U h)∧ChFit (z1U h):=
 ⟨⟨ho.f,ho.n,ho.m,(z90 m hi.x).1,(z90 m hi.o).1⟩,⟨hf.k,hf.tk,hf.ot,hf.f,hf.n,hf.m,(z90 m hi.x).2,(z90 m hi.o).2⟩⟩
theorem zaa(a0 a1:Addr)(m:Nat)(x:Raw)(l:List Int)(a:RawH)(hx:RawOk x)(hl:l.length≤9223372036854775807)(ha:RawHOk a):
  zC (glX a0 a1 m) 10 [z7A x,.pv (.sl 1 (iiR l)),z6d a] [] (.pv (.v (.bool true))) []:=by
 have HX:=zp7 a0 a1 m;have HC:=z9M (glX a0 a1 m) x hx;have hg:=zdO x;have hn:=zfs x;have hc6:=hg.len;have HV:=ziA (glX a0 a1 m) (z1Q x) l 5 (fun _ hf=>hg.type hf) (by omega) hl (by decide);have hvl:=z7o (z1Q x).fs l 5;have hfit:FitC (z1Q x) (z2S (z1Q x).fs l 5):=⟨hg.right,hvl,fun i f v hf hv=>zmB hg l (by decide) hf hv⟩
 generalize z2S (z1Q x).fs l 5=vals at*;generalize z1Q x=c at*;have H1:=zla (glX a0 a1 m) a c ha hg hn;have hin:=zdM a hg hn;have i1:=znr m hin;generalize z5Y a c=h at*;refine za tf_113 ?_;cases r1:okV c h
 ·rw[r1]at H1;have HR:=z2O (a0:=a0) (a1:=a1) (z4t m c h (z96 hfit.r).1 i1.1);rw[r1]at HR;unfold clT chT z7A z6d B at*;simp only[vW,seval];refine z8 HX ?_;refine z8 HC ?_;refine z8 HV ?_;refine z8 H1 ?_;exact zd HR
 rw[r1]at H1;have hA:=zni m hin i1.1 i1.2;have hw:=(zaq r1).2.1;have HA:=zmL (a0:=a0) (a1:=a1) hfit i1.1;have HW:=znh (a0:=a0) (a1:=a1) hfit i1.1;have HA':=zmL (a0:=a0) (a1:=a1) hfit hA.1;have HW':=znh (a0:=a0) (a1:=a1) hfit hA.1;rw[zgZ hin]at HA';rw[ziK hin]at HW';rw[(ziL hfit r1).1]at HA HA';rw[(ziL hfit r1).2]at HW HW';have HE:=zb1 a0 a1 m (z1U h) hA.1 hA.2;have hwA:zS (z1U h)=true:=by rw[zcb hin];exact hw
 have lA:=zdX hA.2;have HD:=zdG a0 a1 m (z1U h) hA.1 hA.2 hwA [] [] (by simp only[List.nil_append,List.append_nil];omega);simp only[List.nil_append,List.append_nil,List.length_nil,Nat.zero_add]at HD;unfold zdi at HE;rw[if_pos hwA]at HE;obtain⟨i,gs,ws,hp,_,_⟩:=zpL hfit r1;have hF:=hp.fits hfit;have hr8:=(z96 hF.r).2;have SB:=zdP (glX a0 a1 m) ⟨c.n,z1a c h⟩ ⟨c.n,z1a c h⟩ (by omega) (by omega);rw[zkn]at SB;have SW:=z6F (glX a0 a1 m) (z23 c h vals) (fun x hx=>(zbL hF x hx).1) (by rw[hF.len];omega);have TX:=zdE a0 a1 m hin.x;have TO:=zdE a0 a1 m hin.o;have hax:h.x=[]→z2Z h.x=[]:=fun e=>by rw[e];rfl
 have hao:h.o=[]→z2Z h.o=[]:=fun e=>by rw[e];rfl
 generalize z1a c h=fs' at*;generalize z23 c h vals=vs' at*;generalize z1D (z1U h)=en at*;clear hF r1 hfit i1 hin hw hA hwA lA hp;unfold z1U at HE HD HA' HW';generalize z2Z h.x=ax at*;generalize z2Z h.o=ao at*;obtain⟨hk0,hf,hn0,hm,ht,hx0,ho⟩:=h;simp only at*;unfold clT chT z7A z6d B z82 z6p at*;simp only[vW,seval];refine z8 HX ?_;refine z8 HC ?_;refine z8 HV ?_;refine z8 H1 ?_;have e0:=bS [];refine zw (σ:={i:Nat // i≤2}) (fun i=>⟨[(7,.pv (.v (.bool true))),(8,.ptr 8 0),(9,.pv (.sl 4 (V.rows vals))),(10,.ptr 10 0),(12,.ptr 12 0),(13,I (i.1:Int))],
  [(8,[S (str c.n),.pv (.sl 4 (flR c.fs))]),(10,[I hk0,S (str hf),S (str hn0),S (str hm),I ht.k,I ht.o,S (str hx0),S (str ho)]),
   (12,[I hk0,S (str hf),S (str hn0),S (str hm),I ht.k,I ht.o,S (str (if 0<i.1 then ax else hx0)),S (str (if 1<i.1 then ao else ho))])],[],[]⟩) (fun i=>2-i.1) ⟨0,by decide⟩ ?_ ?_
 ·exact lwA
 rintro⟨i,hi⟩;have hi:i=0∨i=1∨i=2:=by omega
 have w1:IntKind.i64.wrap 1=1:=rfl;have w2:IntKind.i64.wrap 2=2:=rfl;rcases hi with rfl|rfl|rfl
 ·by_cases hs:hx0=[]
  ·have h0:=hax hs;subst hs;subst h0;simp only[vW,seval,e0];refine zc ⟨1,by decide⟩ (by show 2-1<2-0;decide) ?_;apply z06<;>simp[leL,lk,sv,Nat.beq,I,S,ES.kill,has,drp,zK,w1]
  ·obtain⟨e,p,P,Q⟩:=TX hs;have hb:(hx0==[])=false:=by simpa using hs
   unfold B at*;simp only[vW,seval,e0,hb];refine z8 P ?_;refine z8 Q ?_;refine zc ⟨1,by decide⟩ (by show 2-1<2-0;decide) ?_;apply z06<;>simp[leL,lk,sv,Nat.beq,I,S,ES.kill,has,drp,zK,w1]
 ·by_cases hs:ho=[]
  ·have h0:=hao hs;subst hs;subst h0;simp only[vW,seval,e0];refine zc ⟨2,by decide⟩ (by show 2-2<2-1;decide) ?_;apply z06<;>simp[leL,lk,sv,Nat.beq,I,S,ES.kill,has,drp,zK,w2]
  ·obtain⟨e,p,P,Q⟩:=TO hs;have hb:(ho==[])=false:=by simpa using hs
   simp only[vW,seval,e0,hb];refine z8 P ?_;refine z8 Q ?_;refine zc ⟨2,by decide⟩ (by show 2-2<2-1;decide) ?_;apply z06<;>simp[leL,lk,sv,Nat.beq,I,S,ES.kill,has,drp,zK,w2]
 ·simp only[vW,seval];refine z8 HE ?_;refine z8 HD ?_;refine z8 HA ?_;refine z8 HA' ?_;refine z8 HW ?_;refine z8 HW' ?_;refine z8 SB ?_;exact zd SW
end
end Go.Proofs.YtcpaleaajdilgaaGreatDoor
end

section
namespace Go.Proofs.YtcpaleaajdilgaaGreatDoor.ChangePrinted
open Go.ChangeShapes Go.WideShapes Go.ChangeAt Go.RowKit Go.Lib Go.Mor Go.Deep Go.Joins
open Go.ChangeMaps (open_string shut_string)
theorem z9F(a0 a1:Addr)(W:World)(x0:Raw)(x0v:Value)(x1:List Int)(x1v:Value)(x2:RawH)(x2v:Value)(hx0:RawOk x0)(rx0:∀r,Go.Sh.RelT W (z2y W) r (z7A x0) x0v)(hx1:x1.length≤9223372036854775807)(rx1:∀r,Go.Sh.RelT W (z2y W) r (.pv (.sl 1 (iiR x1))) x1v)(hx2:RawHOk x2)(rx2:∀r,Go.Sh.RelT W (z2y W) r (z6d x2) x2v)(hG:(glX a0 a1 W.heap.size).G W):
  Calls Tryz.prog 10 #[x0v,x1v,x2v] W fun e w'=>e=.returned (.bool true)∧Below W.heap.size W w':=
 zfr (vs:=[x0v,x1v,x2v]) (zaa a0 a1 W.heap.size x0 x1 x2 hx0 hx1 hx2) hG rfl (fun j q u hq hu=>by
  match j with
  |0=>simp at hq hu;subst hq;subst hu;exact rx0 _
  |1=>simp at hq hu;subst hq;subst hu;exact rx1 _
  |2=>simp at hq hu;subst hq;subst hu;exact rx2 _
  |j+3=>simp at hq)
theorem zfV(os:Os){H:Type}(enc:TypeId×Value→H):
  (OpenSpec.ofChange Rows.changePrintedSpec).preRow enc Tryz.prog Tryz.f10 Rows.changePrintedRow.domain false Rows.changePrintedRow.laid ((z65 os).forCall (fun _ _=>0) ⟨#[],#[.agg #[.int .i64 0,.slice none 0 0],.slice none 0 0,.agg #[.int .i64 0,.int .i64 0,.int .i64 0,.int .i64 0,.int .i64 0,.int .i64 0,.int .i64 0,.int .i64 0]],[]⟩).memory #[.agg #[.int .i64 0,.slice none 0 0],.slice none 0 0,.agg #[.int .i64 0,.int .i64 0,.int .i64 0,.int .i64 0,.int .i64 0,.int .i64 0,.int .i64 0,.int .i64 0]]:=by
 have hw:(DataW.whole enc Tryz.prog ((z65 os).forCall (fun _ _=>0) ⟨#[],#[.agg #[.int .i64 0,.slice none 0 0],.slice none 0 0,.agg #[.int .i64 0,.int .i64 0,.int .i64 0,.int .i64 0,.int .i64 0,.int .i64 0,.int .i64 0,.int .i64 0]],[]⟩).memory Tryz.f10.params.toList Rows.changePrintedSpec.vars false (#[.agg #[.int .i64 0,.slice none 0 0],.slice none 0 0,.agg #[.int .i64 0,.int .i64 0,.int .i64 0,.int .i64 0,.int .i64 0,.int .i64 0,.int .i64 0,.int .i64 0]]:Array Value).toList 8).map (fun x=>(x.1,x.2.1))=
   some ([.agg [.lit (.int .i64 0),.nil],.nil,.agg [.lit (.int .i64 0),.lit (.int .i64 0),.lit (.int .i64 0),.lit (.int .i64 0),.agg [.lit (.int .i64 0),.lit (.int .i64 0)],.lit (.int .i64 0),.lit (.int .i64 0)]],[]):=by kernel_rfl
 obtain⟨⟨x1,x2,x3⟩,hx,hx1⟩:=gO hw;simp only[Prod.mk.injEq]at hx1;obtain⟨rfl,rfl⟩:=hx1;exact OpenSpec.preRow_of_cond 8 hx (by kernel_rfl) (fun k hk=>by cases hk) (by kernel_rfl) (zem os _)
theorem zpp(os:Os)(started:os.Started)(H:Type)(enc:TypeId×Value→H)(F:Stop.Interp):
  ReturnsInHanded {} Tryz.checked os 10 .any ((OpenSpec.ofChange Rows.changePrintedSpec).preRow enc Tryz.prog Tryz.f10 Rows.changePrintedRow.domain false Rows.changePrintedRow.laid) (((OpenSpec.ofChange Rows.changePrintedSpec).at F).post enc Tryz.prog Tryz.f10 false true false false):=by
 refine returnsInHanded_of_row (C:=Tryz.checked) (s:=(OpenSpec.ofChange Rows.changePrintedSpec)) own started (by kernel_rfl) Tryz.func10
  (witness_row_atRef (enc:=enc) (C:=Tryz.checked) false (z65 os) #[.agg #[.int .i64 0,.slice none 0 0],.slice none 0 0,.agg #[.int .i64 0,.int .i64 0,.int .i64 0,.int .i64 0,.int .i64 0,.int .i64 0,.int .i64 0,.int .i64 0]] rfl (by kernel_rfl) (by kernel_rfl) (by kernel_rfl) (zfV os enc)) ?_
 intro W base args ds gs before hval0 hW _ hcond _ hL hsh _;have hval:∀(j:Nat) t v,Tryz.f10.params[j]?=some t→args[j]?=some v→Value.okWide Tryz.prog W .any base t v:=hval0;have hW':DataW.Whole enc Tryz.prog Tryz.f10.params.toList Rows.changePrintedSpec.vars false W args.toList ds gs before:=hW;obtain⟨p,q,hA0,hV0,rfl,_,_⟩:=hW;have hA:DataW.TrodAll enc Tryz.prog W 0 (fun _=>true) true Tryz.f10.params.toList args.toList ds p:=hA0;rw[Tryz.params10]at hA hval;obtain⟨rfl,rfl⟩:=trodVars_none hV0;clear hA0 hV0 hval0;obtain⟨a0,a1,hG⟩:=zaj hL hsh;obtain⟨v0,vs0,d0,ds0,p0,q0,hargs,rfl,rfl,h0,r0⟩:=trodAll_cons hA;obtain⟨v1,vs1,d1,ds1,p1,q1,rfl,rfl,rfl,h1,r1⟩:=trodAll_cons r0;obtain⟨v2,vs2,d2,ds2,p2,q2,rfl,rfl,rfl,h2,r2⟩:=trodAll_cons r1;obtain⟨rfl,rfl,rfl⟩:=trodAll_nil r2;obtain rfl:args= #[v0,v1,v2]:=by cases args;simp_all
 obtain⟨x0,hx0,rx0⟩:=zjT (hval 0 _ v0 rfl rfl) h0;obtain⟨x1,_,hx1,rx1⟩:=zjS Tryz.underlying25 Tryz.underlying3 (by kernel_rfl) (hval 1 _ v1 rfl rfl) h1;obtain⟨x2,hx2,rx2⟩:=zjU (hval 2 _ v2 rfl rfl) h2;have hc:=z9F a0 a1 W x0 v0 x1 v1 x2 v2 hx0 rx0 hx1 rx1 hx2 rx2 hG;refine(hc).mono ?_;rintro e W' ⟨rfl,hb⟩;exact⟨_,rfl,zqs 10 Tryz.f10 Rows.changePrintedSpec rfl (by kernel_rfl) (by kernel_rfl) rfl hW' hb⟩
set_option maxHeartbeats 0 in
theorem zoY:joinedFacts Tryz.pinned.checked.prog 10 Tryz.f10 (OpenSpec.ofChange Rows.changePrintedSpec).bare Rows.changePrintedRow=true:=by
 unfold joinedFacts
 repeat' (with_reducible refine Bool.and_eq_true_iff.2 ⟨?_,?_⟩)
 all_goals(as_aux_lemma=>kernel_rfl)
theorem zqZ:Rows.ChangePrintedSaid:=
 OpenClaim.holds_of_cond 10 Tryz.f10 rfl rfl rfl rfl rfl rfl rfl ⟨rfl,rfl,rfl,rfl,rfl⟩ rfl rfl rfl rfl rfl (by kernel_rfl) Tryz.func10 zoY
  (of_decide_eq_true (by kernel_rfl)) (by unfold Func.isWrapper;rw[if_neg (of_decide_eq_false (by kernel_rfl))];exact⟨rfl,rfl⟩)
  (fun os started H enc _ F=>by rw[OpenClaim.pre_eq_preRow];exact zpp os started H enc F)
end Go.Proofs.YtcpaleaajdilgaaGreatDoor.ChangePrinted
end
