/- Merged texts: Yb1 Zn5 Yb2 Yd1 Yd6 Yd8. No statement of the program is proved here. -/
import Derived.Test.YtpmlapgbmgbilaaGreatDoorQ38
set_option linter.unusedSimpArgs false
set_option linter.unusedVariables false
set_option maxRecDepth 100000
set_option maxHeartbeats 8000000
section
namespace Go.Proofs.YtpmlapgbmgbilaaGreatDoor
open Go Go.RowKit Go.Mor Go.Sh Go.Sh.Cd1 Go.Sh.Cd7
section
open Go.Sh.Cd10 Go.Sh.Cd11
def z2O{α:Type}(p:α→α→Bool):List α→List α→Bool
 |[],[]=>true
 |x::l,y::m=>p x y&&z2O p l m
 |_,_=>false
theorem z8A{α:Type}{p:α→α→Bool}:∀{a b:List α},a.length≠b.length→z2O p a b=false
 |[],[],h=>absurd rfl h
 |[],_::_,_=>rfl
 |_::_,[],_=>rfl
 |x::l,y::m,h=>by
  unfold z2O;rw[z8A (a:=l) (b:=m) (fun e=>h (by simp[e])),Bool.and_false]
theorem zb9{α:Type}{p:α→α→Bool}{a b:List α}{i:Nat}{x y:α}(hx:a[i]?=some x)(hy:b[i]?=some y):z2O p (a.drop i) (b.drop i)=(p x y&&z2O p (a.drop (i+1)) (b.drop (i+1))):=by
 obtain⟨h1,rfl⟩:=gJ hx;obtain⟨h2,rfl⟩:=gJ hy;rw[List.drop_eq_getElem_cons h1,List.drop_eq_getElem_cons h2];rfl
theorem znJ(g:Sh.Glob)(a b:List Chg)(ha:a.length≤1000):zC g 52 [.pv (.sl 8 (z0P a)),.pv (.sl 8 (z0P b)),.pv (.v (.func (.func 53) #[] #[]))] [] (B (z2O z0i a b)) []:=by
 refine za tf_177 ?_;obtain⟨R,hR⟩:∃R,z2O z0i a b=R:=⟨_,rfl⟩
 rw[hR];unfold B;by_cases hlen:a.length=b.length
 ·have d0:(a.length:Int)=(b.length:Int):=by omega
  simp only[vW,seval,d0,z0z];refine zk (σ:={i:Nat // i≤a.length∧z2O z0i (a.drop i) (b.drop i)=R}) (fun i=>⟨[(1,.pv (.sl 8 (z0P b))),(2,.pv (.v (.func (.func 53) #[] #[]))),(15,.pv (.sl 8 (z0P a))),(16,I (b.length:Int)),(17,I (i.1:Int))],[],[],[]⟩) (fun i=>a.length-i.1) ⟨0,Nat.zero_le _,hR⟩ ?_ ?_
  ·exact lwA
  rintro⟨i,hi,hT⟩;by_cases hlt:i<a.length
  ·have d1:(i:Int)<(b.length:Int):=by omega
   obtain⟨x,ex⟩:∃x,a[i]?=some x:=⟨_,gE hlt⟩
   obtain⟨y,ey⟩:∃y,b[i]?=some y:=⟨_,gE (by omega)⟩
   have HS:=zij g x y;have w1:=wS i;rw[zb9 ex ey]at hT;unfold B at HS;unfold chT at HS;simp only[vW,seval,d1,z4I,ex,ey,chR];(with_reducible apply zw);exact kv;exact HS;rfl;exact kv;cases hp:z0i x y
   ·simp only[vW,seval];rw[←hT,hp];rfl
   ·simp only[vW,seval,w1];rw[hp,Bool.true_and]at hT;exact zc ⟨i+1,by omega,hT⟩ (by show a.length-(i+1)<a.length-i;omega) lwA
  ·have d1:¬(i:Int)<(b.length:Int):=by omega
   rw[List.drop_eq_nil_of_le (by omega),List.drop_eq_nil_of_le (by omega)]at hT;simp only[vW,seval,d1];rw[←hT];rfl
 ·have d0:¬(a.length:Int)=(b.length:Int):=by omega
  simp only[vW,seval,d0,z0z];rw[←hR,z8A hlen]
def z4l(a b:Ln):Bool:=z40 a.c b.c&&z2O z0i a.hs b.hs
theorem zmm(g:Sh.Glob)(a b:Ln)(h1:a.c.fs.length≤1000)(h2:b.c.fs.length≤1000)(h3:a.hs.length≤1000):zC g 51 [.agg (lnC a),.agg (lnC b)] [] (B (z4l a b)) []:=by
 have HC:=z7O g a.c b.c (by omega) (by omega);have HE:=znJ g a.hs b.hs h3;refine za tf_165 ?_;unfold z4l;unfold lnC clT B at*;simp only[vW,seval];refine z8 HC ?_;cases hc:z40 a.c b.c
 ·simp only[vW,seval]
 ·simp only[vW,seval];refine z8 HE ?_;trivial
theorem znK(g:Sh.Glob)(a b:List Ln)(ha:a.length≤1000)(h1:∀l∈a,l.c.fs.length≤1000∧l.hs.length≤1000)(h2:∀l∈b,l.c.fs.length≤1000):zC g 50 [.pv (.sl 3 (z0s a)),.pv (.sl 3 (z0s b)),.pv (.v (.func (.func 51) #[] #[]))] [] (B (z2O z4l a b)) []:=by
 refine za tf_178 ?_;obtain⟨R,hR⟩:∃R,z2O z4l a b=R:=⟨_,rfl⟩
 rw[hR];unfold B;by_cases hlen:a.length=b.length
 ·have d0:(a.length:Int)=(b.length:Int):=by omega
  simp only[vW,seval,d0,z0k];refine zk (σ:={i:Nat // i≤a.length∧z2O z4l (a.drop i) (b.drop i)=R}) (fun i=>⟨[(1,.pv (.sl 3 (z0s b))),(2,.pv (.v (.func (.func 51) #[] #[]))),(15,.pv (.sl 3 (z0s a))),(16,I (b.length:Int)),(17,I (i.1:Int))],[],[],[]⟩) (fun i=>a.length-i.1) ⟨0,Nat.zero_le _,hR⟩ ?_ ?_
  ·exact lwA
  rintro⟨i,hi,hT⟩;by_cases hlt:i<a.length
  ·have d1:(i:Int)<(b.length:Int):=by omega
   obtain⟨x,ex⟩:∃x,a[i]?=some x:=⟨_,gE hlt⟩
   obtain⟨y,ey⟩:∃y,b[i]?=some y:=⟨_,gE (by omega)⟩
   have HS:=zmm g x y (h1 x (gM ex)).1 (h2 y (gM ey)) (h1 x (gM ex)).2;have w1:=wS i;rw[zb9 ex ey]at hT;unfold B at HS;unfold lnC at HS;simp only[vW,seval,d1,z2G,ex,ey,lnR];(with_reducible apply zw);exact kv;exact HS;rfl;exact kv;cases hp:z4l x y
   ·simp only[vW,seval];rw[←hT,hp];rfl
   ·simp only[vW,seval,w1];rw[hp,Bool.true_and]at hT;exact zc ⟨i+1,by omega,hT⟩ (by show a.length-(i+1)<a.length-i;omega) lwA
  ·have d1:¬(i:Int)<(b.length:Int):=by omega
   rw[List.drop_eq_nil_of_le (by omega),List.drop_eq_nil_of_le (by omega)]at hT;simp only[vW,seval,d1];rw[←hT];rfl
 ·have d0:¬(a.length:Int)=(b.length:Int):=by omega
  simp only[vW,seval,d0,z0k];rw[←hR,z8A hlen]
theorem zeM(g:Sh.Glob)(a b:List Ln)(ha:a.length≤1000)(h1:∀l∈a,l.c.fs.length≤1000∧l.hs.length≤1000)(h2:∀l∈b,l.c.fs.length≤1000):zC g 22 [scT a,scT b] [] (B (z2O z4l a b)) []:=by
 have HE:=znK g a b ha h1 h2;refine za tf_164 ?_;unfold scT B at*;simp only[vW,seval];exact zf HE
end
theorem zqC{W:Nat}{es ds:List (List PV)}(hl:es.length=ds.length)(h:∀(i:Nat) cs ds',es[i]?=some cs→ds[i]?=some ds'→cs.length=ds'.length∧∀(j:Nat) c d,cs[j]?=some c→ds'[j]?=some d→∀w K v,Go.Sh.RelV w K c v→Go.Sh.RelV w K d v):Wk (.pv (.sl W es)) (.pv (.sl W ds)):=by
 intro w E r v hr;have get:∀(i j:Nat) ds' d,ds[i]?=some ds'→ds'[j]?=some d→∃cs c,es[i]?=some cs∧cs[j]?=some c∧∀w K v,Go.Sh.RelV w K c v→Go.Sh.RelV w K d v:=by
  intro i j ds' d h1 h2;have hi:i<es.length:=by
   rcases Nat.lt_or_ge i ds.length with h|h
   ·omega
   ·rw[List.getElem?_eq_none h]at h1;cases h1
  have hq:=h i _ ds' (gE hi) h1;have hj:j<es[i].length:=by
   rcases Nat.lt_or_ge j ds'.length with h|h
   ·have:=hq.1;omega
   ·rw[List.getElem?_eq_none h]at h2;cases h2
  exact⟨_,_,gE hi,gE hj,hq.2 j _ d (gE hj) h2⟩
 cases hr with
 |pv hr=>
  cases hr with
  |sl W es b off cap p f hp hcap hmax hW hc hs=>
   refine .pv ?_;rw[hl];refine .sl W ds b off cap p f (fun hne=>hp (fun e=>hne ?_)) (by omega) hmax ?_ ?_ ?_
   ·rw[e]at hl;exact List.eq_nil_of_length_eq_zero hl.symm
   ·intro ds' hm;obtain⟨i,hi,rfl⟩:=List.getElem_of_mem hm;have hi2:i<es.length:=by omega
    rw[←(h i _ _ (gE hi2) (gE hi)).1];exact hW _ (List.getElem_mem hi2)
   ·intro i j ds' d h1 h2;obtain⟨cs,c,g1,g2,_⟩:=get i j ds' d h1 h2;exact hc i j cs c g1 g2
   ·intro i j ds' d h1 h2;obtain⟨cs,c,g1,g2,g3⟩:=get i j ds' d h1 h2;exact g3 _ _ _ (hs i j cs c g1 g2)
def rvN(x:V):List PV:=[.v (.int .i64 x.k),.v (.int .i64 x.n),.v (.string (str x.s)),.v (.slice none 0 0)]
theorem zgQ{l:List V}(h:∀v∈l,v.l=[]):Wk (.pv (.sl 4 (l.map rvN))) (.pv (.sl 4 (V.rows l))):=by
 refine zqC (by rw[z0r];simp) (fun i cs ds h1 h2=> ?_);rw[z0r]at h2;rw[List.getElem?_map]at h1 h2;cases hi:l[i]? with
 |none=>rw[hi]at h1;cases h1
 |some x=>
  rw[hi]at h1 h2;cases h1;cases h2;rw[z1K];refine⟨rfl,fun j c d hc hd w K v hv=> ?_⟩;have hx:=h x (gM hi);rw[hx]at hd
  match j with
  |0=>cases hc;cases hd;exact hv
  |1=>cases hc;cases hd;exact hv
  |2=>cases hc;cases hd;exact hv
  |3=>
   cases hc;cases hd;cases hv;exact .sl 4 [] 0 0 0 none (fun _ _=>undef) (by simp) (by simp) (by simp) (by simp) (by simp) (by simp)
  |j+4=>cases hc
theorem zqJ{x:V}(h:x.l=[])(hs:x.s.length≤60):VFew x∧VOk x:=⟨zdL h,by unfold VOk z1V;rw[h];exact⟨by omega,by simp⟩⟩
section
open Go.Sh.Cd10
def c8:Cls:=⟨[99],[⟨[97],⟨1,0⟩,false⟩]⟩
def h8:Chg:=⟨1,[],[98],[],⟨1,0⟩,[97,32,42,32,50],[]⟩
def d8:Cls:=⟨[99],[⟨[97],⟨1,0⟩,false⟩,⟨[98],⟨1,0⟩,false⟩]⟩
def l8:Ln:=⟨c8,[h8]⟩
def n8(n:Int):V:=.mk 1 n [] []
theorem zdr:zd c8=true:=by kernel_rfl
theorem zqM:z03 c8 h8=(d8,0):=by kernel_rfl
theorem zpf:zY l8=true:=by kernel_rfl
theorem zqO:zn l8 1=(d8,0):=by kernel_rfl
theorem zpd:zn l8 0=(c8,0):=by kernel_rfl
theorem zqP:z7L l8 0 [n8 3] 1=[n8 3,n8 6]:=by kernel_rfl
theorem zn8(m:Nat):ChOk m h8:=⟨by unfold z0D h8;decide,by unfold z0D h8;decide,by unfold z0D h8;decide,z9j m (r:=rdV h8.x) (by kernel_rfl) (by unfold h8;decide),zf2 m⟩
theorem l8_s:RightS [l8]:=⟨by decide,fun l hl=>by simp at hl;subst hl;exact zpf,fun i j a b hi hj _=>by
 have h1:=(gJ hi).1;have h2:=(gJ hj).1;simp at h1 h2;omega⟩
theorem zd9(m:Nat):LnOk m l8:=⟨zpf,fun x hx=>by unfold l8 at hx;simp at hx;subst hx;exact zn8 m⟩
theorem zlL(m:Nat):z6Q m [l8]:=fun l hl=>by
 simp at hl;subst hl;exact⟨(z1h zdr).1,(zd9 m).h⟩
theorem zpe:FitC (zn l8 0).1 [n8 3]:=by
 rw[zpd];refine⟨zdr,rfl,fun i f v hf hv=> ?_⟩
 match i with
 |0=>cases hf;cases hv;show _=true;kernel_rfl
 |i+1=>cases hv
theorem zbQ(m:Nat)(ls:List Ln)(hl:ls.length≤1000)(hs:z6Q m ls)(he:(z54 ls).2=0)(c:Cls)(hc:zd c=true){k:Nat}(hn:z0y ls c.n=(k,true)):zC (glE m) 13 [scT ls,clT c] [] (.tuple [.agg [zr],I 80]) []:=by
 have HC:=z4Q m ls hl hs;have HR:=z0t (glE m) c (z1h hc).1;have HN:=z3K (glE m) ls c.n hl;rw[he]at HC;rw[hc]at HR;rw[hn]at HN;refine za tf_158 ?_;unfold scT clT B zr at*;simp only[vW,seval];refine z8 HC ?_;refine z8 HR ?_;refine z8 HN ?_;simp only[vW,seval,false_imp_iff,and_true,true_and,forall_const]
theorem zoB:Wk (.agg [zr]) (scT []):=z5T rfl fun j a b ha hb=>by
 match j with
 |0=>cases ha;cases hb;exact z2B 3
 |j+1=>cases ha
theorem last_bad'(m:Nat){ls:List Ln}{n e:Int}(he:e≠0)(HL:zC (glE m) 31 [scT ls,I n] [] (zee e) []):zC (glE m) 11 [scT ls,I n] [] (.tuple [I 0,I e]) []:=zlM he HL
theorem zkV(m:Nat):zC (glE m) 5 [] [] (B true) []:=by
 have HL:zC (glE m) 31 [scT [l8],I 0] [] (.tuple [.agg (lnC l8),I 0]) []:=z6G m [l8] (by decide) (zlL m) (by rw[l8_s.check]) (k:=0) rfl;have A1:zC (glE m) 13 [.agg [zr],clT c8] [] (.tuple [scT [⟨c8,[]⟩],I 0]) []:=(znv m c8 zdr).inp rfl (fun j c d hc hd=>by
  match j with
  |0=>cases hc;cases hd;exact zoB
  |1=>cases hc;cases hd;exact .refl _
  |j+2=>cases hc)
 have T1:=zmC m c8 h8 zdr (zn8 m) (by rw[zqM]);have V1:=zkS (zd9 m) HL (fr:=0) (tt:=1) (Nat.zero_le _) (Nat.le_refl _) [n8 3] zpe;rw[show 1-0=1 from rfl,zqP]at V1;have V1':zC (glE m) 23 [scT [l8],I 0,I 0,I 1,.pv (.sl 4 ([n8 3].map rvN))] [] (.tuple [.pv (.sl 4 (V.rows [n8 3,n8 6])),I 0]) []:=V1.inp rfl (fun j c d hc hd=>by
  match j with
  |0=>cases hc;cases hd;exact .refl _
  |1=>cases hc;cases hd;exact .refl _
  |2=>cases hc;cases hd;exact .refl _
  |3=>cases hc;cases hd;exact .refl _
  |4=>cases hc;cases hd;exact zgQ (by intro v hv;simp at hv;subst hv;rfl)
  |j+5=>cases hc)
 have P0:zC (glE m) 15 [scT [l8],I 0,I 0] [] (.tuple [clT c8,I 0]) []:=by
  have:=zh1 (zd9 m) HL (v:=0) (Nat.zero_le _);rw[zpd]at this;exact this
 have P1:zC (glE m) 15 [scT [l8],I 0,I 1] [] (.tuple [clT d8,I 0]) []:=by
  have:=zh1 (zd9 m) HL (v:=1) (Nat.le_refl _);rw[zqO]at this;exact this
 have P2:=zoM HL 2 (.inr (by decide));have A2:=zbQ m [l8] (by decide) (zlL m) (by rw[l8_s.check]) c8 zdr (l8_s.find (k:=0) (x:=l8) rfl);have L0:zC (glE m) 11 [scT [l8],I 0] [] (.tuple [I 1,I 0]) []:=zgi HL;have F0:zC (glE m) 14 [scT [l8],S (str [99])] [] (.tuple [I 0,B true]) []:=by
  have:=z3K (glE m) [l8] [99] (by decide);rw[show z0y [l8] [99]=(0,true) from l8_s.find (k:=0) (x:=l8) rfl]at this;exact this
 have L1:=last_bad' m (by decide) (zlP m [l8] (by decide) (zlL m) 1 (by rw[l8_s.check]) (.inr (by decide)));have V2:=ziM HL 1 0 (.inr (.inr (by decide))) zr;have SV:=zfM (glE m) [n8 3,n8 6] (by intro v hv;simp at hv;rcases hv with rfl|rfl<;>exact(zqJ rfl (by decide)).1) (by decide);have SV':zC (glE m) 24 [.pv (.sl 4 (V.rows [n8 3,n8 6])),.pv (.sl 4 ([n8 3,n8 6].map rvN))] [] (B true) []:=SV.inp rfl (fun j c d hc hd=>by
  match j with
  |0=>cases hc;cases hd;exact .refl _
  |1=>cases hc;cases hd;exact zgQ (by intro v hv;simp at hv;rcases hv with rfl|rfl<;>rfl)
  |j+2=>cases hc)
 have S1:=zeM (glE m) [l8] [l8] (by decide) (by intro l hl;simp at hl;subst hl;exact⟨by decide,by decide⟩) (by intro l hl;simp at hl;subst hl;decide);rw[show z2O z4l [l8] [l8]=true by kernel_rfl]at S1;have S2:=zeM (glE m) [⟨c8,[]⟩] [l8] (by decide) (by intro l hl;simp at hl;subst hl;exact⟨by decide,by decide⟩) (by intro l hl;simp at hl;subst hl;decide);rw[show z2O z4l [⟨c8,[]⟩] [l8]=false by kernel_rfl]at S2;have T1:zC (glE m) 10 [scT [⟨c8,[]⟩],I 0,chT h8] [] (.tuple [scT [l8],I 0]) []:=T1;clear V1 SV;generalize V.rows [n8 3,n8 6]=r1 at*;unfold scT at*;generalize z0s [l8]=r8 at*;generalize z0s [⟨c8,[]⟩]=r0 at*;unfold clT chT flR c8 d8 h8 n8 rvN zr B at*;simp only[List.map_cons,List.map_nil]at*;refine z0C tf_121 ?_;refine z8 A1 ?_;refine z8 T1 ?_;refine z8 V1' ?_;refine z8 P0 ?_;refine z8 P1 ?_;refine z8 P2 ?_;refine z8 A2 ?_;refine z8 L0 ?_;refine z8 F0 ?_;refine z8 L1 ?_;refine z8 V2 ?_;refine z8 SV' ?_;refine z8 S1 ?_;exact zf S2
theorem zg4(m:Nat){h:Chg}(hi:ChRd h):ChOk m h:=by
 have key:∀s,zdk s→TxOk m s:=fun s hs=>by
  rcases hs with rfl|⟨h2,r,hr⟩
  ·exact zf2 m
  ·exact z9j m hr (by omega)
 have sh:∀s:zB,s.length≤20→z0D s:=fun s h=>by unfold z0D;omega
 exact⟨sh _ hi.f,sh _ hi.n,sh _ hi.m,key _ hi.x,key _ hi.o⟩
theorem zlA(m:Nat){l:Ln}(h:GoodL l):LnOk m l:=⟨h.r,fun x hx=>zg4 m (h.h x hx)⟩
end
section
open Go.Sh.Cd10
structure OkS(m:Nat)(s:List Ln):Prop where
 r:RightS s
 c:∀l∈s,∀h∈l.hs,ChOk m h
theorem OkS.ln{m:Nat}{s:List Ln}(h:OkS m s){l:Ln}(hl:l∈s):LnOk m l:=⟨h.r.line l hl,h.c l hl⟩
theorem OkS.ls{m:Nat}{s:List Ln}(h:OkS m s):z6Q m s:=fun l hl=>⟨(z1h (h.ln hl).c).1,h.c l hl⟩
theorem OkS.few{m:Nat}{s:List Ln}(h:OkS m s):∀l∈s,l.c.fs.length≤1000∧l.hs.length≤1000:=fun l hl=>by
 have h1:=(z1h (h.ln hl).c).2;have h2:=h.r.line l hl;unfold zY at h2;simp only[Bool.and_eq_true]at h2;have:=Nat.le_of_ble_eq_true h2.1;omega
theorem zjs(m:Nat){s:List Ln}(h:GoodS s):OkS m s:=⟨h.r,fun l hl=>(zlA m (h.g l hl).1).h⟩
theorem OkS.snoc{m:Nat}{s:List Ln}(h:OkS m s)(h8:s.length<8){c:Cls}(hc:zd c=true)(hn:(z0y s c.n).2=false):OkS m (s++[⟨c,[]⟩]):=
 ⟨zid h.r h8 (by simp[zY,zn,z2s,hc]) hn,fun l hl=>by
  rcases List.mem_append.1 hl with hl|hl
  ·exact h.c l hl
  ·obtain rfl:=List.mem_singleton.1 hl;intro x hx;cases hx⟩
theorem OkS.turn{m:Nat}{s:List Ln}(h:OkS m s){k:Nat}{l:Ln}(hk:s[k]?=some l)(h12:l.hs.length<12){x:Chg}(ho:okV (z0H l) x=true)(hx:ChOk m x):OkS m (z5q s k l x):=
 ⟨zfQ h.r hk h12 ho,fun y hy=>by
  obtain⟨i,hi⟩:=List.getElem?_of_mem hy;rcases zbd hi with⟨_,rfl⟩|⟨_,h2⟩
  ·intro z hz;rcases List.mem_append.1 hz with hz|hz
   ·exact h.c l (gM hk) z hz
   ·obtain rfl:=List.mem_singleton.1 hz;exact hx
  ·exact h.c y (gM h2)⟩
section
variable{m:Nat}{s:List Ln}(h:OkS m s)
include h
theorem OkS.line{k:Nat}{l:Ln}(hk:s[k]?=some l):zC (glE m) 31 [scT s,I (k:Int)] [] (.tuple [.agg (lnC l),I 0]) []:=
 z6G m s (by have:=h.r.len;omega) h.ls (by rw[h.r.check]) hk
theorem OkS.lastC{k:Nat}{l:Ln}(hk:s[k]?=some l):zC (glE m) 11 [scT s,I (k:Int)] [] (.tuple [I (l.hs.length:Int),I 0]) []:=zgi (h.line hk)
theorem OkS.atC{k:Nat}{l:Ln}(hk:s[k]?=some l){v:Nat}(hv:v≤l.hs.length):zC (glE m) 15 [scT s,I (k:Int),I (v:Int)] [] (.tuple [clT (zn l v).1,I 0]) []:=
 zh1 (h.ln (gM hk)) (h.line hk) hv
theorem OkS.findC{k:Nat}{l:Ln}(hk:s[k]?=some l):zC (glE m) 14 [scT s,S (str l.c.n)] [] (.tuple [I (k:Int),B true]) []:=by
 have:=z3K (glE m) s l.c.n (by have:=h.r.len;omega);rw[h.r.find hk]at this;exact this
theorem OkS.turnC{k:Nat}{l:Ln}(hk:s[k]?=some l)(h12:l.hs.length<12){x:Chg}(hx:ChOk m x):zC (glE m) 10 [scT s,I (k:Int),chT x] [] (if okV (z0H l) x then .tuple [scT (z5q s k l x),I 0] else .tuple [.agg [zr],I 70]) []:=by
 have hlo:=h.ln (gM hk);have ha:=zjW hlo.r x;have hl:=h.r.len;cases ho:okV (z0H l) x
 ·rw[ho]at ha;have:=zmD (by omega) h.ls (by rw[h.r.check]) hk hlo h12 x hx (by
   show(z03 (z0H l) x).2≠0;rw[ha];decide)
  rw[show(z03 (zn l l.hs.length).1 x).2=70 from ha]at this;exact this
 ·rw[ho]at ha;exact zov m s (by omega) h.ls (by rw[h.r.check]) h.few hk hlo h12 x hx ha
theorem OkS.addC(h0:s≠[])(h8:s.length<8){c:Cls}(hc:zd c=true):zC (glE m) 13 [scT s,clT c] [] (if(z0y s c.n).2 then .tuple [.agg [zr],I 80] else .tuple [scT (s++[⟨c,[]⟩]),I 0]) []:=by
 have hl:=h.r.len;cases hn:z0y s c.n with
 |mk k b=>
  cases b
  ·have hk:k=0:=by
    unfold z0y at hn;split at hn<;>cases hn
    rfl
   subst hk;exact ziF m s h0 h8 h.ls (by rw[h.r.check]) h.few c hc hn
  ·exact zbQ m s (by omega) h.ls (by rw[h.r.check]) c hc hn
end
theorem zjB{m:Nat}{s t:List Ln}(hk:Kept s t)(ht:OkS m t){i:Nat}{l:Ln}(hi:s[i]?=some l):zC (glE m) 14 [scT t,S (str l.c.n)] [] (.tuple [I (i:Int),B true]) []:=by
 obtain⟨l',h1,h2,_⟩:=hk i l hi;have:=ht.findC h1
 rwa [h2]at this
theorem znV{m:Nat}{s t:List Ln}(hk:Kept s t)(ht:OkS m t){i:Nat}{l:Ln}(hi:s[i]?=some l){v:Nat}(hv:v≤l.hs.length):zC (glE m) 15 [scT t,I (i:Int),I (v:Int)] [] (.tuple [clT (zn l v).1,I 0]) []:=by
 obtain⟨l',h1,_,h3,h4⟩:=hk i l hi;have:=ht.atC h1 (v:=v) (by omega)
 rwa [h4 v hv]at this
end
section
open Go.Sh.Cd10
theorem zii(c:Cls):z40 c c=true:=by unfold z40;rw[(zaC _ _).2 rfl];simp
theorem zbI(m:Nat)(l:List RawL)(x:Raw)(r:RawH)(n:Int)(hx:∀y∈l,RawLOk y)(hlen:l.length≤9223372036854775807)(hc:RawOk x)(hr:RawHOk r)(hn:I64 n):
  zC (glE m) 3 [.pv (.sl 3 (rlR l)),z5K x,z5m r,I n] [] (B true) []:=by
 have HX:=zkV m;have HS:=zfN (glE m) l hx hlen;obtain⟨hs,hs4,hne⟩:=zcZ l;generalize z3O l=s at*;obtain⟨k,ek,hk⟩:=zm9 n (List.length_pos_iff.2 hne);obtain⟨ln,eln⟩:∃x,s[k]?=some x:=⟨_,gE hk⟩
 obtain⟨hg,hg5,_⟩:=hs.g ln (gM eln);have P0:=zm8 (glE m) n (s.length:Int) hn (by omega);rw[ek]at P0;have HN:=zco (glE m) ln hg;have hrc:zd (z0H ln)=true:=z17 (z0h hg.r (Nat.le_refl _));have HG:=zdx (glE m) r (z0H ln) hr hrc hg.n;have hch:=zg4 m (z9O r hg.n).rd;have hO:=zjs m hs;have HT:=hO.turnC eln (by omega) hch;generalize z2W r (z0H ln)=h at*;have d0:(k:Int)<(s.length:Int):=by omega
 cases ho:okV (z0H ln) h
 ·rw[ho]at HG HT;simp only[Bool.false_eq_true,if_false]at HT;refine za tf_119 ?_;unfold scT lnC clT chT z5K z5m B zr at*;simp only[vW,seval];refine z8 HX ?_;refine z8 HS ?_;simp only[vW,seval,z0k];refine z7 P0 ?_;simp only[vW,seval,z0k,z2G,eln,lnR,d0];refine z7 HN ?_;refine z8 HG ?_;refine z8 HT ?_;trivial
 rw[ho]at HG HT;simp only[if_true]at HT;have hO2:=hO.turn eln (by omega) ho hch;have hk2:(z5q s k ln h)[k]?=some ⟨ln.c,ln.hs++[h]⟩:=List.getElem?_set_self hk;have hlt:(z5q s k ln h).length=s.length:=List.length_set ..;have hK:=zjD eln h;have L1:=hO.lastC eln;have L2:=hO2.lastC hk2;rw[show(⟨ln.c,ln.hs++[h]⟩:Ln).hs.length=ln.hs.length+1 by simp]at L2;have HC:=z4J (glE m) x hc;have hd:=(z7N x).right;have HF:=z3K (glE m) (z5q s k ln h) (z0n x).n (by omega);generalize z5q s k ln h=t at*;have HA:=hO2.addC (by intro e;rw[e]at hlt;simp at hlt;omega) (by omega) hd;have hsn:=fun hn=>hO2.snoc (by omega) hd hn;have hks:=zjC t ⟨z0n x,[]⟩;have w1:=wS ln.hs.length;generalize z0n x=d at*;have hU:∃U,OkS m U∧Kept s U∧U=if(z0y t d.n).2 then t else t++[⟨d,[]⟩]:=by
  cases hn:(z0y t d.n).2
  ·exact⟨_,hsn hn,hK.trans hks,rfl⟩
  ·exact⟨_,hO2,hK,rfl⟩
 obtain⟨U,hU,KU,eU⟩:=hU;have w2:=wS s.length;have hl2:(z0s (t++[⟨d,[]⟩])).length=t.length+1:=by rw[z0k,List.length_append];rfl
 generalize z0y t d.n=q at*;obtain⟨q,b⟩:=q
 dsimp only at HA HF eU
 clear hsn hks hK;refine za tf_119 ?_;unfold scT lnC clT chT z5K z5m B zr at*;simp only[vW,seval];refine z8 HX ?_;refine z8 HS ?_;simp only[vW,seval,z0k];refine z7 P0 ?_;simp only[vW,seval,z0k,z2G,eln,lnR,d0];refine z7 HN ?_;refine z8 HG ?_;refine z8 HT ?_;refine z8 L1 ?_;refine z7 L2 ?_;simp only[vW,seval,w1,z0k,hlt,false_imp_iff,and_true,true_and,forall_const];refine z8 HC ?_;cases b;all_goals(
  simp only[Bool.false_eq_true,if_false,if_true]at HA eU;refine z8 HA ?_;refine z7 HF ?_;simp only[vW,seval,z8H,show(true !=true)=false from rfl,show(false !=false)=false from rfl,w2,z0k,hl2,hlt,false_imp_iff,and_true,true_and,forall_const];rw[←eU];clear HA HF eU;refine zk (σ:={i:Nat // i≤s.length}) (fun i=>⟨[(9,.pv (.v (.bool true))),(10,.ptr 10 0),(21,.ptr 21 0),(25,I (i.1:Int))],[(10,[.pv (.sl 3 (z0s s))]),(21,[.pv (.sl 3 (z0s U))])],[],[]⟩) (fun i=>s.length-i.1) ⟨0,Nat.zero_le _⟩ ?_ ?_
  ·exact lwA
  rintro⟨i,hi⟩;by_cases hlti:i<s.length
  ·have d1:(i:Int)<(s.length:Int):=by omega
   obtain⟨li,eli⟩:∃x,s[i]?=some x:=⟨_,gE hlti⟩
   have FC:=zjB KU hU eli;have wi:=wS i;have hri:=hs.r.line li (gM eli);unfold scT B at FC;simp only[vW,seval,d1,z0k,z2G,eli,lnR];refine z7 FC ?_;simp only[vW,seval,d1,false_imp_iff,and_true,true_and,forall_const];refine zk (σ:={v:Nat // v≤li.hs.length+1}) (fun v=>⟨[(9,.pv (.v (.bool true))),(10,.ptr 10 0),(21,.ptr 21 0),(25,I (i:Int)),(28,I (v.1:Int))],[(10,[.pv (.sl 3 (z0s s))]),(21,[.pv (.sl 3 (z0s U))])],[],[]⟩) (fun v=>li.hs.length+1-v.1) ⟨0,Nat.zero_le _⟩ ?_ ?_
   ·exact lwA
   rintro⟨v,hv⟩;by_cases hv2:v≤li.hs.length
   ·have d3:(v:Int)≤(li.hs.length:Int):=by omega
    have A1:=hO.atC eli hv2;have A2:=znV KU hU eli hv2;have hv0:=z17 (z0h hri hv2);have h8v:=(z1h hv0).2;have SM:=z7O (glE m) (zn li v).1 (zn li v).1 (by omega) (by omega);rw[zii]at SM;have hnm:=zf6 hri v hv2;have hli5:=(hs.g li (gM eli)).2.1;have wv:=wS v;unfold scT clT B at*;generalize(zn li v).1=cv at*;simp only[vW,seval,d1,d3,z0k,z2G,eli,lnR,z0z];refine z8 A1 ?_;refine z8 A2 ?_;refine z7 SM ?_;simp only[vW,seval,hnm,wv,d1,z0k,z2G,eli,lnR,false_imp_iff,and_true,true_and,forall_const];exact zc ⟨v+1,by omega⟩ (by show li.hs.length+1-(v+1)<li.hs.length+1-v;omega) lwA
   ·have d3:¬(v:Int)≤(li.hs.length:Int):=by omega
    simp only[vW,seval,d1,d3,z0k,z2G,eli,lnR,z0z,wi];exact zc ⟨i+1,hlti⟩ (by show s.length-(i+1)<s.length-i;omega) lwA
  ·have d1:¬(i:Int)<(s.length:Int):=by omega
   simp only[vW,seval,d1,z0k])
end
end Go.Proofs.YtpmlapgbmgbilaaGreatDoor
end
