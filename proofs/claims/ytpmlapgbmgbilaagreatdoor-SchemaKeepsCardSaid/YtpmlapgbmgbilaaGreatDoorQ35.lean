/- Merged texts: Ln3 S31 Pk6 Pk7 Ln4 Zu5 Zh5 Zh7 Cd10 Ya1 Yc1. No statement of the program is proved here. -/
import Derived.Test.YtpmlapgbmgbilaaGreatDoorQ33
import Derived.Test.YtpmlapgbmgbilaaGreatDoorQ34
set_option linter.unusedSimpArgs false
set_option linter.unusedVariables false
set_option maxRecDepth 100000
set_option maxHeartbeats 8000000
section
namespace Go.Mor
open Go
def z1w(f:Fld)(h:Chg):List Fld:=
 if h.k=1∨f.n≠h.f then [f]
 else if h.k=2 then []
 else if h.k=3 then [⟨h.n,f.t,f.ix⟩]
 else if h.k=4 then [⟨f.n,h.t,false⟩]
 else if h.k=5 then [⟨h.n,h.t,false⟩,⟨h.m,h.t,false⟩]
 else [⟨f.n,f.t, !f.ix⟩]
theorem z8S{α:Type}{F:α→List α}:∀{l:List α},(∀x∈l,F x=[x])→l.flatMap F=l
 |[],_=>rfl
 |x::l,h=>by
  rw[List.flatMap_cons,h x (List.mem_cons_self ..),z8S fun y hy=>h y (List.mem_cons_of_mem _ hy)];rfl
theorem z5t{α:Type}{F:α→List α}{l:List α}{i:Nat}{x:α}(hx:l[i]?=some x)(h:∀(j:Nat) y,l[j]?=some y→j≠i→F y=[y]):l.flatMap F=z0W l i (F x):=by
 obtain⟨hi,rfl⟩:=gJ hx;have e:l=l.take i++l[i]::l.drop (i+1):=by rw[←List.drop_eq_getElem_cons hi,List.take_append_drop]
 have h1:(l.take i).flatMap F=l.take i:=z8S fun y hy=>by
  obtain⟨j,hj⟩:=List.getElem?_of_mem hy;rw[List.getElem?_take]at hj;split at hj
  ·exact h j y hj (by omega)
  ·cases hj
 have h2:(l.drop (i+1)).flatMap F=l.drop (i+1):=z8S fun y hy=>by
  obtain⟨j,hj⟩:=List.getElem?_of_mem hy;rw[List.getElem?_drop]at hj;exact h _ y hj (by omega)
 unfold z0W
 conv=>lhs;rw[e]
 rw[List.flatMap_append,List.flatMap_cons,h1,h2,List.append_assoc]
theorem zcB{c:Cls}{h:Chg}(ho:okV c h=true):c.fs.flatMap (z1w · h)++(if h.k=1 then [⟨h.n,h.t,false⟩] else [])=z0q c h:=by
 unfold okV at ho;simp only[Bool.and_eq_true]at ho;obtain⟨⟨hr,hw⟩,hm⟩:=ho;have hd:=((z16 c).1 hr).2.2.2;by_cases h1:h.k=1
 ·rw[z8S (fun x _=>by unfold z1w;rw[if_pos (.inl h1)])];unfold z0q;simp[h1]
 ·have hh:z0F c.fs h.f=true:=by
   cases hv:z0F c.fs h.f
   ·simp[z0G,h1,hv]at hm
   ·rfl
  have hf:¬fieldAt c.fs h.f<0:=by
   unfold z0F at hh;simpa using hh
  obtain⟨i,hi⟩:=Int.eq_ofNat_of_zero_le (show 0≤fieldAt c.fs h.f by omega);obtain⟨x,hx,hp⟩:=z2F _ _ _ hi;have hxn:x.n=h.f:=by simpa using hp
  have hat:atV c.fs h.f=i:=by unfold atV;rw[hi];rfl
  rw[z5t hx (fun j y hy hj=>by
   unfold z1w;rw[if_pos (.inr fun e=>hj (hd j i y x hy hx (by rw[e,hxn])))]),if_neg h1,List.append_nil]
  unfold z0q z1w;simp only[hat,h1,hxn,if_false,ne_eq,not_true_eq_false,or_self,List.getD_eq_getElem?_getD,hx,Option.getD_some]
  repeat' split
  all_goals first|rfl|trace_state
end Go.Mor
end

section
namespace Go.Sh
open Go Go.RowKit
def zlH:Int→Int→Bool
 | .ofNat a,.ofNat b=>Nat.beq a b
 | .negSucc a,.negSucc b=>Nat.beq a b
 |_,_=>false
theorem intB_eq:∀{a b:Int},zlH a b=true→a=b
 | .ofNat a,.ofNat b,h=>congrArg Int.ofNat (Nat.eq_of_beq_eq_true h)
 | .negSucc a,.negSucc b,h=>congrArg Int.negSucc (Nat.eq_of_beq_eq_true h)
 | .ofNat _,.negSucc _,h=>by cases h
 | .negSucc _,.ofNat _,h=>by cases h
theorem zf9{cs ds:List TV}(hl:cs.length=ds.length)(h:∀(j:Nat) c d,cs[j]?=some c→ds[j]?=some d→Wk c d):Wk (.tuple cs) (.tuple ds):=by
 intro w E r v hr;cases hr with
 |tuple _ vs hl' h'=>
  refine .tuple ds vs (by omega) fun j d v hd hv=> ?_;have hj:=(gJ hd).1;have hc:=gE (show j<cs.length by omega);exact h j _ d hc hd w E r v (h' j _ v hc hv)
end Go.Sh
end

section
namespace Go.Mor
open Go
section
open Go.Sh
def zp0(e:zB):Bool:=Nat.ble 1 e.length&&Nat.ble e.length 100&&match z2x 1000 e with
 |some r=>zlH r.2.2 0&&zlH r.2.1 0
 |none=>false
theorem zoZ:exL.all zp0=true:=by kernel_rfl
end
theorem zo0(j:Int)(h0:0≤j)(h1:j<6):nmF j∈nmL:=by
 have:j=0∨j=1∨j=2∨j=3∨j=4∨j=5:=by omega
 rcases this with rfl|rfl|rfl|rfl|rfl|rfl<;>decide
theorem zdR:∀(rs:List RawF) (acc:List Fld),(∀f∈acc,f.n∈nmL)→∀f∈rs.foldl z1J acc,f.n∈nmL
 |[],acc,h=>h
 |r::rs,acc,h=>by
  refine zdR rs _ fun f hf=> ?_;unfold z1J at hf;split at hf
  ·rcases List.mem_append.1 hf with hf|hf
   ·grind
   ·obtain rfl:=List.mem_singleton.1 hf;have h1:=z05 r.n 6 (by omega);exact zo0 _ h1.1 h1.2
  ·grind
theorem zfl(x:Raw):∀f∈(z0n x).fs,f.n∈nmL:=zdR _ [] (by simp)
theorem zjU(j:Int)(h0:0≤j)(h1:j<6):zb (nmH j)=true∧(nmH j).length≤8:=by
 have:j=0∨j=1∨j=2∨j=3∨j=4∨j=5:=by omega
 rcases this with rfl|rfl|rfl|rfl|rfl|rfl<;>decide
theorem zgs(x:Int):(nmH (pick x 6)).length≤20:=by
 grind [z05,zjU]
theorem zgd{e:zB}(h:e∈exL):1≤e.length∧e.length≤100∧∃r,z2x 1000 e=some r∧r.2.2=0∧r.2.1=0:=by
 have h1:=List.all_eq_true.1 zoZ e h;unfold zp0 at h1;simp only[Bool.and_eq_true]at h1;refine⟨Nat.le_of_ble_eq_true h1.1.1,Nat.le_of_ble_eq_true h1.1.2,?_⟩;have h2:=h1.2;split at h2
 ·rename_i r hr;simp at h2;exact⟨r,hr,Go.Sh.intB_eq h2.1,Go.Sh.intB_eq h2.2⟩
 ·cases h2
structure ChIn(h:Chg):Prop where
 k:0≤h.k∧h.k≤6
 tk:0≤h.t.k∧h.t.k≤5
 ot:0≤h.t.o∧h.t.o≤4
 f:h.f.length≤20
 n:h.n.length≤20
 m:h.m.length≤20
 x:h.x=[]∨h.x∈exL
 o:h.o=[]∨h.o∈exL
theorem zpU(t:Ty):(0≤(tyH t).k∧(tyH t).k≤5)∧(0≤(tyH t).o∧(tyH t).o≤4):=by
 have h2:=z05 t.k 5 (by omega);have h3:=z05 t.o 4 (by omega);unfold tyH
 grind
theorem zo1:∀s∈nmL,s.length≤20:=by decide
theorem zlw{c:Cls}(hc:∀f∈c.fs,f.n∈nmL)(i:Nat):(c.fs.getD i z4a).n.length≤20:=by
 rw[List.getD_eq_getElem?_getD];cases h:c.fs[i]? with
 |none=>exact Nat.zero_le _
 |some f=>exact zo1 _ (hc f (gM h))
theorem z9O(x:RawH){c:Cls}(hn:∀f∈c.fs,f.n∈nmL):ChIn (z2W x c):=by
 have hk:=z05 x.k 6 (by omega);have hf:(if c.fs=[] then [] else(c.fs.getD (pick x.f c.fs.length).toNat z4a).n).length≤20:=by
  grind [zlw]
 have ht:=zpU x.t;have hx:=zc5 hn x.x (tyH x.t);have ho:=zc5 hn x.o (tyH x.t);have n1:=zgs x.n;have n2:=zgs x.m;unfold z2W
 dsimp only
 generalize(if c.fs=[] then [] else(c.fs.getD (pick x.f c.fs.length).toNat z4a).n)=f at*
 repeat' split
 all_goals refine⟨by dsimp only;omega,?_,?_,?_,?_,?_,?_,?_⟩
 all_goals first|exact hf|exact n1|exact n2|exact hx|exact ho|exact ht.1|exact ht.2|exact .inl rfl|(show(0:Int)≤0∧(0:Int)≤_;omega)|exact Nat.zero_le _
def z0H(l:Ln):Cls:=(zn l l.hs.length).1
theorem zgP(c:Cls)(hs:List Chg)(h:Chg){k:Nat}(hk:k≤hs.length):zn ⟨c,hs++[h]⟩ k=zn ⟨c,hs⟩ k:=by
 unfold zn;rw[List.take_append_of_le_length hk];rfl
theorem ze7{l:Ln}(hr:zY l=true)(h12:l.hs.length<12){h:Chg}(ho:okV (z0H l) h=true):zY ⟨l.c,l.hs++[h]⟩=true∧z0H ⟨l.c,l.hs++[h]⟩=⟨(z0H l).n,z0q (z0H l) h⟩:=by
 have h0:=z0h hr (Nat.le_refl _);have hrc:zd (z0H l)=true:=z17 h0;have hg:(l.hs++[h])[l.hs.length]?=some h:=by simp
 have hs:=z3b (l:=⟨l.c,l.hs++[h]⟩) hg;rw[zgP l.c l.hs h (Nat.le_refl _),z3P h h0]at hs;have ha:z03 (z0H l) h=(⟨(z0H l).n,z0q (z0H l) h⟩,0):=by
  unfold z03;rw[hrc,ho];rfl
 have hs:zn ⟨l.c,l.hs++[h]⟩ (l.hs.length+1)=z03 (z0H l) h:=hs;rw[ha]at hs;have e:(l.hs++[h]).length=l.hs.length+1:=by simp
 constructor
 ·unfold zY
  dsimp only
  rw[e,hs,show Nat.ble (l.hs.length+1) 12=true from Nat.ble_eq_true_of_le h12];rfl
 ·unfold z0H
  dsimp only
  rw[e,hs];rfl
def zed(h:Chg):Prop:=(h.k=1∨h.k=3∨h.k=5→h.n∈nmL)∧(h.k=5→h.m∈nmL)
theorem zgt(x:Int):nmH (pick x 6)∈nmL:=by
 have h:=z05 x 6 (by omega);generalize pick x 6=j at*;have:j=0∨j=1∨j=2∨j=3∨j=4∨j=5:=by omega
 rcases this with rfl|rfl|rfl|rfl|rfl|rfl<;>decide
theorem zlb(x:RawH)(c:Cls):zed (z2W x c):=by
 unfold z2W zed
 dsimp only
 have h1:=zgt x.n;have h2:=zgt x.m;generalize 1+pick x.k 6=k
 repeat' split
 all_goals simp_all
theorem zhm{c:Cls}{h:Chg}(ho:okV c h=true)(hc:∀f∈c.fs,f.n∈nmL)(hn:zed h):∀f∈z0q c h,f.n∈nmL:=by
 have hk:1≤h.k∧h.k≤6:=by
  unfold okV z0c z0A at ho;simp only[Bool.and_eq_true]at ho
  grind
 rw[←zcB ho];intro f hf;rcases List.mem_append.1 hf with hf|hf
 ·obtain⟨g,hg,hf⟩:=List.mem_flatMap.1 hf;have:=hc g hg;unfold z1w at hf;unfold zed at hn
  repeat' split at hf
  all_goals simp at hf
  all_goals grind
 ·unfold zed at hn;split at hf
  ·simp at hf;subst hf;exact hn.1 (.inl (by assumption))
  ·cases hf
def zdk(s:zB):Prop:=s=[]∨(s.length≤200∧∃r,z2x 1000 s=some r)
structure ChRd(h:Chg):Prop where
 f:h.f.length≤20
 n:h.n.length≤20
 m:h.m.length≤20
 x:zdk h.x
 o:zdk h.o
theorem zgK{s:zB}(h:s=[]∨s∈exL):zdk s:=by
 rcases h with h|h
 ·exact .inl h
 ·obtain⟨_,h2,r,hr,_⟩:=zgd h;exact .inr ⟨by omega,r,hr⟩
theorem ChIn.rd{h:Chg}(hi:ChIn h):ChRd h:=⟨hi.f,hi.n,hi.m,zgK hi.x,zgK hi.o⟩
structure RawL where
 c:Raw
 hs:List RawH
def z30(l:Ln)(r:RawH):Ln:=if okV (z0H l) (z2W r (z0H l))then⟨l.c,l.hs++[z2W r (z0H l)]⟩ else l
def z2w(x:RawL):Ln:=(x.hs.take 5).foldl z30 ⟨z0n x.c,[]⟩
structure GoodL(l:Ln):Prop where
 r:zY l=true
 n:∀f∈(z0H l).fs,f.n∈nmL
 h:∀h∈l.hs,ChRd h
theorem zlB{l:Ln}(hg:GoodL l)(h12:l.hs.length<12)(r:RawH):GoodL (z30 l r):=by
 unfold z30;by_cases ho:okV (z0H l) (z2W r (z0H l))=true
 ·rw[if_pos ho];obtain⟨a,b⟩:=ze7 hg.r h12 ho;refine⟨a,?_,fun h hh=> ?_⟩
  ·rw[b];exact zhm ho hg.n (zlb r _)
  ·rcases List.mem_append.1 hh with hh|hh
   ·exact hg.h h hh
   ·obtain rfl:=List.mem_singleton.1 hh;exact(z9O r hg.n).rd
 ·rw[if_neg ho];exact hg
theorem znw(l:Ln)(r:RawH):(z30 l r).hs.length≤l.hs.length+1∧(z30 l r).c=l.c:=by
 unfold z30;split
 ·simp
 ·simp
theorem z7X:∀(rs:List RawH) (l:Ln),GoodL l→l.hs.length+rs.length≤12→GoodL (rs.foldl z30 l)∧(rs.foldl z30 l).hs.length≤l.hs.length+rs.length∧(rs.foldl z30 l).c=l.c
 |[],l,h,_=>⟨h,by simp,rfl⟩
 |r::rs,l,h,hl=>by
  have h1:=znw l r;simp only[List.length_cons]at hl;obtain⟨a,b,c⟩:=z7X rs (z30 l r) (zlB h (by omega) r) (by omega);exact⟨a,by simp only[List.foldl_cons,List.length_cons];omega,by rw[List.foldl_cons,c,h1.2]⟩
theorem z9W(x:Raw):GoodL ⟨z0n x,[]⟩:=by
 have hr:=(z7N x).right;refine⟨?_,?_,fun h hh=>by cases hh⟩
 ·simp[zY,zn,z2s,hr]
 ·exact zfl x
theorem zfw(x:RawL):GoodL (z2w x)∧(z2w x).hs.length≤5∧(z2w x).c=z0n x.c:=by
 have hl:=List.length_take_le 5 x.hs;obtain⟨a,b,c⟩:=z7X (x.hs.take 5) ⟨z0n x.c,[]⟩ (z9W x.c) (by simp;omega);exact⟨a,by unfold z2w;simp at b;omega,c⟩
def z2U(s:List Ln)(x:RawL):List Ln:=if(z0y s (z2w x).c.n).2 then s else s++[z2w x]
def z3O(l:List RawL):List Ln:=if(l.take 4).foldl z2U []=[] then [⟨z0n ⟨0,[]⟩,[]⟩] else(l.take 4).foldl z2U []
structure GoodS(s:List Ln):Prop where
 r:RightS s
 g:∀l∈s,GoodL l∧l.hs.length≤5∧∃x,l.c=z0n x
theorem ze6{s:List Ln}{n:zB}(h:(z0y s n).2=false):∀l∈s,l.c.n≠n:=by
 unfold z0y at h;split at h
 ·cases h
 ·rename_i hn;rw[List.findIdx?_eq_none_iff]at hn;intro l hl e;have:=hn l hl;simp[e]at this
theorem zjr{s:List Ln}(h:GoodS s)(hl:s.length<8)(x:RawL):GoodS (z2U s x)∧(z2U s x).length≤s.length+1:=by
 unfold z2U;cases hn:(z0y s (z2w x).c.n).2
 ·rw[if_neg (by simp)];have hx:=zfw x;have hno:=ze6 hn;refine⟨⟨⟨by simp;omega,fun l hm=> ?_,fun i j a b ha hb he=> ?_⟩,fun l hm=> ?_⟩,by simp⟩
  ·rcases List.mem_append.1 hm with hm|hm
   ·exact h.r.line l hm
   ·obtain rfl:=List.mem_singleton.1 hm;exact hx.1.r
  ·have key:∀(i:Nat) a,(s++[z2w x])[i]?=some a→(i<s.length∧s[i]?=some a)∨(i=s.length∧a=z2w x):=fun i a ha=>by
    rw[List.getElem?_append]at ha;split at ha
    ·exact .inl ⟨by assumption,ha⟩
    ·rename_i hi;have:=(gJ ha)
     obtain⟨h1,h2⟩:=this;simp at h1;exact .inr ⟨by omega,by simp at h2;exact h2.symm⟩
   rcases key i a ha with⟨h1,h2⟩|⟨h1,rfl⟩<;>rcases key j b hb with⟨h3,h4⟩|⟨h3,rfl⟩
   ·exact h.r.own i j a b h2 h4 he
   ·exact absurd he (hno a (gM h2))
   ·exact absurd he.symm (hno b (gM h4))
   ·omega
  ·rcases List.mem_append.1 hm with hm|hm
   ·exact h.g l hm
   ·obtain rfl:=List.mem_singleton.1 hm;exact⟨hx.1,hx.2.1,x.c,hx.2.2⟩
 ·rw[if_pos rfl];exact⟨h,by omega⟩
theorem z7a:∀(xs:List RawL) (s:List Ln),GoodS s→s.length+xs.length≤8→GoodS (xs.foldl z2U s)∧(xs.foldl z2U s).length≤s.length+xs.length
 |[],s,h,_=>⟨h,by simp⟩
 |x::xs,s,h,hl=>by
  simp only[List.length_cons]at hl;obtain⟨h1,h2⟩:=zjr h (by omega) x;obtain⟨a,b⟩:=z7a xs (z2U s x) h1 (by omega);exact⟨a,by simp only[List.foldl_cons,List.length_cons];omega⟩
theorem zch:GoodS []:=⟨⟨by decide,fun l h=>(by cases h),fun i j a b h=>(by cases h)⟩,fun l h=>(by cases h)⟩
theorem zcZ(l:List RawL):GoodS (z3O l)∧(z3O l).length≤4∧z3O l≠[]:=by
 have hl:=List.length_take_le 4 l;obtain⟨a,b⟩:=z7a (l.take 4) [] zch (by simp;omega);unfold z3O;by_cases h:(l.take 4).foldl z2U []=[]
 ·rw[if_pos h];have hg:=z9W ⟨0,[]⟩;refine⟨⟨⟨by simp,fun x hx=> ?_,fun i j a b ha hb _=> ?_⟩,fun x hx=> ?_⟩,by simp,by simp⟩
  ·obtain rfl:=List.mem_singleton.1 hx;exact hg.r
  ·have h1:=(gJ ha).1;have h2:=(gJ hb).1;simp at h1 h2;omega
  ·obtain rfl:=List.mem_singleton.1 hx;exact⟨hg,by simp,_,rfl⟩
 ·rw[if_neg h];exact⟨a,by simp at b;omega,h⟩
end Go.Mor
end

section
namespace Go.Proofs.YtpmlapgbmgbilaaGreatDoor
open Go Go.RowKit Go.Mor Go.Sh Go.Sh.Cd1
section
open Go.Sh.Cd7
theorem z7R(l:List Fld)(s:zB):∃p:Nat,z1X l s=.tuple [I (p:Int),B (z0F l s)]∧(z0F l s=true→atV l s=p):=by
 unfold z1X z0F;by_cases h:fieldAt l s<0
 ·rw[if_pos h];exact⟨0,by simp[h],fun h'=>by simp[h]at h'⟩
 ·rw[if_neg h];refine⟨(fieldAt l s).toNat,?_,fun _=>rfl⟩;rw[decide_eq_false h,Int.toNat_of_nonneg (by omega)];rfl
theorem z4u(l:List Fld)(s b:zB):z2l l s b=(!z0F l s||s==b):=by unfold z2l z0F;simp
theorem z8o(g:Sh.Glob)(c:Cls)(h:Chg)(hc:ClsOk c)(hf:z0D h.f)(hn:z0D h.n)(hm:z0D h.m)(hx:RTx h.x)(ho:RTx h.o):zC g 29 [clT c,chT h] [] (B (okV c h)) []:=by
 have HC:=z5N g c hc;have HW:=zeF g h hf hn hm hx ho;have F1:=z3C g c h.f hc.len;have F2:=z3C g c h.n hc.len;have F3:=z3C g c h.m hc.len;have T1:=z9D g h.x c h.t hx hc;have T2:=z9D g h.o c h.t ho hc;obtain⟨p1,e1,a1⟩:=z7R c.fs h.f;obtain⟨p2,e2,a2⟩:=z7R c.fs h.n;obtain⟨p3,e3,a3⟩:=z7R c.fs h.m;rw[e1]at F1;rw[e2]at F2;rw[e3]at F3;have hlen:=hc.len;obtain⟨k,f,n,m,⟨tk,ot⟩,x,o⟩:=h
 dsimp only at*
 have hO:okV c ⟨k,f,n,m,⟨tk,ot⟩,x,o⟩=(zd c&&(z0c ⟨k,f,n,m,⟨tk,ot⟩,x,o⟩&&z0G c ⟨k,f,n,m,⟨tk,ot⟩,x,o⟩)):=by unfold okV;rw[Bool.and_assoc]
 rw[hO];clear hO;have hk6:z0c ⟨k,f,n,m,⟨tk,ot⟩,x,o⟩=true→(k=1∨k=2∨k=3∨k=4∨k=5∨k=6)∧((k=1∨k=3)→(n==[])=false):=fun hw=>by
  have hk:k=1∨k=2∨k=3∨k=4∨k=5∨k=6:=by
   unfold z0c z0A at hw
   dsimp only at hw
   by_cases h1:k=1
   ·omega
   by_cases h2:k=2∨k=6
   ·omega
   by_cases h3:k=3
   ·omega
   by_cases h4:k=4
   ·omega
   by_cases h5:k=5
   ·omega
   simp[h1,h2,h3,h4,h5]at hw
  refine⟨hk,fun h13=> ?_⟩;have hrn:zb n=true:=by
   rcases h13 with rfl|rfl
   ·simp only[z0c,z0A,z1u,if_true,Bool.and_eq_true]at hw;exact hw.1.1.1.1.2
   ·simp only[z0c,z0A,z1u,show ¬(3:Int)=1 from by decide,show ¬(3:Int)=2 from by decide,show ¬(3:Int)=6 from by decide,false_or,if_false,if_true,Bool.and_eq_true]at hw;exact hw.1.1.1.1.2
  cases n with
  |nil=>revert hrn;decide
  |cons b r=>rfl
 generalize hwv:z0c ⟨k,f,n,m,⟨tk,ot⟩,x,o⟩=bw at*;generalize hx1:(zz c x ⟨tk,ot⟩).is=b1 at*;generalize hx2:(zz c o ⟨tk,ot⟩).is=b2 at*;generalize hh1:z0F c.fs f=f1 at*;generalize hh2:z0F c.fs n=f2 at*;generalize hh3:z0F c.fs m=f3 at*;have w:=hc.len;refine za tf_151 ?_;unfold clT chT tyT B at*;cases hrc:zd c
 ·rw[hrc]at HC;simp only[vW,seval];refine z8 HC ?_;try trivial
 rw[hrc]at HC;cases bw with
 |false=>
  simp only[vW,seval];refine z8 HC ?_;refine z8 HW ?_;try trivial
 |true=>
 obtain⟨hk,hnn⟩:=hk6 rfl;clear hk6;simp only[vW,seval];refine z8 HC ?_;refine z8 HW ?_;refine z8 F1 ?_;refine z8 F2 ?_;refine z7 F3 ?_;simp only[vW,seval,clV];refine z7 T1 ?_;rcases hk with rfl|rfl|rfl|rfl|rfl|rfl
 ·have hm:z0G c ⟨1,f,n,m,⟨tk,ot⟩,x,o⟩=(decide (c.fs.length<8)&&(!f2&&b1)):=by
   simp only[z0G,z4u,show ¬(1:Int)=2 from by decide,show ¬(1:Int)=3 from by decide,show ¬(1:Int)=4 from by decide,show ¬(1:Int)=5 from by decide,if_false,if_true,hx1,hx2,hh1,hh2,hh3,hnn (.inl rfl)];simp only[Bool.or_false,Bool.and_assoc]
  rw[hm];clear hm;by_cases h8:c.fs.length<8
  ·have d8:(c.fs.length:Int)<8:=by omega
   rw[decide_eq_true h8];cases f2<;>cases b1<;>(
    simp only[vW,seval,d8,clV];try rfl)
  ·have d8:¬(c.fs.length:Int)<8:=by omega
   rw[decide_eq_false h8];cases f2<;>cases b1<;>(
    simp only[vW,seval,d8,clV];try rfl)
 ·have hm:z0G c ⟨2,f,n,m,⟨tk,ot⟩,x,o⟩=(f1):=by
   simp only[z0G,z4u,show ¬(2:Int)=1 from by decide,show ¬(2:Int)=3 from by decide,show ¬(2:Int)=4 from by decide,show ¬(2:Int)=5 from by decide,if_false,if_true,hx1,hx2,hh1,hh2,hh3]
  rw[hm];clear hm;simp only[vW,seval];try rfl
 ·have hm:z0G c ⟨3,f,n,m,⟨tk,ot⟩,x,o⟩=(f1&& !f2):=by
   simp only[z0G,z4u,show ¬(3:Int)=1 from by decide,show ¬(3:Int)=2 from by decide,show ¬(3:Int)=4 from by decide,show ¬(3:Int)=5 from by decide,if_false,if_true,hx1,hx2,hh1,hh2,hh3,hnn (.inr rfl)];simp only[Bool.or_false,Bool.and_assoc]
  rw[hm];clear hm;cases f1<;>cases f2<;>(
   simp only[vW,seval];try rfl)
 ·have hm:z0G c ⟨4,f,n,m,⟨tk,ot⟩,x,o⟩=(f1&&b1):=by
   simp only[z0G,z4u,show ¬(4:Int)=1 from by decide,show ¬(4:Int)=2 from by decide,show ¬(4:Int)=3 from by decide,show ¬(4:Int)=5 from by decide,if_false,if_true,hx1,hx2,hh1,hh2,hh3]
  rw[hm];clear hm;cases f1<;>cases b1<;>(
   simp only[vW,seval];try rfl)
 ·have hm:z0G c ⟨5,f,n,m,⟨tk,ot⟩,x,o⟩=(f1&&(decide (c.fs.length<8)&&(!(n==m)&&((!f2||n==f)&&((!f3||m==f)&&(b1&&b2)))))):=by
   simp only[z0G,z4u,show ¬(5:Int)=1 from by decide,show ¬(5:Int)=2 from by decide,show ¬(5:Int)=3 from by decide,show ¬(5:Int)=4 from by decide,if_false,if_true,hx1,hx2,hh1,hh2,hh3];simp only[Bool.or_false,Bool.and_assoc]
  rw[hm];clear hm;generalize hq1:(n==m)=q1;generalize hq2:(n==f)=q2;generalize hq3:(m==f)=q3;cases f1
  ·simp only[vW,seval,clV];try rfl
  by_cases h8:c.fs.length<8
  case neg=>
   have d8:¬(c.fs.length:Int)<8:=by omega
   rw[decide_eq_false h8];simp only[vW,seval,d8,clV];try rfl
  have d8:(c.fs.length:Int)<8:=by omega
  rw[decide_eq_true h8];cases q1
  case true=>
   simp only[vW,seval,d8,clV,hq1];try rfl
  have fin:(!f2||q2)=true→(!f3||q3)=true→b1=true→(b2=(true&&(true&&(!false&&((!f2||q2)&&((!f3||q3)&&(b1&&b2))))))):=fun r1 r2 r3=>by rw[r1,r2,r3];rfl
  cases f2
  ·cases f3
   ·cases b1
    ·simp only[vW,seval,d8,clV,hq1];try rfl
    ·simp only[vW,seval,d8,clV,hq1];refine z8 T2 ?_;try trivial
   ·cases q3
    ·simp only[vW,seval,d8,clV,hq1,hq3];try rfl
    ·cases b1
     ·simp only[vW,seval,d8,clV,hq1,hq3];try rfl
     ·simp only[vW,seval,d8,clV,hq1,hq3];refine z8 T2 ?_;try trivial
  ·cases q2
   ·simp only[vW,seval,d8,clV,hq1,hq2];try rfl
   ·cases f3
    ·cases b1
     ·simp only[vW,seval,d8,clV,hq1,hq2];try rfl
     ·simp only[vW,seval,d8,clV,hq1,hq2];refine z8 T2 ?_;try trivial
    ·cases q3
     ·simp only[vW,seval,d8,clV,hq1,hq2,hq3];try rfl
     ·cases b1
      ·simp only[vW,seval,d8,clV,hq1,hq2,hq3];try rfl
      ·simp only[vW,seval,d8,clV,hq1,hq2,hq3];refine z8 T2 ?_;try trivial
 ·have hm:z0G c ⟨6,f,n,m,⟨tk,ot⟩,x,o⟩=(f1&&decide ((c.fs.getD p1 z4a).t.k≤3)):=by
   simp only[z0G,z4u,show ¬(6:Int)=1 from by decide,show ¬(6:Int)=2 from by decide,show ¬(6:Int)=3 from by decide,show ¬(6:Int)=4 from by decide,show ¬(6:Int)=5 from by decide,if_false,if_true,hx1,hx2,hh1,hh2,hh3];cases f1
   ·rfl
   ·rw[a1 rfl]
  rw[hm];clear hm;cases f1
  ·simp only[vW,seval];refine z8 F1 ?_;try trivial
  obtain⟨y,ey⟩:∃y,c.fs[p1]?=some y:=by
   obtain⟨y,ey,_⟩:=Go.Mor.has_at (c:=c) hh1;exact⟨y,by rw[←a1 rfl];exact ey⟩
  rw[Go.Mor.getD_of ey];by_cases h3:y.t.k≤3
  ·simp only[vW,seval];refine z7 F1 ?_;simp only[vW,seval,clV,ey,h3];try rfl
  ·simp only[vW,seval];refine z7 F1 ?_;simp only[vW,seval,clV,ey,h3];try rfl
end
section
open Go.Sh.Cd6
theorem z7j(g:Sh.Glob)(c n:Int)(hc:I64 c)(hn:0<n):zC g 35 [I c,I n] [] (I (Go.Mor.pick c n)) []:=by
 obtain⟨h0,h1⟩:=hc;refine za tf_112 ?_;have hne:¬n=0:=by omega
 unfold Go.Mor.pick;by_cases hneg:c<0
 ·rw[if_pos hneg];have w1:IntKind.i64.wrap (c+1)=c+1:=wrap64 (by omega) (by omega);have w2:IntKind.i64.wrap (0-(c+1))= -(c+1):=wG;have hm:(-(c+1)).tmod n=(-(c+1))%n:=Int.tmod_eq_emod_of_nonneg (by omega);simp only[vW,seval,hneg,hne,w1,w2,hm]
 ·rw[if_neg hneg];have hm:c.tmod n=c%n:=Int.tmod_eq_emod_of_nonneg (by omega);simp only[vW,seval,hneg,hne,hm]
theorem zdO(l:List Fld)(f:Fld):flR (l++[f])=flR l++[flR1 f]:=by unfold flR;rw[List.map_append];rfl
theorem zfp(l:List Fld)(s:zB):∃(p:Int) (t:Bool),z1X l s=.tuple [I p,.pv (.v (.bool t))]∧(fieldAt l s<0 ↔ t=false):=by
 unfold z1X B;by_cases h:fieldAt l s<0
 ·rw[if_pos h];exact⟨0,false,rfl,fun _=>rfl,fun _=>h⟩
 ·rw[if_neg h];exact⟨_,true,rfl,fun h'=>absurd h' h,fun h'=>by cases h'⟩
theorem z4J(g:Sh.Glob)(x:Raw)(hx:RawOk x):zC g 12 [z5K x] [] (clT (z0n x)) []:=by
 have PN:=z7j g x.n 6 hx.n (by decide);have hb:=z05 x.n 6 (by decide);have hlx:=hx.len;obtain⟨q,hq⟩:=Int.eq_ofNat_of_zero_le hb.1;have ec:=zpn (i:=q) (by omega);have e0:z0n x=⟨nmC (q:Int),(x.fs.take 6).foldl z1J []⟩:=by unfold z0n;rw[hq]
 rw[e0];rw[hq]at PN;refine z2a tf_111 ?_;unfold z5K clT;simp only[vW,seval];refine z7 PN ?_;simp only[vW,seval,ec];refine zk (σ:={i:Nat // i≤x.fs.length∧i≤6}) (fun i=>⟨[(1,.ptr 1 0),(2,.ptr 2 0),(3,.pv (.sl 1 [[PV.v (.string ⟨#[97]⟩)],[.v (.string ⟨#[98,50]⟩)],[.v (.string ⟨#[110,97,109,101]⟩)],[.v (.string ⟨#[110,101,120,116,95,111,110,101]⟩)],[.v (.string ⟨#[107,105,100,115]⟩)],[.v (.string ⟨#[120]⟩)]])),(4,.ptr 4 0),(5,I (i.1:Int))],
   [(1,[I x.n,.pv (.sl 4 (rfR x.fs))]),(2,[S ⟨#[]⟩,zr]),(4,[S (str (nmC (q:Int))),.own 3000 4 (flR ((x.fs.take i.1).foldl z1J []))])],[(3000,(71,4,((x.fs.take i.1).foldl z1J []).length))],[]⟩) (fun i=>6-i.1) ⟨0,Nat.zero_le _,Nat.zero_le _⟩ ?_ ?_
 ·refine ES.Lw.trans ?_ (z5y (x:=4) (j:=1) (d:=3000) (e:=71) (W:=4) (.inr (by decide)) (by decide) rfl (by simp only[vcA,seval]) rfl);exact z18 rfl
 rintro⟨i,hi,hi6⟩;by_cases hlt:i<x.fs.length∧i<6
 ·obtain⟨hlt,hl6⟩:=hlt;have d1:(i:Int)<(x.fs.length:Int):=by omega
  have d2:(i:Int)<6:=by omega
  obtain⟨r,er⟩:∃r,x.fs[i]?=some r:=⟨_,gE hlt⟩
  have w1:=wS i;obtain⟨r1,r2,r3⟩:=hx.fs r (gM er);have P1:=z7j g r.n 6 r1 (by decide);have P2:=z7j g r.k 5 r2 (by decide);have P3:=z7j g r.o 4 r3 (by decide);have b1:=z05 r.n 6 (by decide);have b2:=z05 r.k 5 (by decide);have b3:=z05 r.o 4 (by decide);have hst:=zay x.fs i r er;have hal:=ziS x.fs i;rw[z1J]at hst;have hF:z3h r=⟨nmF (Go.Mor.pick r.n 6),⟨1+Go.Mor.pick r.k 5,if Go.Mor.pick r.k 5=4 then 1+Go.Mor.pick r.o 4 else 0⟩,r.ix&&decide (1+Go.Mor.pick r.k 5≤3)⟩:=rfl;rw[hF]at hst;simp only[]at hst;obtain⟨j,hj⟩:=Int.eq_ofNat_of_zero_le b1.1;have ej:=zpo (i:=j) (by omega);rw[hj]at P1 hst;change _=(if fieldAt ((x.fs.take i).foldl z1J []) (nmF (j:Int))<0 then _ else(x.fs.take i).foldl z1J [])at hst;generalize(x.fs.take i).foldl z1J []=acc at*;generalize Go.Mor.pick r.k 5=b at*;generalize Go.Mor.pick r.o 4=o at*;have HF:=z3C g ⟨nmC (q:Int),acc⟩ (nmF (j:Int)) (by show acc.length≤_;omega);obtain⟨p,t,hp,ht⟩:=zfp acc (nmF (j:Int));rw[show z1X (Cls.fs ⟨nmC (q:Int),acc⟩) (nmF (j:Int))=_ from hp]at HF;unfold clT at HF;have w2:IntKind.i64.wrap (1+b)=1+b:=wrap64 (by omega) (by omega);have w3:IntKind.i64.wrap (1+o)=1+o:=wrap64 (by omega) (by omega);have hfl:=z2X acc;by_cases h4:b=4
  ·have d5:1+b=5:=by omega
   have d3:¬1+b≤3:=by omega
   have hix:(r.ix&&decide (1+b≤3))=false:=by rw[decide_eq_false d3,Bool.and_false]
   rw[if_pos h4,hix,d5]at hst;have w5:IntKind.i64.wrap 5=5:=wrap64 (by omega) (by omega);cases hr:r.ix;all_goals(
    simp only[vW,seval,zi4,zb1,z7s,d1,d2,er,zr];refine z7 P1 ?_;simp only[vW,seval,ej];refine z7 P2 ?_;simp only[vW,seval,w2,d5,w5];refine z7 P3 ?_;simp only[vW,seval,w3,hr];refine z7 HF ?_;cases t
    ·rw[if_pos (ht.2 rfl)]at hst;simp only[vW,seval,hfl,w1];refine⟨⟨by omega,by unfold maxLen;omega⟩,zc ⟨i+1,hlt,hl6⟩ (by show 6-(i+1)<6-i;omega) ?_⟩;simp only[hst,zdO,List.length_append,List.length_singleton];apply z0g<;>simp[leL,lk,sv,Nat.beq,I,S,ES.kill,has,drp,zr,flR1]
    ·rw[if_neg (fun h=>Bool.noConfusion (ht.1 h))]at hst;simp only[vW,seval,w1];refine zc ⟨i+1,hlt,hl6⟩ (by show 6-(i+1)<6-i;omega) ?_;simp only[hst];exact lwA)
  ·have d5:¬1+b=5:=by omega
   rw[if_neg h4]at hst;have hc:(r.ix=false∧(True∨False)∧(r.ix&&decide (1+b≤3))=false)∨(r.ix=true∧1+b≤3∧(r.ix&&decide (1+b≤3))=true)∨(r.ix=true∧¬1+b≤3∧(r.ix&&decide (1+b≤3))=false):=by
    cases r.ix
    ·exact .inl ⟨rfl,.inl trivial,rfl⟩
    ·by_cases h:1+b≤3
     ·exact .inr (.inl ⟨rfl,h,by rw[decide_eq_true h];rfl⟩)
     ·exact .inr (.inr ⟨rfl,h,by rw[decide_eq_false h];rfl⟩)
   rcases hc with⟨hr,d3,hix⟩|⟨hr,d3,hix⟩|⟨hr,d3,hix⟩
   all_goals(
    rw[hix]at hst;simp only[vW,seval,zi4,zb1,z7s,d1,d2,er,zr];refine z7 P1 ?_;simp only[vW,seval,ej];refine z7 P2 ?_;simp only[vW,seval,w2,d5,hr,d3];refine z7 HF ?_;cases t
    ·rw[if_pos (ht.2 rfl)]at hst;simp only[vW,seval,hfl,w1];refine⟨⟨by omega,by unfold maxLen;omega⟩,zc ⟨i+1,hlt,hl6⟩ (by show 6-(i+1)<6-i;omega) ?_⟩;simp only[hst,zdO,List.length_append,List.length_singleton];apply z0g<;>simp[leL,lk,sv,Nat.beq,I,S,ES.kill,has,drp,zr,flR1]
    ·rw[if_neg (fun h=>Bool.noConfusion (ht.1 h))]at hst;simp only[vW,seval,w1];refine zc ⟨i+1,hlt,hl6⟩ (by show 6-(i+1)<6-i;omega) ?_;simp only[hst];exact lwA)
 ·have he:(x.fs.take i).foldl z1J []=(x.fs.take 6).foldl z1J []:=by
   by_cases h:i<6
   ·have h1:x.fs.length≤i:=by omega
    rw[List.take_of_length_le h1,List.take_of_length_le (by omega)]
   ·obtain rfl:i=6:=by omega
    rfl
  rw[←he];by_cases hl:i<x.fs.length
  ·have d1:(i:Int)<(x.fs.length:Int):=by omega
   have d2:¬(i:Int)<6:=by omega
   simp only[vW,seval,zb1,d1,d2,zr]
  ·have d1:¬(i:Int)<(x.fs.length:Int):=by omega
   simp only[vW,seval,zb1,d1,zr]
end
end Go.Proofs.YtpmlapgbmgbilaaGreatDoor
end

section
namespace Go.Sh.Cd10
open Go Go.Sh
abbrev gQ(a:GA):Prop:=gT Go.Proofs.Tryz.prog a
theorem gK{a:GA}(h:gQ a:=by unfold gQ gT;kernel_rfl):gQ a:=h
theorem tf_119:gQ ⟨3,231,[],[],[[1002,8],[33],[0,34035],[3,36040],[6,41051],[12,52058],[13,59],[5,9011,14015,60065],[8,60,66],[5,9011,14015,67082],[8,15,67,83088],[11,89094],[16019,95114],[5,9010,14,115],[5,8,115117],[118123],[20,23,124130],[22,131151],[9010,14,21,24,152],[8,24,152],[14,153154],[14,153],[155158],[28,160161],[159,162173],[26027,174179],[9010,21,25,180],[8,180],[181188],[8,190191,229],[189,192198],[199205],[29032,206228],[9010,21,25,28,229],[9010,21,25,230]],[.tmp 8],false⟩:=gK
theorem tf_121:gQ ⟨5,168,[],[],[[0],[24027],[28033],[34040],[41047],[48052],[53057],[12,58062],[1,14,63068],[69073],[74078],[20,79083],[22,84088],[2011,13,15019,21,23,89167]],[.tmp 0],false⟩:=gK
theorem tf_120:gQ ⟨6,50,[(23,0),(29,0),(37,0),(45,0),(47,0)],[],[[],[8],[],[9015],[5,17018,33],[16,19023],[6,24031],[7,32],[5,33039],[0,4,40042],[43048],[3,43,49]],[.cell true 1 2],false⟩:=gK
theorem tf_122:gQ ⟨7,13,[],[],[[4],[5],[6009],[1000001,6,10012]],[.tmp 4],false⟩:=gK
theorem tf_118:gQ ⟨9,25,[],[],[[0],[5006],[],[7010],[12013],[11,14023],[1,3004,24]],[.cell true 2 2],false⟩:=gK
theorem tf_166:gQ ⟨10,59,[(16,0),(33,0),(35,0),(43,0),(54,0)],[],[[0,2,7],[13018],[19],[1,3,5,8009,20022],[7,9,20,23025],[1,3,5,8,26027],[7008,10,26,28037],[38],[1,3,5,11,39041],[3,7,11,39,42043],[1,5,44057],[12,58]],[.cell true 1 6,.tmp 7],false⟩:=gK
theorem tf_163:gQ ⟨11,20,[],[],[[0,4005],[1002,8013],[14],[6007,15016],[6007,15,17019]],[.tmp 4,.tmp 5],false⟩:=gK
theorem tf_158:gQ ⟨13,50,[(13,0),(21,0),(28,0),(40,0),(44,0),(46,0)],[],[[1000001,5],[6,11015],[16],[2003,7,17019],[5,7,17,20021],[2003,22023],[5,8,22,24030],[9,31036],[2003,37038],[2,5,37,39040],[3,41048],[10,49]],[.cell true 1 4,.tmp 5],false⟩:=gK
theorem tf_162:gQ ⟨14,23,[],[],[[0,4005],[2,8],[],[12015],[7,16019],[1,6,9011,20021],[4006,20,22],[1,9011]],[.tmp 4,.tmp 5],false⟩:=gK
theorem tf_159:gQ ⟨15,34,[],[],[[0,7],[1,3,10015],[16],[2,8009,17019],[7,9,17,20027],[2,8,28029],[2,8,28,30033]],[.cell true 2 6,.tmp 7],false⟩:=gK
theorem tf_161:gQ ⟨21,38,[],[],[[0,2003],[8010],[1,11],[2003,11012],[],[16019],[7,20027],[5006,28034],[1,4,13015,35036],[2004,35,37],[1,13015]],[.tmp 2,.tmp 3],false⟩:=gK
theorem tf_164:gQ ⟨22,10,[(9,1)],[],[[1000001,4],[2003,5009]],[.tmp 4],false⟩:=gK
theorem tf_160:gQ ⟨23,44,[],[],[[0,10011],[1,5,14019],[20],[2004,12013,21022],[10011,13,21,23035],[2004,12,36],[2004,12,36043]],[.tmp 10,.tmp 11],false⟩:=gK
theorem tf_152:gQ ⟨24,27,[],[],[[4],[6009],[1000001,10],[4,10],[11013],[4,15016,26],[14,17025],[1000001,5,26],[1000001,5]],[.tmp 4],false⟩:=gK
theorem tf_117:gQ ⟨25,41,[(9,0),(29,0),(30,0),(37,0)],[],[[0],[7010],[],[11018],[5,20021,33],[19,22032],[6],[5,33039],[1,3004,40]],[.cell true 3 2],false⟩:=gK
theorem tf_157:gQ ⟨26,24,[],[],[[0,4005],[],[7010],[4005,12013,22],[11,14021],[1002,6,22023],[1002,6]],[.tmp 4,.tmp 5],false⟩:=gK
theorem tf_149:gQ ⟨30,52,[(9,0),(14,0),(35,0),(48,0)],[],[[1000001,5],[8009],[2003,10011],[5,10,12014],[2003,15016],[5,15,17019],[],[20023],[25026],[24,27037],[2,7,38039],[3,40050],[3,6,40,51]],[.cell true 2 4,.tmp 5],false⟩:=gK
theorem tf_169:gQ ⟨31,32,[],[],[[0,5],[6,8012],[13],[1002,7,14016],[5,7,14,17024],[1002,25026],[1002,25,27031]],[.cell true 3 4,.tmp 5],false⟩:=gK
abbrev c_170_0:=kV [2,3,4] [kO 2 0,kO 3 1,oD 4 (.new [(.string ⟨#[]⟩),(.slice none 0 0)])] [0,1]
abbrev c_170_1:=kV [5] [oD 5 (.new [(.int .i64 0)]),oN (.st 1 (.tmp 5) (vI 0))] []
abbrev c_170_2:=kV [2032,2033,2034,2035] [oL 7 true 3 2,kC 8 62 0 7] [2,7]
abbrev c_170_3:=kR [oD 17 (.build [(.string ⟨#[]⟩),(.slice none 0 0)] []),kS 2 4 17] [3,5,8,17]
noncomputable abbrev F_170:SFunc:=⟨18,(.seq c_170_0 (.seq c_170_1 (.seq (.seq c_170_2 (.block 0 (.raw 18 (z69 Go.Proofs.Tryz.prog 33 0)))) (.seq c_170_3 .ret)))),[.cell true 2 4],false⟩
theorem tf_170:zU Go.Proofs.Tryz.prog 33 (z3m [(8,0)]) (fpT []) (z3n [(0,[0,1]),(2,[2,7]),(7,[3,5,8,17])]) false=some F_170:=by kernel_rfl
theorem tf_100:gQ ⟨34,7,[(5,1)],[],[[0],[1,3006]],[.cell true 1 2],false⟩:=gK
theorem tf_99:gQ ⟨38,8,[(5,1)],[],[[0],[3006],[1,7]],[.cell true 2 2],false⟩:=gK
abbrev c_171_0:=kV [1,2] [kO 1 0,oD 2 (.new [(.bool false)])] [0]
abbrev c_171_1:=kR [kA 5 2 1,oL 6 false 1 5,kZ 7 6,kK 8 .gtr 3 7 12] [5,6,7]
abbrev c_171_2:=kR [oN (.st 1 (.tmp 2) (.val (.bool false)))] [1,8]
abbrev c_171_3:=kV [2040,2041,2042,2043] [oL 9 true 3 1,kC 10 62 0 9] [1,8,9]
abbrev c_171_4:=kR [oN (.st 1 (.tmp 2) (.val (.bool true)))] [10]
noncomputable abbrev F_171:SFunc:=⟨15,(.seq c_171_0 (.seq (.seq c_171_1 (.cond (.tmp 8) (.seq c_171_2 .ret) .skip)) (.seq (.seq c_171_3 (.block 0 (.raw 15 (z69 Go.Proofs.Tryz.prog 49 0)))) (.seq c_171_4 .ret)))),[.cell false 1 2],false⟩
theorem tf_171:zU Go.Proofs.Tryz.prog 49 (z3m [(10,0)]) (fpT []) (z3n [(0,[0]),(1,[5,6,7]),(2,[1,8]),(3,[1,8,9]),(7,[10])]) false=some F_171:=by kernel_rfl
theorem tf_165:gQ ⟨51,17,[(15,1)],[],[[1000001,4],[2003,5016]],[.tmp 4],false⟩:=gK
abbrev c_167_0:=kV [4,5,6] [kO 4 0,kO 5 1,kO 6 2,oD 8 (.mov (.val (.slice none 0 0))),kI 9 0] [0,1,2,8,9]
abbrev c_167_1:=kV [2064,2065,2066,2067,10,11,12] [oM 15 3,kC 16 78 0 15,oD 10 (.new [(.int .i64 0)]),oD 11 (.new [(.slice none 0 0)]),oD 12 (.new [(.int .i64 0)]),oN (.st 1 (.tmp 10) (vI 0)),kS 1 11 16,oN (.st 1 (.tmp 12) (vI 0))] [3,15,16]
abbrev c_167_2:=kV [13] [oD 17 (.mkf (.func 79) [] [.tmp 10,.tmp 5,.tmp 11,.tmp 12,.tmp 6,.tmp 4]),oD 13 (.new [.nilFunc]),kS 1 13 17] [5,6,10,17]
abbrev c_167_3:=kV [2076,2077,2078,2079] [oL 18 true 3 4,kC 19 62 0 18] [4,18]
abbrev c_167_4:=kR [oL 26 false 1 12,kK 27 .neq 47 26 0] [13,19,26]
abbrev c_167_5:=kR [oL 28 false 1 12,oD 8 (.mov (.val (.slice none 0 0))),oM 9 28] [11,12,27,28]
abbrev c_167_6:=kR [oL 29 false 1 11,oM 8 29,kI 9 0] [11,12,27,29]
noncomputable abbrev F_167:SFunc:=⟨30,(.seq c_167_0 (.seq c_167_1 (.seq c_167_2 (.seq (.seq c_167_3 (.block 0 (.raw 30 (z69 Go.Proofs.Tryz.prog 54 0)))) (.seq (.seq c_167_4 (.cond (.tmp 27) (.seq c_167_5 .ret) .skip)) (.seq c_167_6 .ret)))))),[.tmp 8,.tmp 9],false⟩
theorem tf_167:zU Go.Proofs.Tryz.prog 54 (z3m [(16,0),(19,0),(24,1)]) (fpT []) (z3n [(0,[0,1,2,8,9]),(1,[3,15,16]),(2,[5,6,10,17]),(3,[4,18]),(6,[13,19,26]),(7,[11,12,27,28]),(8,[11,12,27,29])]) false=some F_167:=by kernel_rfl
theorem tf_172:gQ ⟨62,4,[],[],[[0,2],[1,3]],[.tmp 2],false⟩:=gK
theorem tf_105:gQ ⟨63,29,[(25,1),(13,1)],[],[[4],[8009],[1000001,10],[4,10013],[0],[],[17020],[6007,21026],[27],[1,5,14016,28]],[.tmp 4],false⟩:=gK
theorem tf_107:gQ ⟨64,12,[(9,1)],[],[[0],[3006],[7010],[1,11]],[.cell true 3 2],false⟩:=gK
theorem tf_104:gQ ⟨68,29,[(25,1)],[],[[4],[8009],[1000001,10],[4,10013],[0],[],[17020],[6007,21026],[27],[1,5,14016,28]],[.tmp 4],false⟩:=gK
theorem tf_109:gQ ⟨69,4,[],[],[[0],[1,3]],[.cell true 4 2],false⟩:=gK
theorem tf_102:gQ ⟨78,5,[(4,1)],[],[[2],[0,3004]],[.tmp 2],false⟩:=gK
theorem tf_168:gQ ⟨79,50,[],[],[[0,8],[9010],[11017],[2,11,18028],[3,6007,29040],[3,6007,29,41042],[1,4005,43049]],[.tmp 8],false⟩:=gK
theorem tf_173:gQ ⟨91,44,[(15,1),(37,1)],[],[[7008],[9010],[11],[4,11019],[1,20021],[],[25027],[6,28033],[4,34041],[42043]],[],false⟩:=gK
theorem tf_103:gQ ⟨92,29,[(25,1),(13,1)],[],[[4],[8009],[1000001,10],[4,10013],[0],[],[17020],[6007,21026],[27],[1,5,14016,28]],[.tmp 4],false⟩:=gK
theorem tf_108:gQ ⟨93,4,[],[],[[0],[1,3]],[.cell true 8 2],false⟩:=gK
theorem tf_106:gQ ⟨102,29,[(25,1)],[],[[4],[8009],[1000001,10],[4,10013],[0],[],[17020],[6007,21026],[27],[1,5,14016,28]],[.tmp 4],false⟩:=gK
theorem tf_101:gQ ⟨103,8,[],[],[[0],[3006],[1,7]],[.cell true 4 2],false⟩:=gK
noncomputable def funcs:Nat→Option SFunc
 |_=>none
end Go.Sh.Cd10
end

section
namespace Go.Proofs.YtpmlapgbmgbilaaGreatDoor
open Go Go.RowKit Go.Mor Go.Sh Go.Sh.Cd1 Go.Sh.Cd7
section
open Go.Sh.Cd10
def chR(h:Chg):List PV:=[.v (.int .i64 h.k),.v (.string (str h.f)),.v (.string (str h.n)),.v (.string (str h.m)),.v (.int .i64 h.t.k),.v (.int .i64 h.t.o),.v (.string (str h.x)),.v (.string (str h.o))]
def z0P(l:List Chg):List (List PV):=l.map chR
def lnC(l:Ln):List TV:=[S (str l.c.n),.pv (.sl 4 (flR l.c.fs)),.pv (.sl 8 (z0P l.hs))]
theorem z4I(l:List Chg)(k:Nat):(z0P l)[k]?=(l[k]?).map chR:=by unfold z0P;rw[List.getElem?_map]
theorem z0z(l:List Chg):(z0P l).length=l.length:=by unfold z0P;rw[List.length_map]
theorem z6y(g:Sh.Glob)(l:Ln):zC g 62 [.agg (lnC l)] [] (.fn (.func 91) [] [.ptr 1000 0]) [.box (lnC l)]:=by
 refine zj tf_172 ?_;unfold lnC;simp only[vW,seval]
def yV(yv:Value)(l:Ln)(i:Nat)(c:Cls)(bx:List (Nat×List TV)):ES:=⟨[(0,.pv (.v yv)),(3,.ptr 3 0),(22,.pv (.sl 8 (z0P l.hs))),(23,I ((z0P l.hs).length:Int)),(24,I (i:Int))],(1000,lnC l)::(3,[S (str c.n),.pv (.sl 4 (flR c.fs))])::bx,[],[]⟩
theorem z1h{c:Cls}(h:zd c=true):ClsOk c∧c.fs.length≤8:=by
 have hr:=(z16 c).1 h;have key:∀s,zb s=true→z0D s:=fun s hs=>by
  unfold zb at hs;simp only[Bool.and_eq_true,decide_eq_true_eq]at hs;have:=hs.1.1.2;unfold z0D;omega
 refine⟨⟨key _ hr.1,fun f hf=>key _ ?_,by omega⟩,hr.2.1⟩;have:=hr.2.2.1 f hf;unfold zE at this;simp only[Bool.and_eq_true]at this;exact this.1.1
theorem zki(m:Nat)(l:Ln)(hc:ClsOk l.c)(hh:∀h∈l.hs,ChOk m h):zC (glE m) 49 [.agg (lnC l)] [] (B (zY l)) []:=by
 refine za tf_171 ?_ (hc:=rfl);have HV:=z6y (glE m) l;by_cases h12:l.hs.length≤12
 ·have d1:¬(12:Int)<(l.hs.length:Int):=by omega
  have HC:=z0t (glE m) l.c hc;unfold lnC B clT at*;simp only[vcY,seval,d1,z0z];refine z8 HV ?_;refine zaY (H:=z3m []) (Fp:=fpT []) (Kk:=z3n []) (lug:=[2]) tf_173 ?_;intro yv;refine z2b HC ?_;refine⟨fun hr=> ?_,fun hr=> ?_⟩
  ·refine z6i ?_;refine zbl (σ:={x:Nat×Cls // x.1≤l.hs.length∧zn l x.1=(x.2,0)}) (fun x=>yV yv l x.1.1 x.1.2 [(1001,[.pv (.v (.bool false))])]) (fun x=>l.hs.length-x.1.1) ⟨(0,l.c),Nat.zero_le _,by rw[z2j];simp[z2s,hr]⟩ ?_ ?_
   ·unfold yV lnC;exact lwA
   rintro⟨⟨i,c⟩,hi,hv⟩;have hi:i≤l.hs.length:=hi;have hv:zn l i=(c,0):=hv;unfold yV lnC;by_cases hlt:i<l.hs.length
   ·obtain⟨h,ex⟩:∃h,l.hs[i]?=some h:=⟨_,gE hlt⟩
    have hc':ClsOk c∧c.fs.length≤8:=z1h (by have:=z17 (l:=l) (k:=i) (by rw[hv]);rw[hv]at this;exact this);have HA:=z4p m c h hc'.1 (hh h (gM ex)) (by omega);have hn:=z3b ex;rw[hv,z3P h rfl]at hn;unfold z4P clT chT at HA;have d2:(i:Int)<((z0P l.hs).length:Int):=by rw[z0z];omega
    simp only[vcY,seval,d2,z4I,ex,chR];refine z2b HA ?_;refine z6i ?_;refine⟨fun he=>⟨fun _=> ?_,fun h=>absurd he h⟩,fun he=> ?_⟩
    ·refine zc ⟨(i+1,(z03 c h).1),by show i+1≤l.hs.length;omega,by rw[hn,←he]⟩ (by show l.hs.length-(i+1)<l.hs.length-i;omega) ?_;have w1:=wS i;simp only[w1];exact lwA
    ·have:zY l=false:=by
      unfold zY;have h0:(zn l (i+1)).2≠0:=by rw[hn];exact he
      rw[z7y h0 (by omega)];simp[h0]
     rw[this]
   ·have d2:¬(i:Int)<((z0P l.hs).length:Int):=by rw[z0z];omega
    simp only[vcY,seval,d2];obtain rfl:i=l.hs.length:=by omega
    have:zY l=true:=by
     unfold zY;rw[hv,show Nat.ble l.hs.length 12=true from Nat.ble_eq_true_of_le h12];rfl
    rw[this]
  ·refine z6i ?_;have:zY l=false:=by
    unfold zY;have h0:(zn l 0).2≠0:=by rw[z2j];simp[z2s,hr]
    rw[z7y h0 (Nat.zero_le _)];simp[h0]
   rw[this]
 ·have d1:(12:Int)<(l.hs.length:Int):=by omega
  have hb:zY l=false:=by
   unfold zY;rw[show Nat.ble l.hs.length 12=false from by rw[←Bool.not_eq_true];intro h;have:=Nat.le_of_ble_eq_true h;omega];rfl
  unfold lnC B;rw[hb];simp only[vcY,seval,d1,z0z]
structure LnOk(m:Nat)(l:Ln):Prop where
 r:zY l=true
 h:∀h∈l.hs,ChOk m h
theorem LnOk.c{m:Nat}{l:Ln}(h:LnOk m l):zd l.c=true:=by
 have:=z17 (z0h h.r (Nat.zero_le _))
 rwa [z2j]at this
theorem LnOk.len{m:Nat}{l:Ln}(h:LnOk m l):l.hs.length≤12:=by
 have:=h.r;unfold zY at this;simp only[Bool.and_eq_true]at this;exact Nat.le_of_ble_eq_true this.1
theorem zal{m:Nat}{l:Ln}(h:LnOk m l){i:Nat}{x:Chg}(hx:l.hs[i]?=some x):z03 (zn l i).1 x=((zn l (i+1)).1,0)∧ClsOk (zn l i).1∧(zn l i).1.fs.length≤8:=by
 have hi:=(gJ hx).1;have h0:=z0h h.r (k:=i) (by omega);have h1:=z0h h.r (k:=i+1) (by omega);have hn:=z3b hx;rw[z3P x h0]at hn;rw[←hn];exact⟨by rw[←h1],z1h (z17 h0)⟩
theorem z92(m:Nat)(l:Ln)(hl:LnOk m l)(v:Nat)(hv:v≤l.hs.length):zC (glE m) 33 [.agg (lnC l),I (v:Int)] [] (clT (zn l v).1) []:=by
 refine za tf_170 ?_ (hc:=rfl);have HV:=z6y (glE m) l;have HC:=z0t (glE m) l.c (z1h hl.c).1;have h12:=hl.len;rw[hl.c]at HC;unfold lnC B clT at*;simp only[vcY,seval];refine z8 HV ?_;refine zaY (H:=z3m []) (Fp:=fpT []) (Kk:=z3n []) (lug:=[3,4,5]) tf_173 ?_;intro yv;refine z2b HC ?_;refine z6i ?_;refine⟨fun h0=> ?_,fun h0=> ?_⟩
 ·obtain rfl:v=0:=by omega
  rw[z2j];rfl
 refine zbl (σ:={x:Nat×Cls // x.1<v∧zn l x.1=(x.2,0)}) (fun x=>yV yv l x.1.1 x.1.2 [(1001,[I (v:Int)]),(1002,[S ⟨#[]⟩,.pv (.v (.slice none 0 0))]),(1003,[I ((x.1.1+1:Nat):Int)])]) (fun x=>l.hs.length-x.1.1) ⟨(0,l.c),by show 0<v;omega,by rw[z2j];simp[z2s,hl.c]⟩ ?_ ?_
 ·unfold yV lnC;simp only[show IntKind.i64.wrap 1=1 from wG];exact lwA
 rintro⟨⟨i,c⟩,hi,hv'⟩;have hi:i<v:=hi;have hv':zn l i=(c,0):=hv';unfold yV lnC;obtain⟨h,ex⟩:∃h,l.hs[i]?=some h:=⟨_,gE (by omega)⟩
 obtain⟨n1,n2,n3⟩:=zal hl ex;rw[hv']at n1 n2 n3;have HA:=z4p m c h n2 (hl.h h (gM ex)) (by have:c.fs.length≤8:=n3;omega);have n1:z03 c h=((zn l (i+1)).1,0):=n1;rw[n1]at HA;unfold z4P clT chT at HA;have d2:(i:Int)<((z0P l.hs).length:Int):=by rw[z0z];omega
 have w1:=wS (i+1);have w2:=wS i;simp only[vcY,seval,d2,z4I,ex,chR];refine z2b HA ?_;refine z6i ?_;refine⟨fun e=> ?_,fun e=>zc ⟨(i+1,(zn l (i+1)).1),by show i+1<v;omega,by rw[←z0h hl.r (show i+1≤l.hs.length by omega)]⟩ (by show l.hs.length-(i+1)<l.hs.length-i;omega) ?_⟩
 ·obtain rfl:v=i+1:=by omega
  rfl
 ·simp only[w1,w2];exact lwA
end
theorem ziw(g:Sh.Glob)(f:Fld)(h:Chg)(hk:1≤h.k∧h.k≤6):zC g 60 [flT f,chT h] [] (.pv (.sl 4 (flR (z1w f h)))) []:=by
 obtain⟨k,hf,n,m,⟨tk,ot⟩,x,o⟩:=h;obtain⟨fn,⟨fk,fo⟩,ix⟩:=f
 dsimp only at hk
 have hk':k=1∨k=2∨k=3∨k=4∨k=5∨k=6:=by omega
 unfold z1w flT chT flR flR1
 dsimp only
 by_cases hn:fn=hf
 ·subst hn;rcases hk' with rfl|rfl|rfl|rfl|rfl|rfl
  ·refine za tf_156 ?_;simp only[vW,seval]
  ·rw[if_neg (by simp),if_pos rfl];refine SCalls.out (y:=zr) ?_ (z2B 4);refine za tf_156 ?_;unfold zr;simp only[vW,seval]
  all_goals
   refine za tf_156 ?_;simp only[vW,seval]
 ·have hb:(fn==hf)=false:=by simpa using hn
  rw[if_pos (.inr hn)];refine za tf_156 ?_;simp only[vW,seval,hb]
theorem zf1(f:Fld)(h:Chg):(z1w f h).length≤2:=by
 unfold z1w
 repeat' split
 all_goals simp
theorem zdP(l:List Fld)(h:Chg):(l.flatMap (z1w · h)).length≤2*l.length:=by
 induction l with
 |nil=>simp
 |cons x l ih=>
  have:=zf1 x h;rw[List.flatMap_cons,List.length_append,List.length_cons];omega
theorem zjl{l:List Fld}(h:Chg){i:Nat}{x:Fld}(hx:l[i]?=some x):(l.take (i+1)).flatMap (z1w · h)=(l.take i).flatMap (z1w · h)++z1w x h:=by
 rw[List.take_add_one,hx,List.flatMap_append];simp
theorem zfF(g:Sh.Glob)(c:Cls)(h:Chg)(ho:okV c h=true)(hk:1≤h.k∧h.k≤6)(hf:z0D h.f)(hn:z0D h.n)(hm:z0D h.m)(hx:RTx h.x)(hox:RTx h.o):zC g 30 [clT c,chT h] [] (.tuple [clT ⟨c.n,z0q c h⟩,I 0]) []:=by
 have hr:zd c=true:=by
  unfold okV at ho;simp only[Bool.and_eq_true]at ho;exact ho.1.1
 have hcl:=z1h hr;have HC:=z5N g c hcl.1;have HR:=z8o g c h hcl.1 hf hn hm hx hox;have HT:=fun f=>ziw g f h hk;have hfl:=zcB ho;rw[hr]at HC;rw[ho]at HR;have hlen:=hcl.2;clear hx hox hf hn hm hr ho hcl;refine z2a Cd10.tf_149 ?_;rw[←hfl];clear hfl;obtain⟨k,hf,n,m,⟨tk,ot⟩,x,o⟩:=h;unfold clT chT B at*;simp only[vW,seval];refine z8 HC ?_;refine z8 HR ?_;refine zk (σ:={i:Nat // i≤c.fs.length}) (fun i=>⟨[(2,.ptr 2 0),(3,.ptr 3 0),(4,.ptr 4 0),(6,.ptr 6 0),(7,I (i.1:Int))],[(2,[S (str c.n),.pv (.sl 4 (flR c.fs))]),(3,[I k,S (str hf),S (str n),S (str m),I tk,I ot,S (str x),S (str o)]),(4,[S ⟨#[]⟩,.pv (.v (.slice none 0 0))]),(6,[S (str c.n),.own 3000 4 (flR ((c.fs.take i.1).flatMap (z1w · ⟨k,hf,n,m,⟨tk,ot⟩,x,o⟩)))])],[(3000,(71,4,((c.fs.take i.1).flatMap (z1w · ⟨k,hf,n,m,⟨tk,ot⟩,x,o⟩)).length))],[]⟩) (fun i=>c.fs.length-i.1) ⟨0,Nat.zero_le _⟩ ?_ ?_
 ·refine ES.Lw.trans ?_ (z5y (x:=6) (j:=1) (d:=3000) (e:=71) (W:=4) (.inr (by decide)) (by decide) rfl (by simp only[vcA,seval]) rfl);exact z18 rfl
 rintro⟨i,hi⟩;by_cases hlt:i<c.fs.length
 ·have d1:(i:Int)<(c.fs.length:Int):=by omega
  obtain⟨y,ey⟩:∃y,c.fs[i]?=some y:=⟨_,gE hlt⟩
  have HY:=HT y;have hst:=zjl ⟨k,hf,n,m,⟨tk,ot⟩,x,o⟩ ey;have hfw:=zdP (c.fs.take i) ⟨k,hf,n,m,⟨tk,ot⟩,x,o⟩;have htw:=zf1 y ⟨k,hf,n,m,⟨tk,ot⟩,x,o⟩;have htl:=List.length_take_le i c.fs;have w1:=wS i;have hR:flR ((c.fs.take i).flatMap (z1w · ⟨k,hf,n,m,⟨tk,ot⟩,x,o⟩))++flR (z1w y ⟨k,hf,n,m,⟨tk,ot⟩,x,o⟩)=flR ((c.fs.take (i+1)).flatMap (z1w · ⟨k,hf,n,m,⟨tk,ot⟩,x,o⟩)):=by
   rw[hst];unfold flR;rw[List.map_append]
  have hL:((c.fs.take i).flatMap (z1w · ⟨k,hf,n,m,⟨tk,ot⟩,x,o⟩)).length+(z1w y ⟨k,hf,n,m,⟨tk,ot⟩,x,o⟩).length=((c.fs.take (i+1)).flatMap (z1w · ⟨k,hf,n,m,⟨tk,ot⟩,x,o⟩)).length:=by
   rw[hst,List.length_append]
  unfold flT at HY;simp only[vW,seval,d1,clV,ey];left;refine z8 HY ?_;simp only[vW,seval,clV,hR,hL,w1];exact⟨⟨by omega,by unfold maxLen;omega⟩,zc ⟨i+1,by omega⟩ (by show c.fs.length-(i+1)<c.fs.length-i;omega) lwA⟩
 ·have d1:¬(i:Int)<(c.fs.length:Int):=by omega
  obtain rfl:i=c.fs.length:=by omega
  rw[List.take_length];by_cases h1:k=1
  ·subst h1;have hfw:=zdP c.fs ⟨1,hf,n,m,⟨tk,ot⟩,x,o⟩;simp only[vW,seval,d1,clV];refine⟨⟨by omega,by unfold maxLen;omega⟩,?_⟩;unfold flR;rw[List.map_append];rfl
  ·simp only[vW,seval,d1,clV,h1]
end Go.Proofs.YtpmlapgbmgbilaaGreatDoor
end
