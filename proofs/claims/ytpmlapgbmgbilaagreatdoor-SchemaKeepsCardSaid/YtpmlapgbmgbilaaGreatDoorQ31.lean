/- Merged texts: Zo8 Zo9 Zu1 Ze28 Wire1 Wire2 Wire3 Wire4 Wire5 Pr1 PrA PrX Zy4 PRead Zn2 Zn0 Zn3 Zn4 Zu2. No statement of the program is proved here. -/
import Derived.Test.YtpmlapgbmgbilaaGreatDoorQ30
import Derived.RangeFuncNested
import Derived.RangeFuncBound
import Derived.RangeFuncLeaves
import Derived.RangeFuncBox
import Derived.Shelf.Abstract
import Derived.Shelf.RegionOpen
import Derived.OwnWalkIn
import Derived.TacticsInMore
import Derived.LoopNIn
import Derived.LoopIn
import Derived.Maps.AppendAt
import Derived.LaidEql
import Derived.Stop.Asserts
import Derived.RowKitTokens
set_option linter.unusedSimpArgs false
set_option linter.unusedVariables false
set_option maxRecDepth 100000
set_option maxHeartbeats 8000000
section
namespace Go.Proofs.YtpmlapgbmgbilaaGreatDoor
open Go Go.RowKit Go.Mor
section
open Go.Sh Go.Sh.Cd1 Go.Sh.Cd7
def qcR1(q:Pc):List PV:=[.v (.int .i64 (qcK q.k)),.v (.int .i64 q.n),.v (.string (str q.s)),.v (.int .i64 (q.p:Int))]
def qcR(L:List Pc):List (List PV):=L.map qcR1
theorem zni(L:List Pc)(k:Nat):(qcR L)[k]?=(L[k]?).map qcR1:=by unfold qcR;rw[List.getElem?_map]
theorem zhW(L:List Pc):(qcR L).length=L.length:=by unfold qcR;rw[List.length_map]
theorem qcV:(type_of% @zni)∧(type_of% @zhW)∧(type_of% @qcR1.eq_1):=⟨@zni,@zhW,@qcR1.eq_1⟩
def PB(L:List Pc)(sz p:Nat)(b:Int):MO:=.box [.pv (.sl 4 (qcR L)),I (p:Int),I (sz:Int),I b]
structure PcL(L:List Pc):Prop where
 ok:∀q∈L,PcOk q
 len:L.length≤1000
section
variable{L:List Pc}{sz:Nat}
theorem zk5(g:Sh.Glob)(hL:PcL L)(t:zB)(p:Nat)(b:Int):zC g 177 [.ptr 1000 0,S (str t)] [PB L sz p b] (B (z00 (pkP L sz p) t)) [PB L sz p b]:=by
 unfold PB B;refine zj tf_31 ?_;by_cases hp:p<L.length
 ·have d1:(p:Int)<(L.length:Int):=by omega
  obtain⟨q,eq⟩:∃q,L[p]?=some q:=⟨_,gE hp⟩
  have hq:=hL.ok q (gM eq);rw[z6J eq];have hk:z00 q t=(decide (qcK q.k=0)&&q.s==t):=by
   unfold z00 qcK;rcases hq.k with k|k|k|k<;>rw[k]<;>rfl
  rw[hk];by_cases k0:qcK q.k=0
  ·simp only[vW,seval,d1,eq,qcV,k0]
  ·simp only[vW,seval,d1,eq,qcV,k0]
 ·have d1:¬(p:Int)<(L.length:Int):=by omega
  rw[z5u (by omega)];simp only[vW,seval,d1,qcV];rfl
theorem za6(g:Sh.Glob)(hL:PcL L)(p:Nat)(b:Int):zC g 109 [.ptr 1000 0] [PB L sz p b] (tv V.nil) [PB L sz p (z3g L sz p b)]:=by
 refine SCalls.out ?_ (z4j (x:=V.nil) rfl);unfold PB nv;refine zj tf_30 ?_;have e0:=bS [];unfold z3g;by_cases hb:b<0
 ·rw[if_pos hb];by_cases hp:p<L.length
  ·have d1:(p:Int)<(L.length:Int):=by omega
   obtain⟨q,eq⟩:∃q,L[p]?=some q:=⟨_,gE hp⟩
   rw[z6J eq];simp only[vW,seval,d1,eq,qcV,hb,e0];try rfl
  ·have d1:¬(p:Int)<(L.length:Int):=by omega
   rw[z5u (by omega)];simp only[vW,seval,d1,qcV,hb,e0];try rfl
 ·rw[if_neg hb];simp only[vW,seval,qcV,hb,e0];try rfl
theorem z7o(g:Sh.Glob)(hL:PcL L)(t:zB)(p:Nat)(b:Int):zC g 180 [.ptr 1000 0,S (str t)] [PB L sz p b] (.tuple []) [PB L sz (z25 L sz t p b).1 (z25 L sz t p b).2]:=by
 have HI:=zk5 (sz:=sz) g hL t p b;have HF:=za6 (sz:=sz) g hL p b;unfold z25;refine zj tf_33 ?_;by_cases hb:0≤b
 ·rw[if_pos hb];unfold PB;simp only[vW,seval,hb];try rfl
 ·rw[if_neg hb];unfold PB B at*;cases hs:z00 (pkP L sz p) t
  ·rw[hs]at HI;simp only[vW,seval,hb];refine z8 HI ?_;exact zf HF
  ·rw[hs]at HI;have hp:p<L.length:=by
    rcases Nat.lt_or_ge p L.length with h|h
    ·exact h
    ·rw[z5u h]at hs;simp[z00]at hs
   have hln:=hL.len;have w1:=wS p;simp only[vW,seval,hb];refine z7 HI ?_;simp only[vW,seval,w1];try rfl
end
end
section
open Go.Sh Go.Sh.Cd1 Go.Sh.Cd7
section
variable(g:Sh.Glob)(L:List Pc)(sz:Nat)
def EX(F:Nat):Prop:=∀(zu:Int) (p:Nat) (b:Int) (r:V×Nat×Int),mE L sz F zu p b=some r→zC g 108 [.ptr 1000 0,I zu] [PB L sz p b] (tv r.1) [PB L sz r.2.1 r.2.2]
def TX(F:Nat):Prop:=∀(p:Nat) (b:Int) (r:V×Nat×Int),mT L sz F p b=some r→zC g 150 [.ptr 1000 0] [PB L sz p b] (tv r.1) [PB L sz r.2.1 r.2.2]
def HX(F:Nat):Prop:=∀(s:zB) (p:Nat) (b:Int) (r:V×Nat×Int),mH L sz F s 0 p b []=some r→zC g 179 [.ptr 1000 0,S (str s)] [PB L sz p b] (tv r.1) [PB L sz r.2.1 r.2.2]
end
variable{g:Sh.Glob}{L:List Pc}{sz:Nat}
theorem zfD(hL:PcL L)(F:Nat)(hT:TX g L sz F)(hE:EX g L sz F)(hH:HX g L sz F):TX g L sz (F+1):=by
 intro p b r h;rw[mT]at h;have HF:=za6 (sz:=sz) g hL p b;have e0:=bS [];have hln:=hL.len;by_cases h0:0≤b∨L.length≤p
 ·rw[if_pos h0]at h;cases h;refine zj tf_32 ?_;try dsimp only
  generalize z3g L sz p b=fb at*;unfold PB at*;by_cases hb:0≤b
  ·simp only[vW,seval,hb];exact zf HF
  ·have d1:(L.length:Int)≤(p:Int):=by omega
   simp only[vW,seval,hb,d1,qcV];exact zf HF
 rw[if_neg h0]at h;have hb:¬0≤b:=fun h=>h0 (.inl h);have hp:p<L.length:=by omega
 have d1:¬(L.length:Int)≤(p:Int):=by omega
 obtain⟨x,ex⟩:∃q,L[p]?=some q:=⟨_,gE hp⟩
 have hq:=hL.ok x (gM ex);rw[z6J ex]at h;have w1:=wS p;rcases hq.k with k|k|k|k
 ·rw[if_pos (.inl k)]at h;cases h;have kk:qcK x.k=1:=by rw[k];rfl
  refine SCalls.out ?_ (z4j (x:=.mk x.k x.n x.s []) rfl);unfold PB nv;rw[k];refine zj tf_32 ?_;simp only[vW,seval,hb,d1,qcV,ex,kk,w1];try rfl
 ·rw[if_pos (.inr k)]at h;cases h;have kk:qcK x.k=2:=by rw[k];rfl
  refine SCalls.out ?_ (z4j (x:=.mk x.k x.n x.s []) rfl);unfold PB nv;rw[k];refine zj tf_32 ?_;simp only[vW,seval,hb,d1,qcV,ex,kk,w1];try rfl
 ·rw[if_neg (by omega),if_pos k]at h;have kk:qcK x.k=3:=by rw[k];rfl
  have HI:=zk5 (sz:=sz) g hL [40] (p+1) b;have HA:=z6s g x.s;have q40:=bS [40];by_cases hc:z00 (pkP L sz (p+1)) [40]=true∧0<zt x.s
  ·rw[if_pos hc]at h;have HC:=hH x.s (p+1+1) b r h;have hp2:p+1<L.length:=by
    rcases Nat.lt_or_ge (p+1) L.length with h|h
    ·exact h
    ·have:=hc.1;rw[z5u h]at this;simp[z00]at this
   have w2:IntKind.i64.wrap (((p+1:Nat):Int)+1)=((p+1+1:Nat):Int):=wG;have t1:=hc.2;rw[hc.1]at HI;refine zj tf_32 ?_;generalize r.1=re at*;generalize r.2.1=rp at*;generalize r.2.2=rb at*;unfold PB B at*;simp only[vW,seval,hb,d1,qcV,ex,kk,w1,q40];refine z8 HI ?_;refine z7 HA ?_;simp only[vW,seval,t1,w2];exact zf HC
  ·rw[if_neg hc]at h;cases h;refine SCalls.out ?_ (z4j (x:=.mk 3 0 x.s []) rfl);refine zj tf_32 ?_;unfold PB B nv at*;cases hi:z00 (pkP L sz (p+1)) [40]
   ·rw[hi]at HI;simp only[vW,seval,hb,d1,qcV,ex,kk,w1,q40];refine z8 HI ?_;try trivial
   ·rw[hi]at HI;have t1:¬0<zt x.s:=fun h=>hc ⟨hi,h⟩;simp only[vW,seval,hb,d1,qcV,ex,kk,w1,q40];refine z8 HI ?_;refine z7 HA ?_;simp only[vW,seval,t1];try rfl
 ·rw[if_neg (by omega),if_neg (by omega)]at h;have kk:qcK x.k=0:=by rw[k];rfl
  have q45:=bS [45];have q40:=bS [40];have q41:=bS [41];by_cases h45:x.s=[45]
  ·rw[if_pos h45]at h;split at h
   ·rename_i e p' b' hT2;cases h;have HT:=hT _ _ _ hT2;have s45:(x.s==[45])=true:=by simpa using h45
    refine zj tf_32 ?_;unfold PB at*;simp only[vW,seval,hb,d1,qcV,ex,kk,w1,q45,s45];refine z7 HT ?_;simp only[vW,seval,q45];rw[show V.rows [e]=[V.row e] from rfl,z1K]
   ·cases h
  rw[if_neg h45]at h;have s45:(x.s==[45])=false:=by simpa using h45
  by_cases h40:x.s=[40]
  ·rw[if_pos h40]at h;split at h
   ·rename_i e p' b' hE2;cases h;have HE:=hE _ _ _ _ hE2;have HW:=z7o (sz:=sz) g hL [41] p' b';have s40:(x.s==[40])=true:=by simpa using h40
    refine zj tf_32 ?_
    dsimp only at*
    generalize z25 L sz [41] p' b'=wr at*;unfold PB at*;simp only[vW,seval,hb,d1,qcV,ex,kk,w1,q45,s45,q40,s40];refine z7 HE ?_;simp only[vW,seval,q41];refine z8 HW ?_;try trivial
   ·cases h
  ·rw[if_neg h40]at h;cases h;have s40:(x.s==[40])=false:=by simpa using h40
   refine zj tf_32 ?_;try dsimp only
   generalize z3g L sz p b=fb at*;unfold PB at*;simp only[vW,seval,hb,d1,qcV,ex,kk,w1,q45,s45,q40,s40];refine z8 HF ?_;try trivial
end
section
open Go.Sh Go.Sh.Cd1 Go.Sh.Cd7
variable{g:Sh.Glob}{L:List Pc}{sz:Nat}
theorem znD(s:zB):0≤zK s∧zK s≤4:=by
 unfold zK
 repeat' split
 all_goals omega
theorem zhY(hL:PcL L)(F:Nat)(hT:TX g L sz F)(hE:∀f,f<F→EX g L sz f):EX g L sz (F+1):=by
 intro zu p b r h;rw[mE]at h;split at h
 case h_2=>cases h
 rename_i e p' b' hm;have HT:=hT _ _ _ hm;have hln:=hL.len;refine zj tf_29 ?_;generalize hr1:r.1=re at*;generalize hr2:r.2.1=rp at*;generalize hr3:r.2.2=rb at*;have hr:r=(re,rp,rb):=by rw[←hr1,←hr2,←hr3]
 subst hr;have e0:=bS []
 dsimp only at HT
 unfold PB at*;simp only[vW,seval];refine z8 HT ?_;refine zk (σ:={x:Nat×V×Nat×Int // mL L sz x.1 zu x.2.1 x.2.2.1 x.2.2.2=some (re,rp,rb)∧x.1≤F}) (fun x=>⟨[(0,.ptr 1000 0),(1,I zu),(4,.ptr 4 0),(5,.ptr 5 0)],[(1000,[.pv (.sl 4 (qcR L)),I (x.1.2.2.1:Int),I (sz:Int),I x.1.2.2.2]),(4,[I 0,I 0,S (str []),.pv (.v (.slice none 0 0))]),(5,[I x.1.2.1.k,I x.1.2.1.n,S (str x.1.2.1.s),.pv (.sl 4 (V.rows x.1.2.1.l))])],[],[]⟩) (fun x=>x.1.1) ⟨(F,e,p',b'),h,Nat.le_refl _⟩ ?_ ?_
 ·apply z0g<;>simp[leL,lk,sv,Nat.beq,I,S,ES.kill,has,drp,zr,e0]
 clear HT hm h hT;rintro⟨⟨φ,e,p,b⟩,h,hφ⟩
 dsimp only at h hφ
 cases φ with
 |zero=>simp[mL]at h
 |succ φ=>
  rw[mL]at h;by_cases hb:b<0
  ·by_cases hp:p<L.length
   ·have d1:(p:Int)<(L.length:Int):=by omega
    obtain⟨x,ex⟩:∃q,L[p]?=some q:=⟨_,gE hp⟩
    have hq:=hL.ok x (gM ex);rw[z6J ex]at h;by_cases k4:x.k=4
    ·have kk:qcK x.k=0:=by rw[k4];rfl
     have HB:=z6t g x.s;have hb4:=znD x.s;by_cases hl:zu≤zK x.s
     ·rw[if_pos ⟨hb,k4,hl⟩]at h;split at h
      ·rename_i e2 p2 b2 hE2;have HE:=hE φ (by omega) _ _ _ _ hE2;have w1:=wS p;have w2:IntKind.i64.wrap (zK x.s+1)=zK x.s+1:=wrap64 (by omega) (by omega);unfold PB at HE
       dsimp only at HE
       simp only[vW,seval,hb,d1,qcV,ex,kk];refine z7 HB ?_;simp only[vW,seval,hl,w1,qcV,ex,d1];refine z7 HB ?_;simp only[vW,seval,w2];refine z8 HE ?_;refine zc ⟨(φ,.mk 4 0 x.s [e,e2],p2,b2),h,by dsimp only;omega⟩ (by show φ<φ+1;omega) ?_;have hrow:V.rows [e,e2]=[V.row e,V.row e2]:=rfl;apply z0g<;>simp[leL,lk,sv,Nat.beq,I,S,ES.kill,has,drp,zr,hrow,z1K,Vk,Vn,Vs,Vl]
      ·cases h
     ·rw[if_neg (fun h=>hl h.2.2)]at h;cases h;simp only[vW,seval,hb,d1,qcV,ex,kk];refine z7 HB ?_;simp only[vW,seval,hl];try rfl
    ·have kk:¬qcK x.k=0:=by unfold qcK;rcases hq.k with k|k|k|k<;>rw[k]<;>first|decide|exact absurd k k4
     rw[if_neg (fun h=>k4 h.2.1)]at h;cases h;simp only[vW,seval,hb,d1,qcV,ex,kk];try rfl
   ·have d1:¬(p:Int)<(L.length:Int):=by omega
    rw[z5u (by omega),if_neg (fun h=>by have:=h.2.1;simp at this)]at h;cases h;simp only[vW,seval,hb,d1,qcV];try rfl
  ·rw[if_neg (fun h=>hb h.1)]at h;cases h;simp only[vW,seval,hb,qcV];try rfl
theorem zhX(hL:PcL L)(F:Nat)(hE:∀f,f<F→EX g L sz f):HX g L sz F:=by
 intro s p b r h;have HA:=z6s g s;have ht3:=z6M s;have e0:=bS [];have q44:=bS [44];have q41:=bS [41];have hln:=hL.len;refine zj tf_28 ?_;generalize hr1:r.1=re at*;generalize hr2:r.2.1=rp at*;generalize hr3:r.2.2=rb at*;have hr:r=(re,rp,rb):=by rw[←hr1,←hr2,←hr3]
 subst hr;unfold PB at*;simp only[vW,seval];refine zk (σ:={x:Nat×Nat×Nat×Int×List V // mH L sz x.1 s x.2.1 x.2.2.1 x.2.2.2.1 x.2.2.2.2=some (re,rp,rb)∧x.1≤F∧x.2.2.2.2.length=x.2.1∧x.2.1≤3}) (fun x=>⟨[(0,.ptr 1000 0),(1,S (str s)),(4,.ptr 4 0),(5,.ptr 5 0),(6,I (x.1.2.1:Int))],[(1000,[.pv (.sl 4 (qcR L)),I (x.1.2.2.1:Int),I (sz:Int),I x.1.2.2.2.1]),(4,[I 0,I 0,S (str []),.pv (.v (.slice none 0 0))]),(5,[I 6,I 0,S (str s),.own 3000 4 (V.rows x.1.2.2.2.2)])],[(3000,(157,4,x.1.2.2.2.2.length))],[]⟩) (fun x=>x.1.1) ⟨(F,0,p,b,[]),h,Nat.le_refl _,rfl,Nat.zero_le _⟩ ?_ ?_
 ·refine ES.Lw.trans ?_ (show ES.Lw ⟨[(0,.ptr 1000 0),(1,S (str s)),(4,.ptr 4 0),(5,.ptr 5 0),(6,I 0)],[(1000,[.pv (.sl 4 (qcR L)),I (p:Int),I (sz:Int),I b]),(4,[I 0,I 0,S (str []),.pv (.v (.slice none 0 0))]),(5,[.pv (.v (.int .i64 6)),.pv (.v (.int .i64 0)),.pv (.v (.string (str s))),.pv (.v (.slice none 0 0))])],[],[]⟩ _ by apply z0g<;>simp[leL,lk,sv,Nat.beq,I,S,ES.kill,has,drp,zr,e0]);refine ES.Lw.trans ?_ (z5y (x:=5) (j:=3) (d:=3000) (e:=157) (W:=4) (.inr (by decide)) (by decide) rfl (by simp only[vcA,seval]) rfl);exact z18 rfl
 clear h;rintro⟨⟨φ,k,p,b,acc⟩,h,hφ,ha,hk3⟩
 dsimp only at h hφ ha hk3
 cases φ with
 |zero=>simp[mH]at h
 |succ φ=>
  rw[mH]at h;have w1:=wS k;have HW:=z7o (sz:=sz) g hL [44] p b;have stop:∀(hc:¬((k:Int)<zt s∧b<0)),some (V.mk 6 0 s acc,z25 L sz [41] p b)=some (re,rp,rb):=fun hc=>by rw[if_neg hc]at h;exact h
  by_cases hk:(k:Int)<zt s
  ·by_cases hb:b<0
   ·rw[if_pos ⟨hk,hb⟩]at h;have hrows:∀e,V.rows (acc++[e])=V.rows acc++[V.row e]:=fun e=>by rw[z0r,z0r,List.map_append];rfl
    have hrl:=z1m acc;by_cases h0:0<k
    ·have d0:(0:Int)<(k:Int):=by omega
     rw[if_pos h0]at h;split at h
     ·rename_i e p2 b2 hE2;have HE:=hE φ (by omega) _ _ _ _ hE2;generalize z25 L sz [44] p b=wr at*;unfold PB at HE HW
      dsimp only at HE
      simp only[vW,seval];refine z7 HA ?_;simp only[vW,seval,hk,hb,d0,q44];refine z8 HW ?_;left;refine z7 HE ?_;simp only[vW,seval,w1,hrl];refine⟨⟨by omega,by unfold maxLen;omega⟩,zc ⟨(φ,k+1,p2,b2,acc++[e]),h,by dsimp only;omega,by simp[ha],by dsimp only;omega⟩ (by show φ<φ+1;omega) ?_⟩;apply z0g<;>simp[leL,lk,sv,Nat.beq,I,S,ES.kill,has,drp,zr,hrows,z1K,List.length_append,List.length_singleton]
     ·cases h
    ·have d0:¬(0:Int)<(k:Int):=by omega
     rw[if_neg h0]at h;split at h
     ·rename_i e p2 b2 hE2;have HE:=hE φ (by omega) _ _ _ _ hE2;unfold PB at HE
      dsimp only at HE
      simp only[vW,seval];refine z7 HA ?_;simp only[vW,seval,hk,hb,d0];left;refine z7 HE ?_;simp only[vW,seval,w1,hrl];refine⟨⟨by omega,by unfold maxLen;omega⟩,zc ⟨(φ,k+1,p2,b2,acc++[e]),h,by dsimp only;omega,by simp[ha],by dsimp only;omega⟩ (by show φ<φ+1;omega) ?_⟩;apply z0g<;>simp[leL,lk,sv,Nat.beq,I,S,ES.kill,has,drp,zr,hrows,z1K,List.length_append,List.length_singleton]
     ·cases h
   ·have h:=stop (fun h=>hb h.2);have HW:=z7o (sz:=sz) g hL [41] p b;generalize z25 L sz [41] p b=wr at*;obtain⟨wp,wb⟩:=wr;cases h;unfold PB at HW
    dsimp only at HW
    simp only[vW,seval];refine z7 HA ?_;simp only[vW,seval,hk,hb,q41];refine z8 HW ?_;try trivial
  ·have h:=stop (fun h=>hk h.1);have HW:=z7o (sz:=sz) g hL [41] p b;generalize z25 L sz [41] p b=wr at*;obtain⟨wp,wb⟩:=wr;cases h;unfold PB at HW
   dsimp only at HW
   simp only[vW,seval];refine z7 HA ?_;simp only[vW,seval,hk,q41];refine z8 HW ?_;try trivial
theorem zpy(hL:PcL L):∀F:Nat,(∀f,f≤F→EX g L sz f)∧(∀f,f≤F→TX g L sz f)
 |0=>⟨fun f hf=>(by obtain rfl:f=0:=(by omega);intro zu p b r h;simp[mE]at h),fun f hf=>(by obtain rfl:f=0:=(by omega);intro p b r h;simp[mT]at h)⟩
 |F+1=>by
  obtain⟨h1,h2⟩:=zpy hL F;refine⟨fun f hf=> ?_,fun f hf=> ?_⟩
  ·rcases Nat.lt_or_ge f (F+1)with h|h
   ·exact h1 f (by omega)
   ·obtain rfl:f=F+1:=by omega
    exact zhY hL F (h2 F (Nat.le_refl _)) (fun f hf=>h1 f (by omega))
  ·rcases Nat.lt_or_ge f (F+1)with h|h
   ·exact h2 f (by omega)
   ·obtain rfl:f=F+1:=by omega
    exact zfD hL F (h2 F (Nat.le_refl _)) (h1 F (Nat.le_refl _)) (zhX hL F (fun f hf=>h1 f (by omega)))
end
section
open Go.Sh Go.Sh.Cd1 Go.Sh.Cd5
def z4O(d:Nat)(e:V)(n:Nat):Int:=if okE d e=true∧szE d e≤n then((n-szE d e:Nat):Int)else -1
def z5n(d:Nat):List V→Nat→Int
 |[],n=>n
 |x::l,n=>if okE d x=true∧szE d x≤n then z5n d l (n-szE d x)else -1
theorem zeK(d:Nat):∀(l:List V) (n:Nat),z5n d l n=if(∀x∈l,okE d x=true)∧(l.map (szE d)).sum≤n then((n-(l.map (szE d)).sum:Nat):Int)else -1
 |[],n=>by simp[z5n]
 |x::l,n=>by
  have ih:=zeK d l (n-szE d x);unfold z5n;by_cases h1:okE d x=true∧szE d x≤n
  ·rw[if_pos h1,ih];by_cases h2:(∀y∈l,okE d y=true)∧(l.map (szE d)).sum≤n-szE d x
   ·rw[if_pos h2,if_pos]
    ·rw[List.map_cons,List.sum_cons];congr 1;omega
    ·refine⟨fun y hy=> ?_,by rw[List.map_cons,List.sum_cons];omega⟩;rcases List.mem_cons.1 hy with rfl|hy
     ·exact h1.1
     ·exact h2.1 y hy
   ·rw[if_neg h2,if_neg];rintro⟨h3,h4⟩;rw[List.map_cons,List.sum_cons]at h4;exact h2 ⟨fun y hy=>h3 y (List.mem_cons_of_mem _ hy),by omega⟩
  ·rw[if_neg h1,if_neg];rintro⟨h3,h4⟩;rw[List.map_cons,List.sum_cons]at h4;exact h1 ⟨h3 x (List.mem_cons_self ..),by omega⟩
theorem zmj(d:Nat)(e:V)(n:Nat):z4O (d+1) e (n+1)=if z0E e then z5n d e.l n else -1:=by
 unfold z4O;rw[zeK,okE,szE];cases hn:z0E e
 ·simp
 ·simp only[Bool.true_and,if_true,List.all_eq_true];by_cases h:(∀x∈e.l,okE d x=true)∧(e.l.map (szE d)).sum≤n
  ·rw[if_pos h,if_pos ⟨h.1,by omega⟩];congr 1;omega
  ·rw[if_neg h,if_neg];rintro⟨h1,h2⟩;exact h ⟨h1,by omega⟩
def z64(c:Option Nat):Int:=match c with|some n=>(n:Int)|none=> -1
theorem zi1(g:Sh.Glob):∀(d:Nat),d≤8→∀(e:V),ESmall e→∀(n:Nat),n≤40→zC g 151 [tv e,I (d:Int),I (n:Int)] [] (I (z4O d e n)) []:=by
 intro d
 induction d with
 |zero=>
  intro _ e he n hn;refine za tf_141 ?_;rw[show z4O 0 e n= -1 by unfold z4O;simp[okE]];simp only[vW,seval]
 |succ d ih=>
  intro hd e he n hn;refine za tf_141 ?_;have d0:¬((d+1:Nat):Int)<1:=by omega
  have HN:=zi0 g e he;have HD:=fun e he n hn=>ih (by omega) e he n hn;have hl:=he.len;have w2:IntKind.i64.wrap (((d+1:Nat):Int) - 1)=(d:Int):=wG;unfold B at*;cases n with
  |zero=>
   rw[show z4O (d+1) e 0= -1 by unfold z4O szE;rw[if_neg (by omega)]];simp only[vW,seval,d0]
  |succ n=>
  have d1:¬((n+1:Nat):Int)<1:=by omega
  have w1:IntKind.i64.wrap (((n+1:Nat):Int) - 1)=(n:Int):=wG;rw[zmj];simp only[vW,seval,d0,d1];refine zJ HN ?_;cases hN:z0E e
  ·simp only[vW,seval,d0,d1];try simp
  simp only[if_true];simp only[vW,seval,d0,d1,w1];generalize hR:z5n d e.l n=R;refine zk (σ:={x:Nat×Option Nat // x.1≤e.l.length∧(match x.2 with|some n=>n≤40∧z5n d (e.l.drop x.1) n=R|none=>R= -1)})
   (fun x=>⟨[(1,I ((d+1:Nat):Int)),(2,I (z64 x.1.2)),(3,.ptr 3 0),(7,I (x.1.1:Int))],[(3,[I e.k,I e.n,S (str e.s),.pv (.sl 4 (V.rows e.l))])],[],[]⟩)
   (fun x=>e.l.length-x.1.1) ⟨(0,some n),by omega,by omega,by simpa using hR⟩ ?_ ?_
  ·apply z0g<;>simp[leL,lk,sv,Nat.beq,I,S,ES.kill,has,drp,zr,z64]
  rintro⟨⟨i,c⟩,hi,hq⟩;simp only at hi;have w3:=wS i;by_cases hlt:i<e.l.length
  ·have d2:(i:Int)<(e.l.length:Int):=by omega
   obtain⟨y,ey⟩:∃y,e.l[i]?=some y:=⟨_,gE hlt⟩
   have hdr:e.l.drop i=y::e.l.drop (i+1):=by rw[List.drop_eq_getElem_cons hlt];congr 1;exact(gJ ey).2
   cases c with
   |none=>
    have hq:R= -1:=hq;unfold z64;simp only[vW,seval,d2];rw[hq]
   |some n1=>
    obtain⟨hn1,hq⟩:=hq;simp only at hq;rw[hdr]at hq;unfold z5n at hq;have d3:(0:Int)≤(n1:Int):=by omega
    have HY:=HD y (he.sub (gM ey)) n1 hn1;unfold z4O at HY;unfold z64;by_cases hy:okE d y=true∧szE d y≤n1
    ·rw[if_pos hy]at hq HY;simp only[vW,seval,d2,d3,ey,w2];refine zJ HY ?_;simp only[vW,seval,w3];refine zc ⟨(i+1,some (n1-szE d y)),by simp only;omega,by omega,hq⟩ (by show e.l.length-(i+1)<e.l.length-i;omega) ?_;apply z0g<;>simp[leL,lk,sv,Nat.beq,I,S,ES.kill,has,drp,zr,z64]
    ·rw[if_neg hy]at hq HY;simp only[vW,seval,d2,d3,ey,w2];refine zJ HY ?_;simp only[vW,seval,w3];refine zc ⟨(i+1,none),by simp only;omega,hq.symm⟩ (by show e.l.length-(i+1)<e.l.length-i;omega) ?_;apply z0g<;>simp[leL,lk,sv,Nat.beq,I,S,ES.kill,has,drp,zr,z64]
  ·have d2:¬(i:Int)<(e.l.length:Int):=by omega
   obtain rfl:i=e.l.length:=by omega
   cases c with
   |none=>
    have hq:R= -1:=hq;unfold z64;simp only[vW,seval,d2];rw[hq]
   |some n1=>
    obtain⟨hn1,hq⟩:=hq;simp only at hq;rw[List.drop_length]at hq;unfold z5n at hq;unfold z64;simp only[vW,seval,d2];rw[hq]
theorem z8p(g:Sh.Glob)(e:V)(he:ESmall e):zC g 110 [tv e] [] (B (z0X e)) []:=by
 have HR:=zi1 g 8 (by omega) e he 40 (by omega);have hr:decide (0≤z4O 8 e 40)=z0X e:=by
  unfold z4O z0X;rw[Bool.eq_iff_iff];by_cases h:okE 8 e=true∧szE 8 e≤40
  ·rw[if_pos h];simp[h.1,h.2]
  ·rw[if_neg h];simp only[Int.reduceNeg,decide_eq_true_eq,Bool.and_eq_true];exact⟨fun h1=>absurd h1 (by omega),fun h1=>absurd h1 h⟩
 unfold B;refine z0C tf_137 ?_;refine zJ HR ?_;simp only[vW,seval,hr]
end
section
open Go.Shelf
attribute [local go_sem] Oper.semAt_some
attribute [local go_sem] Oper.semAt_some
end
section
open Go.Stop Go.Extern
structure GlobW(w:World)(a0 a1:Addr):Prop extends GlobU w where
 e0:w.cell? ⟨1,0,none⟩=some (.iface 334 (.pointer (some a0)))
 e1:w.cell? ⟨0,0,none⟩=some (.iface 334 (.pointer (some a1)))
 ne:a0≠a1
 b0:∃ca ta,w.heap[a0.block]?=some (.cells ca ta (0,0))
 b1:∃ca ta,w.heap[a1.block]?=some (.cells ca ta (0,0))
theorem z3l{w:World}{b:Nat}{o:Obj}(h:w.heap[b]?=some o):b<w.heap.size:=(gA h).1
theorem GlobW.ext{w w':World}{a0 a1:Addr}(h:GlobW w a0 a1)(hb:Below w.heap.size w w'):GlobW w' a0 a1 where
 toGlobU:=h.toGlobU.ext hb
 e0:=(hb.cell (z0S h.e0)).trans h.e0
 e1:=(hb.cell (z0S h.e1)).trans h.e1
 ne:=h.ne
 b0:=by obtain⟨ca,ta,h0⟩:=h.b0;exact⟨ca,ta,(hb.block _ (z3l h0)).trans h0⟩
 b1:=by obtain⟨ca,ta,h0⟩:=h.b1;exact⟨ca,ta,(hb.block _ (z3l h0)).trans h0⟩
end
section
open Go.Shelf
attribute [local go_sem] Oper.semAt_some
end
section
open Go.Shelf
attribute [local go_sem] Oper.semAt_some
structure Mids(s:zB)(a h:Nat)(w:World)(pre:List (Mor.Ix×UInt8))(W:World)(m sg:Int):Prop where
 bm:Boxed W (h+1+1) 173 (.int .u64 m)
 bs:Boxed W (h+1+1+1) 173 (.int .u64 sg)
 bz:Boxed W (h+1+1+1+1) 3 (.int .i64 0)
 b0:Boxed W h 3 (.int .i64 0)
 b1:Boxed W (h+1) 178 .nilIface
 m0:0≤m
 m1:m<18446744073709551616
 s0:0≤sg
 bl:Below h w W
 good:Begs s a pre→Mid s a pre m sg
section
variable{s:zB}{a H B:Nat}{w W:World}{a1:Addr}{pre q:List (Mor.Ix×UInt8)}{m sg:Int}
end
end
section
open Go.Sh
structure GlobN(a0 a1:Addr)(n:Nat)(w:World):Prop where
 g:GlobW w a0 a1
 sz:n≤w.heap.size
 h0:a0.block<n
 h1:a1.block<n
 hv:10≤n
structure GlobNA(a0 a1:Addr)(n:Nat)(w:World):Prop extends GlobN a0 a1 n w where
 t:GlobT w
structure GlobNX(a0 a1:Addr)(n:Nat)(w:World):Prop extends GlobNA a0 a1 n w where
 e:GlobE w
end
section
open Go.Sh Go.Sh.Cd1
def zoI(x:V):Prop:=I64 x.k∧I64 x.n∧x.s.length≤60
end
end Go.Proofs.YtpmlapgbmgbilaaGreatDoor
end

section
namespace Go.Mor
open Go Go.RowKit
abbrev Rd(α:Type):Type:=zB→Int→Option (α×Int)
def Rd.bind{α β:Type}(r:Rd α)(f:α→Rd β):Rd β:=fun s a=>match r s a with|none=>none|some (v,b)=>f v s b
def Rd.ret{α:Type}(v:α):Rd α:=fun _ a=>some (v,a)
def Rd.fail{α:Type}:Rd α:=fun _ _=>none
def Enc{α:Type}(r:Rd α)(e:zB)(v:α):Prop:=∀pre post:zB,r (pre++e++post) pre.length=some (v,((pre.length+e.length:Nat):Int))
def Cuts{α:Type}(r:Rd α):Prop:=∀(s:zB) (a:Int) (v:α) (b:Int) (k:Nat),r s a=some (v,b)→a≤k→a≤b∧(b≤k→r (s.take k) a=some (v,b))∧(k<b→r (s.take k) a=none)
theorem Enc.bind{α β:Type}{r:Rd α}{f:α→Rd β}{e1 e2:zB}{v1:α}{v2:β}(h1:Enc r e1 v1)(h2:Enc (f v1) e2 v2):Enc (r.bind f) (e1++e2) v2:=by
 intro pre post;have a:=h1 pre (e2++post);have b:=h2 (pre++e1) post
 grind [Rd.bind]
theorem Enc.ret{α:Type}(v:α):Enc (Rd.ret v) [] v:=fun pre post=>by simp[Rd.ret]
theorem Cuts.bind{α β:Type}{r:Rd α}{f:α→Rd β}(h1:Cuts r)(h2:∀v,Cuts (f v)):Cuts (r.bind f):=by
 intro s a v b k h hk;unfold Rd.bind at h ⊢;cases hr:r s a with
 |none=>grind
 |some p=>
  obtain⟨v1,b1⟩:=p;rw[hr]at h;obtain⟨g1,g2,g3⟩:=h1 s a v1 b1 k hr hk;by_cases hb:b1≤k
  ·obtain⟨j1,j2,j3⟩:=h2 v1 s b1 v b k h hb
   grind
  ·obtain⟨j1,_,_⟩:=h2 v1 s b1 v b b1.toNat h (by omega)
   grind
theorem Cuts.ret{α:Type}(v:α):Cuts (Rd.ret v):=by
 intro s a v' b k h hk;simp only[Rd.ret,Option.some.injEq,Prod.mk.injEq]at h ⊢
 grind
theorem Cuts.fail{α:Type}:Cuts (Rd.fail (α:=α)):=fun s a v b k h=>by cases h
end Go.Mor
end

section
namespace Go.Proofs.YtpmlapgbmgbilaaGreatDoor
open Go Go.RowKit Go.Mor Go.Sh
section
open Go.Sh.Cd1 Go.Sh.Cd7
structure ChFit(h:Chg):Prop where
 k:I64 h.k
 tk:I64 h.t.k
 ot:I64 h.t.o
 f:h.f.length≤10000
 n:h.n.length≤10000
 m:h.m.length≤10000
 x:h.x.length≤10000
 o:h.o.length≤10000
end
theorem zn4(n:Nat)(a b c d:Int):zp Tryz.prog (Op.equalIn (n+1+1) 27 (.agg #[.int .i64 a,.int .i64 b]) (.agg #[.int .i64 c,.int .i64 d]))=some (z0f ⟨a,b⟩ ⟨c,d⟩):=by
 rw[z2d _ _ _ _ (by kernel_rfl) (by kernel_rfl)];obtain⟨f,g,hl,nf,ng,pf,pg,ef,eg⟩:=zaj;rw[hl];simp only[Op.eqFields,nf,ng,ne_eq,not_false_eq_true,if_true,z01,pf,pg,ef,eg,Option.bind_some];unfold z0f;cases h:(a==c)
 ·simp[h,z1Z]
 ·cases h2:(b==d)<;>simp[h,h2,z1Z,z01,pg,eg,ng]
structure PartOk(f:Field)(x y:Array Value)(a b:Value)(e:Bool):Prop where
 nm:f.name≠ "_"
 px:zp Tryz.prog (part f.type x f.offset)=some a
 py:zp Tryz.prog (part f.type y f.offset)=some b
 eq:∀n,zp Tryz.prog (Op.equalIn (n+1+1) f.type a b)=some e
theorem z1v{f:Field}{l:List Field}{x y:Array Value}{a b:Value}{e r:Bool}{n:Nat}(h:PartOk f x y a b e)(hl:zp Tryz.prog (Op.eqFields (n+1+1) x y l)=some r):zp Tryz.prog (Op.eqFields (n+1+1) x y (f::l))=some (e&&r):=by
 obtain⟨h1,h2,h3,h4⟩:=h;simp only[Op.eqFields,h1,ne_eq,not_false_eq_true,if_true,z01,h2,h3,h4,Option.bind_some];cases e
 ·simp[z1Z]
 ·simpa using hl
theorem zcs{x y:Array Value}{n:Nat}:zp Tryz.prog (Op.eqFields n x y [])=some true:=rfl
theorem prS(n:Nat)(a b:ByteArray):zp Tryz.prog (Op.equalIn (n+1) 9 (.string a) (.string b))=some (a==b):=by kernel_rfl
theorem prI(n:Nat)(a b:Int):zp Tryz.prog (Op.equalIn (n+1) 3 (.int .i64 a) (.int .i64 b))=some (a==b):=by kernel_rfl
theorem prB(n:Nat)(a b:Bool):zp Tryz.prog (Op.equalIn (n+1) 4 (.bool a) (.bool b))=some (a==b):=by kernel_rfl
def fldA(s:ByteArray)(k o:Int)(b:Bool):Array Value:= #[.string s,.int .i64 k,.int .i64 o,.bool b]
theorem zoX(s s':ByteArray)(k k' o o':Int)(b b':Bool):zp Tryz.prog (Op.equal 71 (.agg (fldA s k o b)) (.agg (fldA s' k' o' b')))=some ((s==s')&&(z0f ⟨k,o⟩ ⟨k',o'⟩&&((b==b')&&true))):=by
 unfold Op.equal;obtain⟨n,hn⟩:∃n,Op.maxDepth=n+1+1+1:=⟨_,rfl⟩
 rw[hn,z2d _ _ _ _ (by kernel_rfl) (by kernel_rfl)];obtain⟨f,g,h,hl⟩:∃f g h,(Tryz.prog.fieldsOf 71).toList=[f,g,h]∧PartOk f (fldA s k o b) (fldA s' k' o' b') (.string s) (.string s') (s==s')∧PartOk g (fldA s k o b) (fldA s' k' o' b') (.agg #[.int .i64 k,.int .i64 o]) (.agg #[.int .i64 k',.int .i64 o']) (z0f ⟨k,o⟩ ⟨k',o'⟩)∧PartOk h (fldA s k o b) (fldA s' k' o' b') (.bool b) (.bool b') (b==b'):=
  ⟨(Tryz.prog.fieldsOf 71).toList.getD 0 default,(Tryz.prog.fieldsOf 71).toList.getD 1 default,(Tryz.prog.fieldsOf 71).toList.getD 2 default,by kernel_rfl,
   ⟨of_decide_eq_true (by kernel_rfl),by kernel_rfl,by kernel_rfl,fun n=>prS (n+1) _ _⟩,⟨of_decide_eq_true (by kernel_rfl),by kernel_rfl,by kernel_rfl,fun n=>zn4 n _ _ _ _⟩,⟨of_decide_eq_true (by kernel_rfl),by kernel_rfl,by kernel_rfl,fun n=>prB (n+1) _ _⟩⟩
 rw[hl.1];exact z1v hl.2.1 (z1v hl.2.2.1 (z1v hl.2.2.2 zcs))
theorem zpm(s s':ByteArray)(k k' o o':Int)(b b':Bool):z04 Tryz.prog (do eqGuard .neq 71 (.const (.agg #[.string s,.int .i64 k,.int .i64 o,.bool b])) (.const (.agg #[.string s',.int .i64 k',.int .i64 o',.bool b'])) (.agg #[.string s,.int .i64 k,.int .i64 o,.bool b]) (.agg #[.string s',.int .i64 k',.int .i64 o',.bool b']);binOp .neq 71 (.agg #[.string s,.int .i64 k,.int .i64 o,.bool b]) (.agg #[.string s',.int .i64 k',.int .i64 o',.bool b']))=
  some (.pv (.v (.bool (!((s==s')&&(z0f ⟨k,o⟩ ⟨k',o'⟩&&((b==b')&&true)))))),.no):=by
 unfold z04;rw[z01];have hg:zp Tryz.prog (eqGuard .neq 71 (.const (.agg #[.string s,.int .i64 k,.int .i64 o,.bool b])) (.const (.agg #[.string s',.int .i64 k',.int .i64 o',.bool b'])) (.agg #[.string s,.int .i64 k,.int .i64 o,.bool b]) (.agg #[.string s',.int .i64 k',.int .i64 o',.bool b']))=some ():=by kernel_rfl
 rw[hg,Option.bind_some];have hb:binOp .neq 71 (.agg #[.string s,.int .i64 k,.int .i64 o,.bool b]) (.agg #[.string s',.int .i64 k',.int .i64 o',.bool b'])=(Op.equal 71 (.agg (fldA s k o b)) (.agg (fldA s' k' o' b'))>>=fun r=>pure (.bool (!r))):=rfl;rw[hb,z01,zoX];rfl
section
open Go.Sh.Cd1 Go.Sh.Cd7
def z0i(a b:Chg):Bool:=(a.k==b.k)&&((a.f==b.f)&&((a.n==b.n)&&((a.m==b.m)&&(z0f a.t b.t&&((a.x==b.x)&&((a.o==b.o)&&true))))))
def chA(k:Int)(f n m:ByteArray)(t o:Int)(x y:ByteArray):Array Value:= #[.int .i64 k,.string f,.string n,.string m,.int .i64 t,.int .i64 o,.string x,.string y]
theorem zjb(k k':Int)(f n m f' n' m':ByteArray)(t o t' o':Int)(x y x' y':ByteArray):zp Tryz.prog (Op.equal 37 (.agg (chA k f n m t o x y)) (.agg (chA k' f' n' m' t' o' x' y')))=
  some ((k==k')&&((f==f')&&((n==n')&&((m==m')&&(z0f ⟨t,o⟩ ⟨t',o'⟩&&((x==x')&&((y==y')&&true))))))):=by
 unfold Op.equal;obtain⟨d,hn⟩:∃d,Op.maxDepth=d+1+1+1:=⟨_,rfl⟩
 rw[hn,z2d _ _ _ _ (by kernel_rfl) (by kernel_rfl)];obtain⟨f1,f2,f3,f4,f5,f6,f7,hl,P1,P2,P3,P4,P5,P6,P7⟩:∃f1 f2 f3 f4 f5 f6 f7,(Tryz.prog.fieldsOf 37).toList=[f1,f2,f3,f4,f5,f6,f7]∧
   PartOk f1 (chA k f n m t o x y) (chA k' f' n' m' t' o' x' y') (.int .i64 k) (.int .i64 k') (k==k')∧
   PartOk f2 (chA k f n m t o x y) (chA k' f' n' m' t' o' x' y') (.string f) (.string f') (f==f')∧
   PartOk f3 (chA k f n m t o x y) (chA k' f' n' m' t' o' x' y') (.string n) (.string n') (n==n')∧
   PartOk f4 (chA k f n m t o x y) (chA k' f' n' m' t' o' x' y') (.string m) (.string m') (m==m')∧
   PartOk f5 (chA k f n m t o x y) (chA k' f' n' m' t' o' x' y') (.agg #[.int .i64 t,.int .i64 o]) (.agg #[.int .i64 t',.int .i64 o']) (z0f ⟨t,o⟩ ⟨t',o'⟩)∧
   PartOk f6 (chA k f n m t o x y) (chA k' f' n' m' t' o' x' y') (.string x) (.string x') (x==x')∧
   PartOk f7 (chA k f n m t o x y) (chA k' f' n' m' t' o' x' y') (.string y) (.string y') (y==y'):=
  ⟨(Tryz.prog.fieldsOf 37).toList.getD 0 default,(Tryz.prog.fieldsOf 37).toList.getD 1 default,(Tryz.prog.fieldsOf 37).toList.getD 2 default,(Tryz.prog.fieldsOf 37).toList.getD 3 default,
   (Tryz.prog.fieldsOf 37).toList.getD 4 default,(Tryz.prog.fieldsOf 37).toList.getD 5 default,(Tryz.prog.fieldsOf 37).toList.getD 6 default,by kernel_rfl,
   ⟨of_decide_eq_true (by kernel_rfl),by kernel_rfl,by kernel_rfl,fun n=>prI (n+1) _ _⟩,
   ⟨of_decide_eq_true (by kernel_rfl),by kernel_rfl,by kernel_rfl,fun n=>prS (n+1) _ _⟩,
   ⟨of_decide_eq_true (by kernel_rfl),by kernel_rfl,by kernel_rfl,fun n=>prS (n+1) _ _⟩,
   ⟨of_decide_eq_true (by kernel_rfl),by kernel_rfl,by kernel_rfl,fun n=>prS (n+1) _ _⟩,
   ⟨of_decide_eq_true (by kernel_rfl),by kernel_rfl,by kernel_rfl,fun n=>zn4 n _ _ _ _⟩,
   ⟨of_decide_eq_true (by kernel_rfl),by kernel_rfl,by kernel_rfl,fun n=>prS (n+1) _ _⟩,
   ⟨of_decide_eq_true (by kernel_rfl),by kernel_rfl,by kernel_rfl,fun n=>prS (n+1) _ _⟩⟩
 rw[hl];exact z1v P1 (z1v P2 (z1v P3 (z1v P4 (z1v P5 (z1v P6 (z1v P7 zcs))))))
theorem zoY(k k':Int)(f n m f' n' m':ByteArray)(t o t' o':Int)(x y x' y':ByteArray):
  z04 Tryz.prog (do eqGuard .eql 37 (.const (.agg #[.int .i64 k,.string f,.string n,.string m,.int .i64 t,.int .i64 o,.string x,.string y])) (.const (.agg #[.int .i64 k',.string f',.string n',.string m',.int .i64 t',.int .i64 o',.string x',.string y'])) (.agg #[.int .i64 k,.string f,.string n,.string m,.int .i64 t,.int .i64 o,.string x,.string y]) (.agg #[.int .i64 k',.string f',.string n',.string m',.int .i64 t',.int .i64 o',.string x',.string y']);binOp .eql 37 (.agg #[.int .i64 k,.string f,.string n,.string m,.int .i64 t,.int .i64 o,.string x,.string y]) (.agg #[.int .i64 k',.string f',.string n',.string m',.int .i64 t',.int .i64 o',.string x',.string y']))=
  some (.pv (.v (.bool ((k==k')&&((f==f')&&((n==n')&&((m==m')&&(z0f ⟨t,o⟩ ⟨t',o'⟩&&((x==x')&&((y==y')&&true))))))))),.no):=by
 unfold z04;rw[z01];have hg:zp Tryz.prog (eqGuard .eql 37 (.const (.agg #[.int .i64 k,.string f,.string n,.string m,.int .i64 t,.int .i64 o,.string x,.string y])) (.const (.agg #[.int .i64 k',.string f',.string n',.string m',.int .i64 t',.int .i64 o',.string x',.string y'])) (.agg #[.int .i64 k,.string f,.string n,.string m,.int .i64 t,.int .i64 o,.string x,.string y]) (.agg #[.int .i64 k',.string f',.string n',.string m',.int .i64 t',.int .i64 o',.string x',.string y']))=some ():=by kernel_rfl
 rw[hg,Option.bind_some];have hb:binOp .eql 37 (.agg #[.int .i64 k,.string f,.string n,.string m,.int .i64 t,.int .i64 o,.string x,.string y]) (.agg #[.int .i64 k',.string f',.string n',.string m',.int .i64 t',.int .i64 o',.string x',.string y'])=(Op.equal 37 (.agg (chA k f n m t o x y)) (.agg (chA k' f' n' m' t' o' x' y'))>>=fun r=>pure (.bool r)):=rfl;rw[hb,z01,zjb];rfl
theorem znn(a b:zB):(str a==str b)=(a==b):=by
 show((str a).data==(str b).data)=(a==b)
 rw[Bool.eq_iff_iff,beq_iff_eq,beq_iff_eq];constructor
 ·intro h;have:=congrArg Array.toList h;simpa [str]using this
 ·intro h;rw[h]
theorem zij(g:Sh.Glob)(a b:Chg):zC g 53 [chT a,chT b] [] (B (z0i a b)) []:=by
 have H:=zoY a.k b.k (str a.f) (str a.n) (str a.m) (str b.f) (str b.n) (str b.m) a.t.k a.t.o b.t.k b.t.o (str a.x) (str a.o) (str b.x) (str b.o);simp only[znn]at H;refine za tf_35 ?_;unfold chT B z0i;simp only[vW,seval,H]
theorem z9j(m:Nat){s:zB}{r:V×Int×Int}(h:z2x 1000 s=some r)(hl:s.length<4611686018427387904):TxOk m s:=by
 have e:rdV s=r:=by unfold rdV;rw[h];rfl
 refine⟨hl,fun _=> ?_,fun _=> ?_⟩
 ·rw[e];exact zba (zk2 m s h)
 ·rw[e];unfold z2x at h;split at h
  ·cases h;exact z5r
  ·split at h
   ·cases h
   ·cases h;exact z5r
   ·rename_i L hL;split at h
    ·rename_i e p hp;split at h
     ·cases h;exact z5r
     ·split at h
      ·cases h;exact(z6q (z3o _ _ _ _ _ (by simp) hL).1 _ _).1 _ _ _ _ hp
      ·cases h;exact z5r
    ·cases h;exact z5r
    ·cases h
theorem zf2(m:Nat):TxOk m []:=⟨by simp,fun h=>absurd rfl h,fun h=>absurd rfl h⟩
theorem zeC{l:zB}{a:Nat}{q:Pc}{z:Nat}(h:z0e l a=some (q,z)):PcOk q:=by
 cases l with
 |nil=>cases h
 |cons b r=>
  rw[z0e]at h;split at h
  ·split at h
   ·cases h
   ·cases h;exact⟨.inl rfl,fun h=>by simp at h,fun _=>rfl⟩
  split at h
  ·split at h
   ·cases h;exact⟨.inr (.inr (.inl rfl)),fun h=>by simp at h,fun h=>by simp at h⟩
   ·cases h
  split at h
  ·split at h
   ·cases h;exact⟨.inr (.inl rfl),fun _=>rfl,fun h=>by simp at h⟩
   ·cases h
  split at h
  ·cases h
  ·cases h;exact⟨.inr (.inr (.inr rfl)),fun h=>by simp at h,fun h=>by simp at h⟩
theorem zmd(L:List Pc)(q:Pc):qcR (L++[q])=qcR L++[qcR1 q]:=by unfold qcR;rw[List.map_append];rfl
def z6l(a c:Int):TV:=.tuple [.agg zG,I a,I c]
def zdJ(L:List Pc)(sz:Nat)(e:V)(q:Nat)(b:Int):TV:=
 if 0≤b then z6l b 50 else if q<L.length then z6l ((pkP L sz q).p:Int) 50 else if z0X e then .tuple [tv e,I 0,I 0] else z6l 0 51
theorem z5M(g:Sh.Glob)(s:zB)(hs:s.length≤200)(X:Lx)(f:Nat)(hX:z0U f s 0 []=some X)(Q:TV)(hbad:∀a,X=.bad a→Q=z6l (a:Int) 50)
  (hok:∀L,X=.ok L→∃e q b F,mE L s.length F 1 0 (-1)=some (e,q,b)∧(b<0→ESmall e)∧Q=zdJ L s.length e q b):zC g 87 [S (str s)] [] Q []:=by
 have d0:¬(200:Int)<(s.length:Int):=by omega
 have e0:=bS [];refine z2a tf_136 ?_;simp only[vW,seval,d0,e0];refine zk (σ:={x:Nat×List Pc // x.1≤s.length∧(∃f,z0U f (s.drop x.1) x.1 x.2=some X)∧(∀q∈x.2,PcOk q)∧x.2.length≤x.1}) (fun x=>⟨[(0,S (str s)),(2,.ptr 2 0),(5,.ptr 17 0),(6,I (x.1.1:Int))],[(2,[I 0,I 0,S (str []),.pv (.v (.slice none 0 0))]),(17,[.own 3000 4 (qcR x.1.2),I 0,I (s.length:Int),I (-1)])],[(3000,(193,4,x.1.2.length))],[]⟩) (fun x=>s.length-x.1.1) ⟨(0,[]),Nat.zero_le _,⟨f,hX⟩,by simp,Nat.le_refl _⟩ ?_ ?_
 ·refine ES.Lw.trans ?_ (show ES.Lw ⟨[(0,S (str s)),(2,.ptr 2 0),(5,.ptr 17 0),(6,I 0)],[(2,[I 0,I 0,S (str []),.pv (.v (.slice none 0 0))]),(17,[.pv (.v (.slice none 0 0)),.pv (.v (.int .i64 0)),.pv (.v (.int .i64 (s.length:Int))),.pv (.v (.int .i64 (-1)))])],[],[]⟩ _ by apply z0g<;>simp[leL,lk,sv,Nat.beq,I,S,ES.kill,has,drp,zr,e0]);refine ES.Lw.trans ?_ (z5y (x:=17) (j:=0) (d:=3000) (e:=193) (W:=4) (.inr (by decide)) (by decide) rfl (by simp only[vcA,seval]) rfl);exact z18 rfl
 clear hX;rintro⟨⟨i,acc⟩,hi,⟨f,hX⟩,hA,hal⟩
 dsimp only at hi hX hA hal
 by_cases hlt:i<s.length
 ·have d1:(i:Int)<(s.length:Int):=by omega
  obtain⟨b,eb⟩:∃b,s[i]?=some b:=⟨_,gE hlt⟩
  have hdr:s.drop i=b::s.drop (i+1):=by rw[List.drop_eq_getElem_cons hlt];congr 1;rw[gE hlt]at eb;exact Option.some.inj eb
  have w1:=wS i;have hbl:=b.toNat_lt;cases f with
  |zero=>cases hX
  |succ f=>
   by_cases h32:b=32
   ·subst h32;rw[hdr,z0U]at hX;simp only[if_true]at hX;simp only[vW,seval,d1,eb,w1];refine zc ⟨(i+1,acc),hlt,⟨f,hX⟩,hA,by dsimp only;omega⟩ (by show s.length-(i+1)<s.length-i;omega) ?_;exact lwA
   have t32:¬(b.toNat:Int)=32:=z9M b 32 h32;have HN:=zhZ g s i (by omega) hlt;have hX':(match z0e (s.drop i) i with|none=>some (.bad i)|some (q,z)=>z0U f ((s.drop i).drop z) (i+z) (acc++[q]))=some X:=by
    rw[hdr,z0U]at hX;simp only[h32,if_false]at hX;rw[hdr];exact hX
   cases hr:z0e (s.drop i) i with
   |none=>
    rw[hr]at hX' HN;obtain⟨k,n,t,HN⟩:=HN;cases hX';rw[hbad i rfl];unfold z6l zG;simp only[vW,seval,d1,eb,t32];refine z7 HN ?_;simp only[vW,seval,e0];try rfl
   |some x=>
    obtain⟨q,z⟩:=x;rw[hr]at hX' HN
    dsimp only at hX'
    have hz:=z8l (b:=b) (r:=s.drop (i+1)) (by rw[←hdr];exact hr);have hzl:i+z≤s.length:=by have:=hz.2.1;simp only[List.length_cons,List.length_drop]at this;omega
    have hz0:¬((i+z:Nat):Int)=0:=by omega
    have HN:zC g 107 [S (str s),I (i:Int)] [] (.tuple [qcT q,I ((i+z:Nat):Int)]) []:=HN;unfold qcT at HN;have hlen:=zhW acc;rw[List.drop_drop]at hX';simp only[vW,seval,d1,eb,t32];refine z7 HN ?_;simp only[vW,seval,hz0,hlen];refine⟨⟨by omega,by unfold maxLen;omega⟩,zc ⟨(i+z,acc++[q]),hzl,⟨f,hX'⟩,fun y hy=> ?_,by simp;omega⟩ (by show s.length-(i+z)<s.length-i;omega) ?_⟩
    ·rcases List.mem_append.1 hy with hy|hy
     ·exact hA y hy
     ·obtain rfl:=List.mem_singleton.1 hy;exact zeC hr
    ·simp only[zmd];apply z0g<;>simp[leL,lk,sv,Nat.beq,I,S,ES.kill,has,drp,zr,qcR1,List.length_append,List.length_singleton]
 ·have d1:¬(i:Int)<(s.length:Int):=by omega
  have hXa:X=.ok acc:=by
   cases f with
   |zero=>cases hX
   |succ f=>
    rw[List.drop_eq_nil_of_le (by omega),z0U]at hX;cases hX;rfl
  obtain⟨e,q,b,F,hm,hsm,hQ⟩:=hok acc hXa;have hL:PcL acc:=⟨hA,by omega⟩
  have HE:=(zpy (g:=g) (sz:=s.length) hL F).1 F (Nat.le_refl _) 1 0 (-1) _ hm;have HF:=za6 (sz:=s.length) g hL q b
  dsimp only at HE
  rw[hQ];unfold zdJ z6l;clear hQ;unfold PB at HE HF;by_cases hb:0≤b
  ·rw[if_pos hb];have nb:¬b<0:=by omega
   unfold zG;simp only[vW,seval,d1];refine z7 HE ?_;simp only[vW,seval,nb,hb,e0];try rfl
  rw[if_neg hb];have nb:b<0:=by omega
  by_cases hq:q<acc.length
  ·rw[if_pos hq];have d2:(q:Int)<(acc.length:Int):=by omega
   have hfb:z3g acc s.length q b=((pkP acc s.length q).p:Int):=by unfold z3g;rw[if_pos nb]
   rw[hfb]at HF;generalize(pkP acc s.length q).p=fp at*;unfold zG;simp only[vW,seval,d1];refine z7 HE ?_;simp only[vW,seval,nb,hb,e0,qcV,d2];refine z7 HF ?_;simp only[vW,seval,e0];try rfl
  rw[if_neg hq];have d2:¬(q:Int)<(acc.length:Int):=by omega
  have HR:=z8p g e (hsm nb);unfold B at HR;cases hre:z0X e
  ·rw[hre]at HR;unfold zG;simp only[Bool.false_eq_true,if_false];simp only[vW,seval,d1];refine z7 HE ?_;simp only[vW,seval,nb,hb,e0,qcV,d2];refine z7 HR ?_;simp only[vW,seval,e0];try rfl
  ·rw[hre]at HR;simp only[if_true];simp only[vW,seval,d1];refine z7 HE ?_;simp only[vW,seval,nb,hb,e0,qcV,d2];refine z7 HR ?_;simp only[vW,seval,e0];try rfl
end
end Go.Proofs.YtpmlapgbmgbilaaGreatDoor
end
