/- Merged texts: Zo8 Zo9 Zu1 Ze28 Wire1 Wire2 Wire3 Wire4. No statement of the program is proved here. -/
import Derived.Test.YtpmlapgbmgbilaaGreatDoorR30
import Derived.RangeFuncNested
import Derived.RangeFuncBound
import Derived.RangeFuncLeaves
import Derived.RangeFuncBox
import Derived.Shelf.Abstract
import Derived.Shelf.RegionOpen
import Derived.OwnWalkIn
import Derived.TacticsInMore
import Derived.LoopNIn
import Derived.LoopIn
import Derived.Maps.AppendAt
import Derived.LaidEql
import Derived.Stop.Asserts
import Derived.RowKitTokens
set_option linter.unusedSimpArgs false
set_option linter.unusedVariables false
set_option maxRecDepth 100000
set_option maxHeartbeats 8000000
section
namespace Go.Proofs.YtpmlapgbmgbilaaGreatDoor
open Go Go.RowKit Go.Mor
section
open Go.Sh Go.Sh.Cd1 Go.Sh.Cd7
def qcR1(q:Pc):List PV:=[.v (.int .i64 (qcK q.k)),.v (.int .i64 q.n),.v (.string (str q.s)),.v (.int .i64 (q.p:Int))]
def qcR(L:List Pc):List (List PV):=L.map qcR1
theorem zpo(L:List Pc)(k:Nat):(qcR L)[k]?=(L[k]?).map qcR1:=by unfold qcR;rw[List.getElem?_map]
theorem zjF(L:List Pc):(qcR L).length=L.length:=by unfold qcR;rw[List.length_map]
theorem qcV:(type_of% @zpo)∧(type_of% @zjF)∧(type_of% @qcR1.eq_1):=⟨@zpo,@zjF,@qcR1.eq_1⟩
def PB(L:List Pc)(sz p:Nat)(b:Int):MO:=.box [.pv (.sl 4 (qcR L)),I (p:Int),I (sz:Int),I b]
structure PcL(L:List Pc):Prop where
 ok:∀q∈L,PcOk q
 len:L.length≤1000
section
variable{L:List Pc}{sz:Nat}
theorem zm1(g:Sh.Glob)(hL:PcL L)(t:zB)(p:Nat)(b:Int):zC g 177 [.ptr 1000 0,S (str t)] [PB L sz p b] (B (z01 (pkP L sz p) t)) [PB L sz p b]:=by
 unfold PB B;refine zj tf_35 ?_;by_cases hp:p<L.length
 ·have d1:(p:Int)<(L.length:Int):=by omega
  obtain⟨q,eq⟩:∃q,L[p]?=some q:=⟨_,gE hp⟩
  have hq:=hL.ok q (gM eq);rw[z7h eq];have hk:z01 q t=(decide (qcK q.k=0)&&q.s==t):=by
   unfold z01 qcK;rcases hq.k with k|k|k|k<;>rw[k]<;>rfl
  rw[hk];by_cases k0:qcK q.k=0
  ·simp only[vW,seval,d1,eq,qcV,k0]
  ·simp only[vW,seval,d1,eq,qcV,k0]
 ·have d1:¬(p:Int)<(L.length:Int):=by omega
  rw[z5W (by omega)];simp only[vW,seval,d1,qcV];rfl
theorem zb2(g:Sh.Glob)(hL:PcL L)(p:Nat)(b:Int):zC g 109 [.ptr 1000 0] [PB L sz p b] (tv V.nil) [PB L sz p (z3x L sz p b)]:=by
 refine SCalls.out ?_ (z4L (x:=V.nil) rfl);unfold PB nv;refine zj tf_34 ?_;have e0:=bS [];unfold z3x;by_cases hb:b<0
 ·rw[if_pos hb];by_cases hp:p<L.length
  ·have d1:(p:Int)<(L.length:Int):=by omega
   obtain⟨q,eq⟩:∃q,L[p]?=some q:=⟨_,gE hp⟩
   rw[z7h eq];simp only[vW,seval,d1,eq,qcV,hb,e0];try rfl
  ·have d1:¬(p:Int)<(L.length:Int):=by omega
   rw[z5W (by omega)];simp only[vW,seval,d1,qcV,hb,e0];try rfl
 ·rw[if_neg hb];simp only[vW,seval,qcV,hb,e0];try rfl
theorem z7Y(g:Sh.Glob)(hL:PcL L)(t:zB)(p:Nat)(b:Int):zC g 180 [.ptr 1000 0,S (str t)] [PB L sz p b] (.tuple []) [PB L sz (z2i L sz t p b).1 (z2i L sz t p b).2]:=by
 have HI:=zm1 (sz:=sz) g hL t p b;have HF:=zb2 (sz:=sz) g hL p b;unfold z2i;refine zj tf_37 ?_;by_cases hb:0≤b
 ·rw[if_pos hb];unfold PB;simp only[vW,seval,hb];try rfl
 ·rw[if_neg hb];unfold PB B at*;cases hs:z01 (pkP L sz p) t
  ·rw[hs]at HI;simp only[vW,seval,hb];refine z8 HI ?_;exact zf HF
  ·rw[hs]at HI;have hp:p<L.length:=by
    rcases Nat.lt_or_ge p L.length with h|h
    ·exact h
    ·rw[z5W h]at hs;simp[z01]at hs
   have hln:=hL.len;have w1:=wS p;simp only[vW,seval,hb];refine z7 HI ?_;simp only[vW,seval,w1];try rfl
end
end
section
open Go.Sh Go.Sh.Cd1 Go.Sh.Cd7
section
variable(g:Sh.Glob)(L:List Pc)(sz:Nat)
def EX(F:Nat):Prop:=∀(zu:Int) (p:Nat) (b:Int) (r:V×Nat×Int),mE L sz F zu p b=some r→zC g 108 [.ptr 1000 0,I zu] [PB L sz p b] (tv r.1) [PB L sz r.2.1 r.2.2]
def TX(F:Nat):Prop:=∀(p:Nat) (b:Int) (r:V×Nat×Int),mT L sz F p b=some r→zC g 150 [.ptr 1000 0] [PB L sz p b] (tv r.1) [PB L sz r.2.1 r.2.2]
def HX(F:Nat):Prop:=∀(s:zB) (p:Nat) (b:Int) (r:V×Nat×Int),mH L sz F s 0 p b []=some r→zC g 179 [.ptr 1000 0,S (str s)] [PB L sz p b] (tv r.1) [PB L sz r.2.1 r.2.2]
end
variable{g:Sh.Glob}{L:List Pc}{sz:Nat}
theorem zh4(hL:PcL L)(F:Nat)(hT:TX g L sz F)(hE:EX g L sz F)(hH:HX g L sz F):TX g L sz (F+1):=by
 intro p b r h;rw[mT]at h;have HF:=zb2 (sz:=sz) g hL p b;have e0:=bS [];have hln:=hL.len;by_cases h0:0≤b∨L.length≤p
 ·rw[if_pos h0]at h;cases h;refine zj tf_36 ?_;try dsimp only
  generalize z3x L sz p b=fb at*;unfold PB at*;by_cases hb:0≤b
  ·simp only[vW,seval,hb];exact zf HF
  ·have d1:(L.length:Int)≤(p:Int):=by omega
   simp only[vW,seval,hb,d1,qcV];exact zf HF
 rw[if_neg h0]at h;have hb:¬0≤b:=fun h=>h0 (.inl h);have hp:p<L.length:=by omega
 have d1:¬(L.length:Int)≤(p:Int):=by omega
 obtain⟨x,ex⟩:∃q,L[p]?=some q:=⟨_,gE hp⟩
 have hq:=hL.ok x (gM ex);rw[z7h ex]at h;have w1:=wS p;rcases hq.k with k|k|k|k
 ·rw[if_pos (.inl k)]at h;cases h;have kk:qcK x.k=1:=by rw[k];rfl
  refine SCalls.out ?_ (z4L (x:=.mk x.k x.n x.s []) rfl);unfold PB nv;rw[k];refine zj tf_36 ?_;simp only[vW,seval,hb,d1,qcV,ex,kk,w1];try rfl
 ·rw[if_pos (.inr k)]at h;cases h;have kk:qcK x.k=2:=by rw[k];rfl
  refine SCalls.out ?_ (z4L (x:=.mk x.k x.n x.s []) rfl);unfold PB nv;rw[k];refine zj tf_36 ?_;simp only[vW,seval,hb,d1,qcV,ex,kk,w1];try rfl
 ·rw[if_neg (by omega),if_pos k]at h;have kk:qcK x.k=3:=by rw[k];rfl
  have HI:=zm1 (sz:=sz) g hL [40] (p+1) b;have HA:=z6Y g x.s;have q40:=bS [40];by_cases hc:z01 (pkP L sz (p+1)) [40]=true∧0<zt x.s
  ·rw[if_pos hc]at h;have HC:=hH x.s (p+1+1) b r h;have hp2:p+1<L.length:=by
    rcases Nat.lt_or_ge (p+1) L.length with h|h
    ·exact h
    ·have:=hc.1;rw[z5W h]at this;simp[z01]at this
   have w2:IntKind.i64.wrap (((p+1:Nat):Int)+1)=((p+1+1:Nat):Int):=wG;have t1:=hc.2;rw[hc.1]at HI;refine zj tf_36 ?_;generalize r.1=re at*;generalize r.2.1=rp at*;generalize r.2.2=rb at*;unfold PB B at*;simp only[vW,seval,hb,d1,qcV,ex,kk,w1,q40];refine z8 HI ?_;refine z7 HA ?_;simp only[vW,seval,t1,w2];exact zf HC
  ·rw[if_neg hc]at h;cases h;refine SCalls.out ?_ (z4L (x:=.mk 3 0 x.s []) rfl);refine zj tf_36 ?_;unfold PB B nv at*;cases hi:z01 (pkP L sz (p+1)) [40]
   ·rw[hi]at HI;simp only[vW,seval,hb,d1,qcV,ex,kk,w1,q40];refine z8 HI ?_;try trivial
   ·rw[hi]at HI;have t1:¬0<zt x.s:=fun h=>hc ⟨hi,h⟩;simp only[vW,seval,hb,d1,qcV,ex,kk,w1,q40];refine z8 HI ?_;refine z7 HA ?_;simp only[vW,seval,t1];try rfl
 ·rw[if_neg (by omega),if_neg (by omega)]at h;have kk:qcK x.k=0:=by rw[k];rfl
  have q45:=bS [45];have q40:=bS [40];have q41:=bS [41];by_cases h45:x.s=[45]
  ·rw[if_pos h45]at h;split at h
   ·rename_i e p' b' hT2;cases h;have HT:=hT _ _ _ hT2;have s45:(x.s==[45])=true:=by simpa using h45
    refine zj tf_36 ?_;unfold PB at*;simp only[vW,seval,hb,d1,qcV,ex,kk,w1,q45,s45];refine z7 HT ?_;simp only[vW,seval,q45];rw[show V.rows [e]=[V.row e] from rfl,z2l]
   ·cases h
  rw[if_neg h45]at h;have s45:(x.s==[45])=false:=by simpa using h45
  by_cases h40:x.s=[40]
  ·rw[if_pos h40]at h;split at h
   ·rename_i e p' b' hE2;cases h;have HE:=hE _ _ _ _ hE2;have HW:=z7Y (sz:=sz) g hL [41] p' b';have s40:(x.s==[40])=true:=by simpa using h40
    refine zj tf_36 ?_
    dsimp only at*
    generalize z2i L sz [41] p' b'=wr at*;unfold PB at*;simp only[vW,seval,hb,d1,qcV,ex,kk,w1,q45,s45,q40,s40];refine z7 HE ?_;simp only[vW,seval,q41];refine z8 HW ?_;try trivial
   ·cases h
  ·rw[if_neg h40]at h;cases h;have s40:(x.s==[40])=false:=by simpa using h40
   refine zj tf_36 ?_;try dsimp only
   generalize z3x L sz p b=fb at*;unfold PB at*;simp only[vW,seval,hb,d1,qcV,ex,kk,w1,q45,s45,q40,s40];refine z8 HF ?_;try trivial
end
section
open Go.Sh Go.Sh.Cd1 Go.Sh.Cd7
variable{g:Sh.Glob}{L:List Pc}{sz:Nat}
theorem zpG(s:zB):0≤zM s∧zM s≤4:=by
 unfold zM
 repeat' split
 all_goals omega
theorem zjH(hL:PcL L)(F:Nat)(hT:TX g L sz F)(hE:∀f,f<F→EX g L sz f):EX g L sz (F+1):=by
 intro zu p b r h;rw[mE]at h;split at h
 case h_2=>cases h
 rename_i e p' b' hm;have HT:=hT _ _ _ hm;have hln:=hL.len;refine zj tf_33 ?_;generalize hr1:r.1=re at*;generalize hr2:r.2.1=rp at*;generalize hr3:r.2.2=rb at*;have hr:r=(re,rp,rb):=by rw[←hr1,←hr2,←hr3]
 subst hr;have e0:=bS []
 dsimp only at HT
 unfold PB at*;simp only[vW,seval];refine z8 HT ?_;refine zk (σ:={x:Nat×V×Nat×Int // mL L sz x.1 zu x.2.1 x.2.2.1 x.2.2.2=some (re,rp,rb)∧x.1≤F}) (fun x=>⟨[(0,.ptr 1000 0),(1,I zu),(4,.ptr 4 0),(5,.ptr 5 0)],[(1000,[.pv (.sl 4 (qcR L)),I (x.1.2.2.1:Int),I (sz:Int),I x.1.2.2.2]),(4,[I 0,I 0,S (str []),.pv (.v (.slice none 0 0))]),(5,[I x.1.2.1.k,I x.1.2.1.n,S (str x.1.2.1.s),.pv (.sl 4 (V.rows x.1.2.1.l))])],[],[]⟩) (fun x=>x.1.1) ⟨(F,e,p',b'),h,Nat.le_refl _⟩ ?_ ?_
 ·apply z0e<;>simp[leL,lk,sv,Nat.beq,I,S,ES.kill,has,drp,zn,e0]
 clear HT hm h hT;rintro⟨⟨φ,e,p,b⟩,h,hφ⟩
 dsimp only at h hφ
 cases φ with
 |zero=>simp[mL]at h
 |succ φ=>
  rw[mL]at h;by_cases hb:b<0
  ·by_cases hp:p<L.length
   ·have d1:(p:Int)<(L.length:Int):=by omega
    obtain⟨x,ex⟩:∃q,L[p]?=some q:=⟨_,gE hp⟩
    have hq:=hL.ok x (gM ex);rw[z7h ex]at h;by_cases k4:x.k=4
    ·have kk:qcK x.k=0:=by rw[k4];rfl
     have HB:=z6Z g x.s;have hb4:=zpG x.s;by_cases hl:zu≤zM x.s
     ·rw[if_pos ⟨hb,k4,hl⟩]at h;split at h
      ·rename_i e2 p2 b2 hE2;have HE:=hE φ (by omega) _ _ _ _ hE2;have w1:=wS p;have w2:IntKind.i64.wrap (zM x.s+1)=zM x.s+1:=wrap64 (by omega) (by omega);unfold PB at HE
       dsimp only at HE
       simp only[vW,seval,hb,d1,qcV,ex,kk];refine z7 HB ?_;simp only[vW,seval,hl,w1,qcV,ex,d1];refine z7 HB ?_;simp only[vW,seval,w2];refine z8 HE ?_;refine zc ⟨(φ,.mk 4 0 x.s [e,e2],p2,b2),h,by dsimp only;omega⟩ (by show φ<φ+1;omega) ?_;have hrow:V.rows [e,e2]=[V.row e,V.row e2]:=rfl;apply z0e<;>simp[leL,lk,sv,Nat.beq,I,S,ES.kill,has,drp,zn,hrow,z2l,Vk,Vn,Vs,Vl]
      ·cases h
     ·rw[if_neg (fun h=>hl h.2.2)]at h;cases h;simp only[vW,seval,hb,d1,qcV,ex,kk];refine z7 HB ?_;simp only[vW,seval,hl];try rfl
    ·have kk:¬qcK x.k=0:=by unfold qcK;rcases hq.k with k|k|k|k<;>rw[k]<;>first|decide|exact absurd k k4
     rw[if_neg (fun h=>k4 h.2.1)]at h;cases h;simp only[vW,seval,hb,d1,qcV,ex,kk];try rfl
   ·have d1:¬(p:Int)<(L.length:Int):=by omega
    rw[z5W (by omega),if_neg (fun h=>by have:=h.2.1;simp at this)]at h;cases h;simp only[vW,seval,hb,d1,qcV];try rfl
  ·rw[if_neg (fun h=>hb h.1)]at h;cases h;simp only[vW,seval,hb,qcV];try rfl
theorem zjG(hL:PcL L)(F:Nat)(hE:∀f,f<F→EX g L sz f):HX g L sz F:=by
 intro s p b r h;have HA:=z6Y g s;have ht3:=z7l s;have e0:=bS [];have q44:=bS [44];have q41:=bS [41];have hln:=hL.len;refine zj tf_32 ?_;generalize hr1:r.1=re at*;generalize hr2:r.2.1=rp at*;generalize hr3:r.2.2=rb at*;have hr:r=(re,rp,rb):=by rw[←hr1,←hr2,←hr3]
 subst hr;unfold PB at*;simp only[vW,seval];refine zk (σ:={x:Nat×Nat×Nat×Int×List V // mH L sz x.1 s x.2.1 x.2.2.1 x.2.2.2.1 x.2.2.2.2=some (re,rp,rb)∧x.1≤F∧x.2.2.2.2.length=x.2.1∧x.2.1≤3}) (fun x=>⟨[(0,.ptr 1000 0),(1,S (str s)),(4,.ptr 4 0),(5,.ptr 5 0),(6,I (x.1.2.1:Int))],[(1000,[.pv (.sl 4 (qcR L)),I (x.1.2.2.1:Int),I (sz:Int),I x.1.2.2.2.1]),(4,[I 0,I 0,S (str []),.pv (.v (.slice none 0 0))]),(5,[I 6,I 0,S (str s),.own 3000 4 (V.rows x.1.2.2.2.2)])],[(3000,(157,4,x.1.2.2.2.2.length))],[]⟩) (fun x=>x.1.1) ⟨(F,0,p,b,[]),h,Nat.le_refl _,rfl,Nat.zero_le _⟩ ?_ ?_
 ·refine ES.Lw.trans ?_ (show ES.Lw ⟨[(0,.ptr 1000 0),(1,S (str s)),(4,.ptr 4 0),(5,.ptr 5 0),(6,I 0)],[(1000,[.pv (.sl 4 (qcR L)),I (p:Int),I (sz:Int),I b]),(4,[I 0,I 0,S (str []),.pv (.v (.slice none 0 0))]),(5,[.pv (.v (.int .i64 6)),.pv (.v (.int .i64 0)),.pv (.v (.string (str s))),.pv (.v (.slice none 0 0))])],[],[]⟩ _ by apply z0e<;>simp[leL,lk,sv,Nat.beq,I,S,ES.kill,has,drp,zn,e0]);refine ES.Lw.trans ?_ (z5k (x:=5) (j:=3) (d:=3000) (e:=157) (W:=4) (.inr (by decide)) (by decide) rfl (by simp only[vcA,seval]) rfl);exact z18 rfl
 clear h;rintro⟨⟨φ,k,p,b,acc⟩,h,hφ,ha,hk3⟩
 dsimp only at h hφ ha hk3
 cases φ with
 |zero=>simp[mH]at h
 |succ φ=>
  rw[mH]at h;have w1:=wS k;have HW:=z7Y (sz:=sz) g hL [44] p b;have stop:∀(hc:¬((k:Int)<zt s∧b<0)),some (V.mk 6 0 s acc,z2i L sz [41] p b)=some (re,rp,rb):=fun hc=>by rw[if_neg hc]at h;exact h
  by_cases hk:(k:Int)<zt s
  ·by_cases hb:b<0
   ·rw[if_pos ⟨hk,hb⟩]at h;have hrows:∀e,V.rows (acc++[e])=V.rows acc++[V.row e]:=fun e=>by rw[z1e,z1e,List.map_append];rfl
    have hrl:=z1u acc;by_cases h0:0<k
    ·have d0:(0:Int)<(k:Int):=by omega
     rw[if_pos h0]at h;split at h
     ·rename_i e p2 b2 hE2;have HE:=hE φ (by omega) _ _ _ _ hE2;generalize z2i L sz [44] p b=wr at*;unfold PB at HE HW
      dsimp only at HE
      simp only[vW,seval];refine z7 HA ?_;simp only[vW,seval,hk,hb,d0,q44];refine z8 HW ?_;left;refine z7 HE ?_;simp only[vW,seval,w1,hrl];refine⟨⟨by omega,by unfold maxLen;omega⟩,zc ⟨(φ,k+1,p2,b2,acc++[e]),h,by dsimp only;omega,by simp[ha],by dsimp only;omega⟩ (by show φ<φ+1;omega) ?_⟩;apply z0e<;>simp[leL,lk,sv,Nat.beq,I,S,ES.kill,has,drp,zn,hrows,z2l,List.length_append,List.length_singleton]
     ·cases h
    ·have d0:¬(0:Int)<(k:Int):=by omega
     rw[if_neg h0]at h;split at h
     ·rename_i e p2 b2 hE2;have HE:=hE φ (by omega) _ _ _ _ hE2;unfold PB at HE
      dsimp only at HE
      simp only[vW,seval];refine z7 HA ?_;simp only[vW,seval,hk,hb,d0];left;refine z7 HE ?_;simp only[vW,seval,w1,hrl];refine⟨⟨by omega,by unfold maxLen;omega⟩,zc ⟨(φ,k+1,p2,b2,acc++[e]),h,by dsimp only;omega,by simp[ha],by dsimp only;omega⟩ (by show φ<φ+1;omega) ?_⟩;apply z0e<;>simp[leL,lk,sv,Nat.beq,I,S,ES.kill,has,drp,zn,hrows,z2l,List.length_append,List.length_singleton]
     ·cases h
   ·have h:=stop (fun h=>hb h.2);have HW:=z7Y (sz:=sz) g hL [41] p b;generalize z2i L sz [41] p b=wr at*;obtain⟨wp,wb⟩:=wr;cases h;unfold PB at HW
    dsimp only at HW
    simp only[vW,seval];refine z7 HA ?_;simp only[vW,seval,hk,hb,q41];refine z8 HW ?_;try trivial
  ·have h:=stop (fun h=>hk h.1);have HW:=z7Y (sz:=sz) g hL [41] p b;generalize z2i L sz [41] p b=wr at*;obtain⟨wp,wb⟩:=wr;cases h;unfold PB at HW
   dsimp only at HW
   simp only[vW,seval];refine z7 HA ?_;simp only[vW,seval,hk,q41];refine z8 HW ?_;try trivial
theorem zs0(hL:PcL L):∀F:Nat,(∀f,f≤F→EX g L sz f)∧(∀f,f≤F→TX g L sz f)
 |0=>⟨fun f hf=>(by obtain rfl:f=0:=(by omega);intro zu p b r h;simp[mE]at h),fun f hf=>(by obtain rfl:f=0:=(by omega);intro p b r h;simp[mT]at h)⟩
 |F+1=>by
  obtain⟨h1,h2⟩:=zs0 hL F;refine⟨fun f hf=> ?_,fun f hf=> ?_⟩
  ·rcases Nat.lt_or_ge f (F+1)with h|h
   ·exact h1 f (by omega)
   ·obtain rfl:f=F+1:=by omega
    exact zjH hL F (h2 F (Nat.le_refl _)) (fun f hf=>h1 f (by omega))
  ·rcases Nat.lt_or_ge f (F+1)with h|h
   ·exact h2 f (by omega)
   ·obtain rfl:f=F+1:=by omega
    exact zh4 hL F (h2 F (Nat.le_refl _)) (h1 F (Nat.le_refl _)) (zjG hL F (fun f hf=>h1 f (by omega)))
end
section
open Go.Sh Go.Sh.Cd1 Go.Sh.Cd5
def z5j(d:Nat)(e:V)(n:Nat):Int:=if okE d e=true∧szE d e≤n then((n-szE d e:Nat):Int)else -1
def z5P(d:Nat):List V→Nat→Int
 |[],n=>n
 |x::l,n=>if okE d x=true∧szE d x≤n then z5P d l (n-szE d x)else -1
theorem zg8(d:Nat):∀(l:List V) (n:Nat),z5P d l n=if(∀x∈l,okE d x=true)∧(l.map (szE d)).sum≤n then((n-(l.map (szE d)).sum:Nat):Int)else -1
 |[],n=>by simp[z5P]
 |x::l,n=>by
  have ih:=zg8 d l (n-szE d x);unfold z5P;by_cases h1:okE d x=true∧szE d x≤n
  ·rw[if_pos h1,ih];by_cases h2:(∀y∈l,okE d y=true)∧(l.map (szE d)).sum≤n-szE d x
   ·rw[if_pos h2,if_pos]
    ·rw[List.map_cons,List.sum_cons];congr 1;omega
    ·refine⟨fun y hy=> ?_,by rw[List.map_cons,List.sum_cons];omega⟩;rcases List.mem_cons.1 hy with rfl|hy
     ·exact h1.1
     ·exact h2.1 y hy
   ·rw[if_neg h2,if_neg];rintro⟨h3,h4⟩;rw[List.map_cons,List.sum_cons]at h4;exact h2 ⟨fun y hy=>h3 y (List.mem_cons_of_mem _ hy),by omega⟩
  ·rw[if_neg h1,if_neg];rintro⟨h3,h4⟩;rw[List.map_cons,List.sum_cons]at h4;exact h1 ⟨h3 x (List.mem_cons_self ..),by omega⟩
theorem zos(d:Nat)(e:V)(n:Nat):z5j (d+1) e (n+1)=if z0F e then z5P d e.l n else -1:=by
 unfold z5j;rw[zg8,okE,szE];cases hn:z0F e
 ·simp
 ·simp only[Bool.true_and,if_true,List.all_eq_true];by_cases h:(∀x∈e.l,okE d x=true)∧(e.l.map (szE d)).sum≤n
  ·rw[if_pos h,if_pos ⟨h.1,by omega⟩];congr 1;omega
  ·rw[if_neg h,if_neg];rintro⟨h1,h2⟩;exact h ⟨h1,by omega⟩
def z6w(c:Option Nat):Int:=match c with|some n=>(n:Int)|none=> -1
theorem zjN(g:Sh.Glob):∀(d:Nat),d≤8→∀(e:V),ESmall e→∀(n:Nat),n≤40→zC g 151 [tv e,I (d:Int),I (n:Int)] [] (I (z5j d e n)) []:=by
 intro d
 induction d with
 |zero=>
  intro _ e he n hn;refine za tf_151 ?_;rw[show z5j 0 e n= -1 by unfold z5j;simp[okE]];simp only[vW,seval]
 |succ d ih=>
  intro hd e he n hn;refine za tf_151 ?_;have d0:¬((d+1:Nat):Int)<1:=by omega
  have HN:=zjM g e he;have HD:=fun e he n hn=>ih (by omega) e he n hn;have hl:=he.len;have w2:IntKind.i64.wrap (((d+1:Nat):Int) - 1)=(d:Int):=wG;unfold B at*;cases n with
  |zero=>
   rw[show z5j (d+1) e 0= -1 by unfold z5j szE;rw[if_neg (by omega)]];simp only[vW,seval,d0]
  |succ n=>
  have d1:¬((n+1:Nat):Int)<1:=by omega
  have w1:IntKind.i64.wrap (((n+1:Nat):Int) - 1)=(n:Int):=wG;rw[zos];simp only[vW,seval,d0,d1];refine zK HN ?_;cases hN:z0F e
  ·simp only[vW,seval,d0,d1];try simp
  simp only[if_true];simp only[vW,seval,d0,d1,w1];generalize hR:z5P d e.l n=R;refine zk (σ:={x:Nat×Option Nat // x.1≤e.l.length∧(match x.2 with|some n=>n≤40∧z5P d (e.l.drop x.1) n=R|none=>R= -1)})
   (fun x=>⟨[(1,I ((d+1:Nat):Int)),(2,I (z6w x.1.2)),(3,.ptr 3 0),(7,I (x.1.1:Int))],[(3,[I e.k,I e.n,S (str e.s),.pv (.sl 4 (V.rows e.l))])],[],[]⟩)
   (fun x=>e.l.length-x.1.1) ⟨(0,some n),by omega,by omega,by simpa using hR⟩ ?_ ?_
  ·apply z0e<;>simp[leL,lk,sv,Nat.beq,I,S,ES.kill,has,drp,zn,z6w]
  rintro⟨⟨i,c⟩,hi,hq⟩;simp only at hi;have w3:=wS i;by_cases hlt:i<e.l.length
  ·have d2:(i:Int)<(e.l.length:Int):=by omega
   obtain⟨y,ey⟩:∃y,e.l[i]?=some y:=⟨_,gE hlt⟩
   have hdr:e.l.drop i=y::e.l.drop (i+1):=by rw[List.drop_eq_getElem_cons hlt];congr 1;exact(gJ ey).2
   cases c with
   |none=>
    have hq:R= -1:=hq;unfold z6w;simp only[vW,seval,d2];rw[hq]
   |some n1=>
    obtain⟨hn1,hq⟩:=hq;simp only at hq;rw[hdr]at hq;unfold z5P at hq;have d3:(0:Int)≤(n1:Int):=by omega
    have HY:=HD y (he.sub (gM ey)) n1 hn1;unfold z5j at HY;unfold z6w;by_cases hy:okE d y=true∧szE d y≤n1
    ·rw[if_pos hy]at hq HY;simp only[vW,seval,d2,d3,ey,w2];refine zK HY ?_;simp only[vW,seval,w3];refine zc ⟨(i+1,some (n1-szE d y)),by simp only;omega,by omega,hq⟩ (by show e.l.length-(i+1)<e.l.length-i;omega) ?_;apply z0e<;>simp[leL,lk,sv,Nat.beq,I,S,ES.kill,has,drp,zn,z6w]
    ·rw[if_neg hy]at hq HY;simp only[vW,seval,d2,d3,ey,w2];refine zK HY ?_;simp only[vW,seval,w3];refine zc ⟨(i+1,none),by simp only;omega,hq.symm⟩ (by show e.l.length-(i+1)<e.l.length-i;omega) ?_;apply z0e<;>simp[leL,lk,sv,Nat.beq,I,S,ES.kill,has,drp,zn,z6w]
  ·have d2:¬(i:Int)<(e.l.length:Int):=by omega
   obtain rfl:i=e.l.length:=by omega
   cases c with
   |none=>
    have hq:R= -1:=hq;unfold z6w;simp only[vW,seval,d2];rw[hq]
   |some n1=>
    obtain⟨hn1,hq⟩:=hq;simp only at hq;rw[List.drop_length]at hq;unfold z5P at hq;unfold z6w;simp only[vW,seval,d2];rw[hq]
theorem z96(g:Sh.Glob)(e:V)(he:ESmall e):zC g 110 [tv e] [] (B (z15 e)) []:=by
 have HR:=zjN g 8 (by omega) e he 40 (by omega);have hr:decide (0≤z5j 8 e 40)=z15 e:=by
  unfold z5j z15;rw[Bool.eq_iff_iff];by_cases h:okE 8 e=true∧szE 8 e≤40
  ·rw[if_pos h];simp[h.1,h.2]
  ·rw[if_neg h];simp only[Int.reduceNeg,decide_eq_true_eq,Bool.and_eq_true];exact⟨fun h1=>absurd h1 (by omega),fun h1=>absurd h1 h⟩
 unfold B;refine z0u tf_147 ?_;refine zK HR ?_;simp only[vW,seval,hr]
end
section
open Go.Shelf
attribute [local go_sem] Oper.semAt_some
theorem zj5(F:Fence)(n:Nat)(h6:F.fn 97)(hro:F.round=none)(hn:1≤n)(l Bn:Nat)(x:Int)(hx0: -9223372036854775808≤x)(hx1:x≤9223372036854775807)(Kp:World→World→Prop)(J Jx:zB→World→Prop)
  (hY:∀pre (g:UInt8) W,J pre W→pre.length<10→YieldAt F (n-1) Tryz.prog l #[.int .u8 g.toNat] W fun e W'=>
   (e=.returned (.bool true)∧J (pre++[g]) W'∧Kp W W')∨(e=.returned (.bool false)∧Jx (pre++[g]) W'))
  (W:World) (hBn:W.cell? ⟨Bn,0,none⟩=some (.int .i64 x)) (h0:J [] W):
  CallsIn F n Tryz.prog 97 #[.func (.yield l) #[] #[],.pointer (some ⟨Bn,0,none⟩)] W fun e W'=>(∃v,e=.returned v)∧
   ((∃ys,ys=z4D x∧J ys W')∨(∃pre,True∧Jx pre W')):=by
 refine callsIn_of_wp Tryz.func97 rfl h6 ?_ hro;simp only[Tryz.ntmps97,List.size_toArray,List.length_cons,List.length_nil,Nat.reduceAdd,Nat.reduceSub,Array.replicate_succ,Array.replicate_zero,List.push_toArray,List.append_toArray,List.nil_append,List.cons_append];obtain⟨fn,tmps,assign,body,hy,hR⟩:=hY [] (UInt8.ofNat (mag x%64*2+sgn x)) W h0 (by simp);by_cases hneg:x<0;all_goals
  first|rw[zl8 x hneg]at hy|rw[zl9 x hneg]at hy
  have HY:=Lib.hid hY;clear hY
  gi_wp2
  refine hR.mono ?_;clear hR hy;rintro e W1 (⟨rfl,hJ1,_⟩|⟨rfl,hx1⟩)
  ·gi_wp2
   gi_loopw [3] (fun p wr=>∃(pre:zB) (m f:Nat),p=.int .u64 m∧Hid (z4D x=pre++z1j f m)∧Hid (m<128 ^ f)∧m<9223372036854775808∧Hid (pre.length+f=10)∧J pre wr)
    (fun p _=>(intOf p).toNat)
   case atStart=>
    have hml:=zrI x hx0 hx1;have hme:=zlz x;refine⟨[UInt8.ofNat (mag x%64*2+sgn x)],mag x / 64,9,?_,rfl,?_,by omega,rfl,hJ1⟩
    ·congr 1;split at hme<;>omega
    ·show _<9223372036854775808;omega
   case round=>
    obtain⟨pre,m,f,rfl,hg,hlt,hm,hl,hJs⟩:=hrel;by_cases hm0:m=0
    ·subst hm0
     gi_wp2
     go_end0
     exact⟨⟨_,rfl⟩,.inl ⟨pre,by rw[hg.out,z8a];simp,hJs⟩⟩
    ·have hne:((m:Int)==0)=false:=by simpa using hm0
     have hne':((m:Int) !=0)=true:=by simpa using hm0
     cases f with
     |zero=>exact absurd hlt.out (by simp;omega)
     |succ f=>
     obtain⟨fn,tmps,assign,body,hy,hR⟩:=HY.out pre (UInt8.ofNat (m%128)) wr hJs (by have:=hl.out;omega);rw[zlF]at hy
     gi_wp2
     refine hR.mono ?_;clear hR hy;rintro e W3 (⟨rfl,hJ3,_⟩|⟨rfl,hJx3⟩)
     ·gi_wp2
      go_roundw
      case rel=>
       refine⟨pre++[UInt8.ofNat (m%128)],m / 128,f,by simp,?_,?_,by omega,?_,hJ3⟩
       ·show _=_;rw[hg.out];simp[z1j,hm0]
       ·show _<_;have:=hlt.out;rw[Nat.pow_succ]at this;exact Nat.div_lt_of_lt_mul (by rw[Nat.mul_comm];exact this)
       ·show _=_;have:=hl.out;simp;omega
      case measure=>simp[intOf];omega
     ·gi_wp2
      refine bodyPost_ret (results_none rfl _ _ _) rfl ?_;exact⟨⟨_,rfl⟩,.inr ⟨_,trivial,hJx3⟩⟩
  ·gi_wp2
   refine bodyPost_ret (results_none rfl _ _ _) rfl ?_;exact⟨⟨_,rfl⟩,.inr ⟨_,trivial,hx1⟩⟩
theorem zlh(F:Fence)(n:Nat)(h5:F.fn 71)(hro:F.round=none)(x:Int)(w:World):
  CallsIn F n Tryz.prog 71 #[.int .i64 x] w fun e w'=>e=.returned (.func (.func 97) #[] #[.pointer (some ⟨w.heap.size,0,none⟩)])∧w'=w.alloc (.cells #[.int .i64 x] 3):=by
 refine callsIn_of_wp Tryz.func71 rfl h5 ?_ hro;simp only[Tryz.ntmps71,List.size_toArray,List.length_cons,List.length_nil,Nat.reduceAdd,Nat.reduceSub,Array.replicate_succ,Array.replicate_zero,List.push_toArray,List.append_toArray,List.nil_append,List.cons_append]
 gi_wp2
 go_ret
 exact⟨rfl,rfl⟩
theorem zfk(F:Fence)(n:Nat)(Kp:World→World→Prop)(h6:F.fn 97)(hro:F.round=none)(hn:1≤n)(Bn:Nat)(x:Int)(hx0: -9223372036854775808≤x)(hx1:x≤9223372036854775807)(w:World)(hBn:Bn<w.heap.size)
  (hc:w.cell? ⟨Bn,0,none⟩=some (.int .i64 x)):
  SeqStopsK F n Tryz.prog 97 #[.pointer (some ⟨Bn,0,none⟩)] (fun g:UInt8=> #[Value.int .u8 g.toNat]) Kp (fun ys=>ys=z4D x) (fun _=>True) 10 w:=fun l J Jx W hW _ _ hY h0=>
 zj5 F n h6 hro hn l Bn x hx0 hx1 Kp J Jx hY W ((hW.cell (p:=⟨Bn,0,none⟩) hBn).trans hc) h0
attribute [local go_sem] Oper.semAt_some
def u8(b:UInt8):Value:=.int .u8 b.toNat
theorem zni{P:Program}{W:World}{base src dst e:Nat}{v:Value}{l:zB}(hs:P.underlying src=some (.slice e))(he:P.underlying e=some (.int .u8))(hd:P.underlying dst=some .string)
  (h:W.ownsRow base e 1 v l.length (l.map u8)):(convert src dst v).run P W=.ok (.string (str l)) W:=by
 have h':=h;rcases h.2 with⟨rfl,h0⟩|⟨g,cap,cur,rfl,_,_,_⟩
 ·obtain rfl:l=[]:=List.eq_nil_of_length_eq_zero h0;exact run_convert_bytes_nil W src e hs he 0 0 dst hd
 ·refine run_convert_bytes_back W src dst e ⟨g,0,none⟩ cap l hs he hd (fun j hj=> ?_);exact h'.cells (g:=g) rfl j _ (by simp[u8,gE hj])
theorem zry:(Tryz.prog.info? 5).map (fun i=>(i.zero,i.size,i.bytes))=some (some (.int .u8 0),1,1):=by kernel_rfl
theorem zrJ(w:World):(Instr.makeSlice 96 (.int .i64 0) (.int .i64 10)).run Tryz.prog w=.ok (.slice (some ⟨w.heap.size,0,none⟩) 0 10) (w.alloc (.cells (Array.replicate 10 (.int .u8 0)) 5)):=by kernel_rfl
theorem zqY(F:Fence)(n:Nat)(h3:F.fn 41)(h4:F.fn 71)(h5:F.fn 97)(hro:F.round=none)(hn:3≤n)(x:Int)(hx0: -9223372036854775808≤x)(hx1:x≤9223372036854775807)(w:World):
  CallsIn F n Tryz.prog 41 #[.int .i64 x] w fun e W'=>e=.returned (.string (str (num x)))∧Below w.heap.size w W':=by
 have h1:1≤n:=by omega
 obtain⟨i0,hi,hz0,hz1,hz2⟩:=info_parts zry;have hmk:=zrJ;refine callsIn_of_wp_marks Tryz.func41 rfl h3 ?_ hro;simp only[Tryz.ntmps41,List.size_toArray,List.length_cons,List.length_nil,Nat.reduceAdd,Nat.reduceSub,Array.replicate_succ,Array.replicate_zero,List.push_toArray,List.append_toArray,List.nil_append,List.cons_append]
 gi_wp2_with (gi_at_call 71;refine(zlh F (n-1) h4 hro _ _).mono ?_;rintro e w' ⟨rfl,rfl⟩)
 have bL0:=Boxed.new (w.alloc (.cells (Array.replicate 10 (.int .u8 0)) 5)) 96 (.slice (some ⟨w.heap.size,0,none⟩) 0 10);rw[World.size_alloc]at bL0;have bL:=bL0.alloc (.cells #[.int .i64 x] 3);have bN:=Boxed.new ((w.alloc (.cells (Array.replicate 10 (.int .u8 0)) 5)).alloc (.cells #[.slice (some ⟨w.heap.size,0,none⟩) 0 10] 96)) 3 (.int .i64 x);rw[World.size_alloc,World.size_alloc]at bN;have hB0:Below w.heap.size w (((w.alloc (.cells (Array.replicate 10 (.int .u8 0)) 5)).alloc (.cells #[.slice (some ⟨w.heap.size,0,none⟩) 0 10] 96)).alloc (.cells #[.int .i64 x] 3)):=
  (((Below.refl _ w).alloc (Nat.le_refl _) _).alloc (by simp) _).alloc (by simp;omega) _
 have hrow0:(((w.alloc (.cells (Array.replicate 10 (.int .u8 0)) 5)).alloc (.cells #[.slice (some ⟨w.heap.size,0,none⟩) 0 10] 96)).alloc (.cells #[.int .i64 x] 3)).ownsRow w.heap.size 5 1 (.slice (some ⟨w.heap.size,0,none⟩) 0 10) 0 []:=
  ((World.ownsRow_made w (Array.replicate 10 (.int .u8 0)) 10 (Nat.le_refl _) (by decide) (by simp)).alloc _).alloc _
 refine wpIn_rangeFunc_ownG hro h1 (gf:=97) (lb:= #[.pointer (some ⟨w.heap.size+1+1,0,none⟩)]) rfl h5 (enters_of Tryz.func97 (by kernel_rfl) rfl)
  (zfk F (n-1) (Below w.heap.size) h5 hro (by omega) (w.heap.size+1+1) x hx0 hx1 _ (by simp) bN.cell) belowK_t (belowK_b (by simp;omega)) (Below.refl _ _) (fun _=>rfl)
  (fun pre W=>(∃v,Boxed W (w.heap.size+1) 96 v∧W.ownsRow w.heap.size 5 1 v (z4M pre).length ((z4M pre).map u8)∧v≠ .slice none 0 0)∧Below w.heap.size w W)
  (fun _ _ _=>False)
  (OwnFrom.and (Own.from (holdsRow_own w.heap.size (w.heap.size+1) 96 5 1 (fun pre=>(z4M pre).length) (fun pre=>(z4M pre).map u8) (fun _ v=>v≠ .slice none 0 0)) _) (ownFrom_below (Nat.le_refl _) (by simp;omega)))
  (fun _ _ _ _ _ hs _ _=>hs)
  ⟨⟨_,bL,hrow0,by simp⟩,hB0⟩
  (fun g=>{ tmps:= #[.int .i64 x,undef,.string ⟨#[]⟩,.pointer (some ⟨w.heap.size+1,0,none⟩),.int .u8 g.toNat,undef,.slice (some ⟨w.heap.size,0,none⟩) 0 10,.int .i64 x,.func (.func 97) #[] #[.pointer (some ⟨w.heap.size+1+1,0,none⟩)],.int .u8 g.toNat,undef,undef,undef,undef,undef,undef,undef,undef,undef,undef,undef,undef,undef,undef,undef,undef,undef],defers:=[] }) ?assign ?body ?done ?stop
 case assign=>
  intro l x W K hK
  gi_wp2
  exact hK
 case body=>
  rintro l pre g W ⟨⟨v,hv,hrow,hnil⟩,hB⟩ hlt;have hc:=hv.cell;have hpl:(z4M pre).length=pre.length:=z5g pre;obtain⟨P0,hP0⟩:∃P0,z4M pre=P0:=⟨_,rfl⟩
  have HP:=Lib.hid hP0;rw[hP0]at hrow hpl;clear hP0;rcases hrow.2 with⟨rfl,_⟩|⟨gg,cap,cur,rfl,_,_,hcap,hcap2,_⟩
  ·exact absurd rfl hnil
  have hk:P0.length≤10:=by omega
  clear hpl hmk hx0 hx1 hlt;by_cases hl:P0=[]
  ·subst hl;simp only[List.length_nil,List.map_nil]at hrow
   gi_wp2_with (gi_at_builtin;refine wpListIn_append_own _ rfl _ _ 96 rfl w.heap.size 5 i0 (.int .u8 0) 1 1 Tryz.underlying96 hi hz0 hz1 hz2 rfl (by decide) _ _ _ rfl (hrow.alloc _) ⟨W.heap.size,0,none⟩ 1 1 [.int .u8 g.toNat] rfl rfl (cell_one_new _ _ _) (by simp[Value.oneCell']) (by decide) (by omega) (by have:=hB.size;simp;omega) ?_;intro v' w1 hown' hgrow _;obtain⟨g',cap',rfl⟩:=ownsRow_succ hown';obtain⟨hv1,hv2,hr2,hk2,hb2⟩:=hv.appended (by decide) hrow hB.size (by omega) hown' hgrow;have hc1:=hv1.cell;have hf1:=hv1.frozen)
   exact⟨hk2.from _,hb2,⟨_,hv2,by rw[z8W,HP.out,zn2];exact hr2,by simp⟩,hB.trans hb2⟩
  ·obtain⟨Q,b,rfl⟩:=zqG P0 hl;have hcell:=hrow.cellAt Q.length (by simp);have hfz:=hrow.frozenAt Q.length;have hst:=hrow.stored Q.length (.int .u8 (((b.toNat:Int)+128)%256));have hle:w.heap.size≤gg:=by rcases hrow.2 with⟨h,_⟩|⟨g2,c2,cur2,h,hb2,_⟩;cases h;cases h;exact hb2
   have hne:=hv.not_row (by decide) hrow;simp only[List.length_append,List.length_cons,List.length_nil,Nat.zero_add,List.map_append,List.map_cons,List.map_nil]at hrow hcell hst hcap hk hv hc hne ⊢;rw[List.set_append_right _ _ (by simp)]at hst;simp only[List.length_map,Nat.sub_self,List.set_cons_zero]at hst;simp[u8]at hcell;obtain⟨hst1,hst2⟩:=hst;have hst3:=Lib.hid hst1;have hv':=hv.kept hst2 (by simpa [Value.ownBlock]using hne);have hcW:=hv'.cell;have hKO:KeepsOthers W (W.setCell ⟨gg,Q.length,none⟩ (.int .u8 (((b.toNat:Int)+128)%256))):=KeepsOthers.setCell _ _ _;have hBW:=(Below.refl w.heap.size W).setCell (p:=⟨gg,Q.length,none⟩) hle (.int .u8 (((b.toNat:Int)+128)%256));clear hst1 hst2 hrow hne hcap hcap2
   gi_wp2_with (gi_at_builtin;go_must (refine wpListIn_append_own _ rfl _ _ 96 rfl w.heap.size 5 i0 (.int .u8 0) 1 1 Tryz.underlying96 hi hz0 hz1 hz2 rfl (by decide) _ _ _ rfl (hst3.out.alloc _) ⟨W.heap.size,0,none⟩ 1 1 [.int .u8 g.toNat] rfl rfl (by have:=cell_one_new (W.setCell ⟨gg,Q.length,none⟩ (.int .u8 (((b.toNat:Int)+128)%256))) (.int .u8 g.toNat) 5;rwa [World.size_setCell]at this) (by simp[Value.oneCell']) (by unfold maxLen;omega) (by omega) (by have:=hB.size;simp;omega) ?_;intro v' w1 hown' hgrow _;obtain⟨g',cap',rfl⟩:=ownsRow_succ hown';obtain⟨hv1,hv2,hr2,hk2,hb2⟩:=hv'.appended (by decide) hst3.out (by have:=hB.size;simp;omega) (by omega) hown' hgrow;have hc1:=hv1.cell;have hf1:=hv1.frozen))
   exact⟨(hKO.trans hk2).from _,hBW.trans hb2,⟨_,hv2,by rw[z8W,HP.out,zdd];simpa [u8,zr2]using hr2,by simp⟩,hB.trans (hBW.trans hb2)⟩
 case done=>
  rintro D ys W hD rfl ⟨⟨v,hv,hrow,hnil⟩,hB⟩ hK;have hc:=hv.cell;have hcv:=zni (P:=Tryz.prog) Tryz.underlying96 Tryz.underlying5 Tryz.underlying9 hrow
  gi_wp2
  refine⟨by simp,.inl ⟨_,_,rfl,run_takeDeferred hK,?_⟩⟩;exact⟨_,results_tmp rfl _ _ _,rfl,hB.trans (belowK_b (w:=w) (Nat.le_refl _) W D _ _ (by simp at hD;omega) hK rfl rfl)⟩
 case stop=>
  rintro D c pre W _ _ h _;exact h.elim
theorem zhj(x:Int)(hx0: -9223372036854775808≤x)(hx1:x≤9223372036854775807)(w:World):
  Calls Tryz.prog 41 #[.int .i64 x] w fun e W'=>e=.returned (.string (str (num x)))∧Below w.heap.size w W':=
 (callsIn_wide (n:=3)).1 (zqY Fence.wide 3 trivial trivial trivial rfl (by omega) x hx0 hx1 w)
end
section
open Go.Stop Go.Extern
structure GlobW(w:World)(a0 a1:Addr):Prop extends GlobU w where
 e0:w.cell? ⟨1,0,none⟩=some (.iface 334 (.pointer (some a0)))
 e1:w.cell? ⟨0,0,none⟩=some (.iface 334 (.pointer (some a1)))
 ne:a0≠a1
 b0:∃ca ta,w.heap[a0.block]?=some (.cells ca ta (0,0))
 b1:∃ca ta,w.heap[a1.block]?=some (.cells ca ta (0,0))
theorem z4o{w:World}{b:Nat}{o:Obj}(h:w.heap[b]?=some o):b<w.heap.size:=(gA h).1
theorem GlobW.ext{w w':World}{a0 a1:Addr}(h:GlobW w a0 a1)(hb:Below w.heap.size w w'):GlobW w' a0 a1 where
 toGlobU:=h.toGlobU.ext hb
 e0:=(hb.cell (z1d h.e0)).trans h.e0
 e1:=(hb.cell (z1d h.e1)).trans h.e1
 ne:=h.ne
 b0:=by obtain⟨ca,ta,h0⟩:=h.b0;exact⟨ca,ta,(hb.block _ (z4o h0)).trans h0⟩
 b1:=by obtain⟨ca,ta,h0⟩:=h.b1;exact⟨ca,ta,(hb.block _ (z4o h0)).trans h0⟩
theorem zfr(v:Value)(w:World):(callFunc 162 #[.iface 334 v]).run Tryz.prog w=.ok (.value (.iface 277 (.agg #[.pointer (some ⟨10,334,none⟩)]))) w:=by kernel_rfl
theorem z8I(w:World):(callFunc 291 #[.agg #[.pointer (some ⟨10,334,none⟩)]]).run Tryz.prog w=.ok (.value (.bool true)) w:=by kernel_rfl
theorem zln:(Tryz.prog.info? 334).map (·.comparable)=some true:=by kernel_rfl
theorem zlp:(Tryz.prog.info? 336).map (·.size)=some 1:=by kernel_rfl
theorem zsZ(v:Value)(xT:TypeId)(w:World):(Instr.typeAssert (.iface 334 v) xT 279 true).run Tryz.prog w=.ok (.tuple #[.nilIface,.bool false]) w:=run_typeAssert_lacksB Tryz.underlying279 (by kernel_rfl) (by kernel_rfl) v xT w
theorem zlO(v:Value)(xT:TypeId)(w:World):(Instr.typeAssert (.iface 334 v) xT 281 true).run Tryz.prog w=.ok (.tuple #[.nilIface,.bool false]) w:=run_typeAssert_lacksB Tryz.underlying281 (by kernel_rfl) (by kernel_rfl) v xT w
theorem zjl(v:Value)(xT:TypeId)(w:World):(Instr.typeAssert (.iface 334 v) xT 283 true).run Tryz.prog w=.ok (.tuple #[.nilIface,.bool false]) w:=run_typeAssert_lacksB Tryz.underlying283 (by kernel_rfl) (by kernel_rfl) v xT w
theorem zhK(a:Addr)(w:World):
  Calls Tryz.prog 135 #[.iface 334 (.pointer (some a)),.iface 334 (.pointer (some a))] w fun e w'=>e=.returned (.bool true)∧w=w':=by
 obtain⟨i,hi,hcmp⟩:=gO zln;obtain⟨j,hj,hjs⟩:=gO zlp;have tT:=zfr;have cT:=z8I;have heq:=run_eql_iface_ptr_same (P:=Tryz.prog) w a Tryz.underlying178 Tryz.underlying334 hi hcmp hj
 go_enter Tryz.func135,Tryz.ntmps135
 go_wp2
 refine wp_loop_rounds 1 ?_;rw[rounds_succ]
 go_wp2
 go_ret
 exact⟨rfl,rfl⟩
theorem zls(b:Addr)(w:World):
  Calls Tryz.prog 135 #[.nilIface,.iface 334 (.pointer (some b))] w fun e w'=>e=.returned (.bool false)∧w=w':=by
 have hn:=run_eql_iface_nil_left (P:=Tryz.prog) w 334 (.pointer (some b)) Tryz.underlying178
 go_enter Tryz.func135,Tryz.ntmps135
 go_wp2
 go_ret
 exact⟨rfl,rfl⟩
theorem znQ(a b:Addr)(ca cb:Array Value)(ta tb:TypeId)(w:World)(hne:a≠b)(ha:w.heap[a.block]?=some (.cells ca ta (0,0)))(hb:w.heap[b.block]?=some (.cells cb tb (0,0))):
  Calls Tryz.prog 135 #[.iface 334 (.pointer (some a)),.iface 334 (.pointer (some b))] w fun e w'=>e=.returned (.bool false)∧w=w':=by
 obtain⟨i,hi,hcmp⟩:=gO zln;obtain⟨j,hj,hjs⟩:=gO zlp;have tT:=zfr;have cT:=z8I;have nE:=zsZ;have uE:=zlO;have vE:=zjl;have heq:=run_eql_iface_ptr_other (P:=Tryz.prog) w Tryz.underlying178 Tryz.underlying334 hi hcmp hj (by rw[hjs];decide) hne ha hb
 go_enter Tryz.func135,Tryz.ntmps135
 go_wp2
 refine wp_loop_rounds 1 ?_;rw[rounds_succ]
 go_wp2
 go_ret
 exact⟨rfl,rfl⟩
theorem zdZ(w:World)(a0 a1:Addr)(hG:GlobW w a0 a1):
  Calls Tryz.prog 99 #[.nilIface] w fun e w'=>e=.returned (.bool false)∧w=w':=by
 have e0:=hG.e0;have e1:=hG.e1;clear hG
 go_enter Tryz.func99,Tryz.ntmps99
 go_wp2_with fail
 refine(zls _ _).mono ?_;rintro e w' ⟨rfl,rfl⟩
 go_wp2_with fail
 refine(zls _ _).mono ?_;rintro e w' ⟨rfl,rfl⟩
 go_wp2_with fail
 go_ret
 exact⟨rfl,rfl⟩
theorem zdY(w:World)(a0 a1:Addr)(hG:GlobW w a0 a1):
  Calls Tryz.prog 99 #[.iface 334 (.pointer (some a0))] w fun e w'=>e=.returned (.bool true)∧w=w':=by
 have e0:=hG.e0;have e1:=hG.e1;clear hG
 go_enter Tryz.func99,Tryz.ntmps99
 go_wp2_with fail
 refine(zhK _ _).mono ?_;rintro e w' ⟨rfl,rfl⟩
 go_wp2_with fail
 go_ret
 exact⟨rfl,rfl⟩
theorem zct(w:World)(a0 a1:Addr)(hG:GlobW w a0 a1):
  Calls Tryz.prog 99 #[.iface 334 (.pointer (some a1))] w fun e w'=>e=.returned (.bool true)∧w=w':=by
 have e0:=hG.e0;have e1:=hG.e1;obtain⟨c0,t0,h0⟩:=hG.b0;obtain⟨c1,t1,h1⟩:=hG.b1;have H:=Lib.hid (znQ a1 a0 c1 c0 t1 t0 w hG.ne.symm h1 h0);clear hG h0 h1
 go_enter Tryz.func99,Tryz.ntmps99
 go_wp2_with fail
 refine H.out.mono ?_;rintro e w' ⟨rfl,rfl⟩
 go_wp2_with fail
 refine(zhK _ _).mono ?_;rintro e w' ⟨rfl,rfl⟩
 go_wp2_with fail
 go_ret
 exact⟨rfl,rfl⟩
end
section
open Go.Shelf
attribute [local go_sem] Oper.semAt_some
theorem zsN{a b:Bool}(h:a=b):Ending.returned (.bool a)=.returned (.bool b):=by rw[h]
def z5b(Ba Bt:Nat)(W W':World):Prop:=W'.heap[Ba]?=W.heap[Ba]?∧W'.heap[Bt]?=W.heap[Bt]?
theorem znE(n:Nat)(l Ba Bt:Nat)(s:zB)(a:Nat)(ha:a≤s.length)(hs:s.length<1125899906842624)(J Jx:List (Mor.Ix×UInt8)→World→Prop)
    (hY:∀pre (g:Mor.Ix×UInt8) W,J pre W→pre.length<s.length→YieldAt Fence.wide (n-1) Tryz.prog l #[.int .i64 g.1.val,.int .u8 g.2.toNat] W fun e W'=>
      (e=.returned (.bool true)∧J (pre++[g]) W'∧z5b Ba Bt W W')∨(e=.returned (.bool false)∧Jx (pre++[g]) W'))
    (W:World) (hBa:W.cell? ⟨Ba,0,none⟩=some (.int .i64 a)) (hBt:W.cell? ⟨Bt,0,none⟩=some (.string (str s))) (hJd:∀pre W,J pre W→J pre W.drew) (h0:J [] W):
    CallsIn Fence.wide n Tryz.prog 164 #[.func (.yield l) #[] #[],.pointer (some ⟨Ba,0,none⟩),.pointer (some ⟨Bt,0,none⟩)] W fun e W'=>(∃v,e=.returned v)∧
      ((∃ys,ys=z2D s a∧J ys W')∨(∃pre,pre<+:z2D s a∧Jx pre W')):=by
  refine callsIn_of_wp Tryz.func164 rfl trivial ?_ rfl
  simp only[Tryz.ntmps164,List.size_toArray,List.length_cons,List.length_nil,Nat.reduceAdd,Nat.reduceSub,Array.replicate_succ,Array.replicate_zero,List.push_toArray,List.append_toArray,List.nil_append,List.cons_append]
  have HY:=Lib.hid hY
  have HJ:=Lib.hid hJd
  clear hY hJd
  gi_wp2
  gi_loopw [4] (fun p wr => ∃ (k : Nat), p = .int .i64 ((a : Int) + k) ∧ a + k ≤ s.length ∧ J ((z2D s a).take k) wr ∧ wr.cell? ⟨Ba, 0, none⟩ = some (.int .i64 a) ∧ wr.cell? ⟨Bt, 0, none⟩ = some (.string (str s)))
        (fun p _=>s.length-(intOf p).toNat)
  case atStart=>exact⟨0,by simp,by omega,by simpa using h0,hBa,hBt⟩
  case round=>
    obtain⟨k,rfl,hk,hJs,hBa,hBt⟩:=hrel
    by_cases hlt2:a+k<s.length
    · obtain⟨fn,tmps,assign,body,hy,hR⟩:=HY.out ((z2D s a).take k) (Fin.ofNat _ k,s[a+k]) wr.drew (HJ.out _ _ hJs) (by rw[List.length_take,z4N];omega)
      have hfin:((Fin.ofNat 1125899906842624 k).val:Int)=k:=by simp[Fin.ofNat];omega
      rw[hfin]at hy
      clear hfin
      have hR':RoundIn Fence.wide (n-1) Tryz.prog l fn tmps assign body wr.drew fun e W'=>∃t,e=.returned (.bool t)∧Hid ((t=true→J ((z2D s a).take k++[(Fin.ofNat _ k,s[a+k])]) W'∧z5b Ba Bt wr.drew W')∧(t=false→Jx ((z2D s a).take k++[(Fin.ofNat _ k,s[a+k])]) W')):=by
        refine hR.mono ?_
        rintro e W' (⟨rfl,h1,h2⟩|⟨rfl,h1⟩)
        · exact⟨true,rfl,fun _=>⟨h1,h2⟩,fun h=>by cases h⟩
        · exact⟨false,rfl,fun h=>(by cases h),fun _=>h1⟩
      have HR:=Lib.hid hR'
      clear hR hR'
      have ze:Tryz.prog.follows .mixedOrders=true:=by kernel_rfl
      gi_wp2_with fail
      have hw1:IntKind.i64.wrap ((a:Int)+k-a)=k:=by rw[IntWalk.i64_in _ (by omega)];omega
      have hw2:(0:Int)≤(a:Int)+k:=by omega
      have hw3:(a:Int)+k<s.length:=by omega
      have hw4:((a:Int)+k).toNat=a+k:=by omega
      refine z2z zlT 7 ze (by kernel_rfl) ?_
      simp only[List.take_succ_cons,List.take_zero,List.drop_succ_cons,List.drop_zero]
      repeat still_step
      refine wpStill_nil ?_
      clear hw1
      gi_wp2
      refine⟨fun h=>(by cases h),HR.out.mono ?_⟩
      rintro e W3 ⟨t,rfl,ht⟩
      cases t
      · gi_wp2
        refine bodyPost_ret (results_none rfl _ _ _) rfl ?_
        refine⟨⟨_,rfl⟩,.inr ⟨_,?_,ht.2 (by simp)⟩⟩
        rw[←zbW s a k hlt2]
        exact List.take_prefix _ _
      · obtain⟨hJ3,hB3⟩:=ht.1 (by simp)
        have hBa3:=(World.cell?_of_block (w:=wr) (a:=⟨Ba,0,none⟩) hB3.1).trans hBa
        have hBt3:=(World.cell?_of_block (w:=wr) (a:=⟨Bt,0,none⟩) hB3.2).trans hBt
        gi_wp2
        go_roundw
        case rel=>exact⟨k+1,by go_num,by omega,by rw[zbW s a k hlt2];exact hJ3,hBa3,hBt3⟩
        case measure=>simp[intOf];omega
    · gi_wp2
      go_end0
      exact⟨⟨_,rfl⟩,.inl ⟨_,(List.take_of_length_le (by rw[z4N];omega)),hJs⟩⟩
theorem zpX(n:Nat)(s:zB)(a:Int)(w:World):
  CallsIn Fence.wide n Tryz.prog 136 #[.string (str s),.int .i64 a] w fun e w'=>e=.returned (.func (.func 164) #[] #[.pointer (some ⟨w.heap.size+1,0,none⟩),.pointer (some ⟨w.heap.size,0,none⟩)])∧w'=(w.alloc (.cells #[.string (str s)] 174)).alloc (.cells #[.int .i64 a] 3):=by
 refine callsIn_of_wp Tryz.func136 rfl trivial ?_ rfl;simp only[Tryz.ntmps136,List.size_toArray,List.length_cons,List.length_nil,Nat.reduceAdd,Nat.reduceSub,Array.replicate_succ,Array.replicate_zero,List.push_toArray,List.append_toArray,List.nil_append,List.cons_append]
 gi_wp2
 go_ret
 exact⟨rfl,rfl⟩
theorem z9E(s:zB)(a m:Int)(w:World)(hs:s.length≤9223372036854775807)(ha: -9223372036854775808≤a)(ha1:a≤9223372036854775807):
  Calls Tryz.prog 134 #[.string (str s),.int .i64 a,.int .i64 m] w fun e w'=>e=.returned (.bool (decide (0≤a∧a≤s.length∧m≤s.length-a)))∧w'=w:=by
 go_enter Tryz.func134,Tryz.ntmps134
 go_wp2
 all_goals go_ret
 all_goals exact⟨zsN (by rw[Bool.eq_iff_iff];simp_all []<;>omega),rfl⟩
end
end Go.Proofs.YtpmlapgbmgbilaaGreatDoor
end
