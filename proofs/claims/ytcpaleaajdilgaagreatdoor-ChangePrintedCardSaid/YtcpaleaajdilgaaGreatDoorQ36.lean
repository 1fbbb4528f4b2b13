/- Merged texts: Zo7 Zo8 Zo9 Zu1 Ze28 Zu2. No statement of the program is proved here. -/
import Derived.Test.YtcpaleaajdilgaaGreatDoorQ34
import Derived.Test.YtcpaleaajdilgaaGreatDoorQ35
set_option linter.unusedSimpArgs false
set_option linter.unusedVariables false
set_option maxRecDepth 100000
set_option maxHeartbeats 8000000
section
namespace Go.Proofs.YtcpaleaajdilgaaGreatDoor
open Go Go.RowKit Go.Mor Go.Sh Go.Sh.Cd1
section
open Go.Sh.Cd7
theorem zjI(g:Sh.Glob)(s:zB)(i:Nat)(hs:s.length≤1000)(hb:s[i]?=some 34):z6K g s i (z0b (s.drop i) i):=by
 have hlt:i<s.length:=(gJ hb).1;have hdr:s.drop i=34::s.drop (i+1):=by rw[List.drop_eq_getElem_cons hlt];congr 1;rw[gE hlt]at hb;exact Option.some.inj hb
 have hD:=z2z g 34;have hT:=zfP g s i hlt hs;have e0:=bS [];have hR:z0b (s.drop i) i=match quoG (s.drop (i+1)) [] 1 with|some (t,k)=>some (⟨2,0,t,i⟩,k)|none=>none:=by rw[hdr,z0b];rfl
 rw[hR];generalize quoG (s.drop (i+1)) [] 1=R at*;rw[show z1v 34=false by decide]at hD;unfold B at hD;cases R with
 |none=>
  refine⟨2,0,[],?_⟩;unfold z6n at hT
  dsimp only at hT
  refine za tf_135 ?_;simp only[vW,seval,hb,e0];refine z7 hD ?_;simp only[vW,seval,hb];exact zd hT
 |some x=>
  obtain⟨t,k⟩:=x;change SCalls _ _ _ _ _ (.tuple [.agg [I 2,I 0,S (str t),I (i:Int)],I ((i+k:Nat):Int)]) _;unfold z6n at hT
  dsimp only at hT
  refine za tf_135 ?_;simp only[vW,seval,hb,e0];refine z7 hD ?_;simp only[vW,seval,hb];exact zd hT
theorem zjG(g:Sh.Glob)(s:zB)(i:Nat)(hs:s.length≤1000){b:UInt8}(hb:s[i]?=some b)(hd:z1v b=false)(hn:zI b=true):z6K g s i (z0b (s.drop i) i):=by
 have hlt:i<s.length:=(gJ hb).1;have hdr:s.drop i=b::s.drop (i+1):=by rw[List.drop_eq_getElem_cons hlt];congr 1;rw[gE hlt]at hb;exact Option.some.inj hb
 have hD:=z2z g b;have hW:=z6E g b;have e0:=bS [];rw[hd]at hD;rw[hn]at hW;unfold B at hD hW;have h34:¬b=34:=by rintro rfl;revert hn;decide
 have t34:¬(b.toNat:Int)=34:=za7 b 34 h34;obtain⟨nz,hnz⟩:∃nz,z0G (s.drop i)=nz:=⟨_,rfl⟩
 have hz1:1≤nz:=by rw[←hnz,hdr,z0G,if_pos hn];omega
 have hzl:i+nz≤s.length:=by have:=z7p (s.drop i);rw[hnz,List.length_drop]at this;omega
 have hsm:small b=false→zb ((s.drop i).take nz)=false:=fun h=>by
  rw[hdr];cases nz with
  |zero=>omega
  |succ k=>
   rw[List.take_succ_cons];unfold zb;rw[show(b::(s.drop (i+1)).take k).headD 0=b from rfl,h,Bool.and_false,Bool.false_and]
 have hR:z0b (s.drop i) i=if zb ((s.drop i).take nz)then some (⟨3,0,(s.drop i).take nz,i⟩,nz)else none:=by
  cases h:small b
  ·rw[hsm h];have h95:b=95:=by
    unfold zI at hn;unfold z1v at hd;rw[h]at hn;simp at hn hd;apply UInt8.toNat_inj.1;show b.toNat=95;omega
   rw[hdr,h95];rfl
  ·rw[←hnz,hdr];rw[z0b];simp only[hd,h,if_true,Bool.false_eq_true,if_false]
 rw[hR];have HN:=z2M g ((s.drop i).take nz) (by rw[List.length_take,List.length_drop];omega);unfold B at HN;have htk:List.take (i+nz-i) (List.drop i s)=(s.drop i).take nz:=by rw[Nat.add_sub_cancel_left]
 have main:∀Q,(zb ((s.drop i).take nz)=true→Q=.tuple [.agg [I 3,I 0,S (str ((s.drop i).take nz)),I (i:Int)],I ((i+nz:Nat):Int)])→(zb ((s.drop i).take nz)=false→Q=.tuple [.agg [I 3,I 0,S (str ((s.drop i).take nz)),I (i:Int)],I 0])→
   zC g 227 [S (str s),I (i:Int)] [] Q []:=fun Q q1 q2=>by
  refine za tf_135 ?_;simp only[vW,seval,hb,e0];refine z7 hD ?_;simp only[vW,seval,hb,t34];refine z8 hW ?_;refine zw (σ:={t:Nat // i≤t∧t≤s.length∧z0G (s.drop t)+(t-i)=nz}) (fun t=>⟨[(0,S (str s)),(1,I (i:Int)),(4,.ptr 4 0),(6,.ptr 6 0),(7,I (t.1:Int))],[(4,[I 0,I 0,S (str []),I 0]),(6,[I 0,I 0,S (str []),I (i:Int)])],[],[]⟩) (fun t=>s.length-t.1) ⟨i,Nat.le_refl _,by omega,by omega⟩ ?_ ?_
  ·apply z06<;>simp[leL,lk,sv,Nat.beq,I,S,ES.kill,has,drp,zK,e0]
  rintro⟨t,h1,h2,h3⟩;by_cases hlt2:t<s.length
  ·have d1:(t:Int)<(s.length:Int):=by omega
   obtain⟨c,ec⟩:∃c,s[t]?=some c:=⟨_,gE hlt2⟩
   have hdr2:s.drop t=c::s.drop (t+1):=by rw[List.drop_eq_getElem_cons hlt2];congr 1;rw[gE hlt2]at ec;exact Option.some.inj ec
   have w1:=wS t;have hC:=z6E g c;unfold B at hC;rw[hdr2,z0G]at h3;cases hc:zI c
   ·rw[hc]at hC h3;simp only[Bool.false_eq_true,if_false]at h3;simp only[vW,seval,d1,ec];refine z7 hC ?_;obtain rfl:t=i+nz:=by omega
    simp only[vW,seval,htk];refine⟨⟨by omega,by omega⟩,?_⟩;refine z7 HN ?_;cases hr:zb ((s.drop i).take nz)
    ·simp only[vW,seval];rw[q2 hr];rfl
    ·simp only[vW,seval];rw[q1 hr];rfl
   ·rw[hc]at hC h3;simp only[if_true]at h3;simp only[vW,seval,d1,ec];refine z7 hC ?_;simp only[vW,seval,w1];refine zc ⟨t+1,by omega,hlt2,by omega⟩ (by show s.length-(t+1)<s.length-t;omega) ?_;exact lwA
  ·have d1:¬(t:Int)<(s.length:Int):=by omega
   rw[List.drop_eq_nil_of_le (by omega),z0G]at h3;obtain rfl:t=i+nz:=by omega
   simp only[vW,seval,d1,htk];refine⟨⟨by omega,by omega⟩,?_⟩;refine z7 HN ?_;cases hr:zb ((s.drop i).take nz)
   ·simp only[vW,seval];rw[q2 hr];rfl
   ·simp only[vW,seval];rw[q1 hr];rfl
 cases hr:zb ((s.drop i).take nz)
 ·exact⟨3,0,(s.drop i).take nz,main _ (fun h=>by rw[hr]at h;cases h) (fun _=>rfl)⟩
 ·exact main _ (fun _=>rfl) (fun h=>by rw[hr]at h;cases h)
def z8W(b c:UInt8):Bool:=([b,c]==[60,62]||[b,c]==[60,61])||[b,c]==[62,61]
def z3c(b:UInt8):Bool:=((decide (0<zu [b])||[b]==[40])||[b]==[41])||[b]==[44]
theorem zq8(b:UInt8):∀c,z8W b c=true→(b=60∧(c=62∨c=61))∨(b=62∧c=61):=by
 intro c h;unfold z8W at h;simp at h;rcases h with(h|h)|h
 ·exact .inl ⟨h.1,.inl h.2⟩
 ·exact .inl ⟨h.1,.inr h.2⟩
 ·exact .inr h
theorem zmp{b c:UInt8}(r:zB)(h:z8W b c=true):z0Z (b::c::r)=[b,c]:=by
 rcases zq8 b c h with⟨rfl,rfl|rfl⟩|⟨rfl,rfl⟩<;>rfl
theorem zmo{b:UInt8}(r:zB)(h:∀c,r.head?=some c→z8W b c=false):z0Z (b::r)=if z3c b then [b] else []:=by
 have h62:b=60→r.head?≠some 62:=fun e h'=>by have:=h 62 h';rw[e]at this;revert this;decide
 have h61:b=60→r.head?≠some 61:=fun e h'=>by have:=h 61 h';rw[e]at this;revert this;decide
 have h63:b=62→r.head?≠some 61:=fun e h'=>by have:=h 61 h';rw[e]at this;revert this;decide
 rw[z0Z];by_cases e60:b=60
 ·rw[if_pos e60,if_neg (h62 e60),if_neg (h61 e60),e60];rfl
 rw[if_neg e60];by_cases e62:b=62
 ·rw[if_pos e62,if_neg (h63 e62),e62];rfl
 rw[if_neg e62];have:z3c b=decide (b=61∨b=38∨b=43∨b=45∨b=42∨b=47∨b=37∨b=40∨b=41∨b=44):=by
  rw[Bool.eq_iff_iff];unfold z3c zu;simp only[List.cons.injEq,and_true,Bool.or_eq_true,decide_eq_true_eq,beq_iff_eq];constructor
  ·rintro(((h|h)|h)|h)
   ·repeat' (split at h)
    all_goals first|omega|(rename_i h1;rcases h1 with h1|h1|h1|h1|h1|h1<;>simp_all;done)|(rename_i h1;rcases h1 with h1|h1|h1<;>simp_all;done)|(rename_i h1;rcases h1 with h1|h1<;>simp_all;done)|(simp_all;done)
   ·simp[h]
   ·simp[h]
   ·simp[h]
  ·rintro(h|h|h|h|h|h|h|h|h|h)<;>simp[h]
 rw[this];by_cases hc:b=61∨b=38∨b=43∨b=45∨b=42∨b=47∨b=37∨b=40∨b=41∨b=44
 ·rw[if_pos hc,decide_eq_true hc,if_pos rfl]
 ·rw[if_neg hc,decide_eq_false hc];rfl
theorem zjH(g:Sh.Glob)(s:zB)(i:Nat)(hs:s.length≤1000){b:UInt8}(hb:s[i]?=some b)(hn:zI b=false)(h34:b≠34):z6K g s i (z0b (s.drop i) i):=by
 have hlt:i<s.length:=(gJ hb).1;have hdr:s.drop i=b::s.drop (i+1):=by rw[List.drop_eq_getElem_cons hlt];congr 1;rw[gE hlt]at hb;exact Option.some.inj hb
 have hD:=z2z g b;have hW:=z6E g b;have HB:=z6D g [b];have e0:=bS [];have hsm:small b=false∧z1v b=false:=by
  unfold zI at hn;unfold z1v;simp at hn ⊢;exact⟨hn.1.1,hn.1.2⟩
 rw[hsm.2]at hD;rw[hn]at hW;unfold B at hD hW;have t34:¬(b.toNat:Int)=34:=za7 b 34 h34;have hR:z0b (s.drop i) i=if z0Z (s.drop i)=[] then none else some (⟨4,0,z0Z (s.drop i),i⟩,(z0Z (s.drop i)).length):=by
  rw[hdr,z0b];simp only[hsm.1,hsm.2,Bool.false_eq_true,if_false,h34]
 rw[hR];have q1:=bS [60,62];have q2:=bS [60,61];have q3:=bS [62,61];have q4:=bS [40];have q5:=bS [41];have q6:=bS [44];have w1:=wS i;have w2:IntKind.i64.wrap ((i:Int)+2)=((i+2:Nat):Int):=wG;have k1:List.take (i+1-i) (List.drop i s)=[b]:=by rw[hdr,Nat.add_sub_cancel_left];rfl
 have k1':List.take 1 (List.drop i s)=[b]:=by rw[hdr];rfl
 have last:∀(h:∀c,s[i+1]?=some c→z8W b c=false),z6K g s i (if z0Z (s.drop i)=[] then none else some (⟨4,0,z0Z (s.drop i),i⟩,(z0Z (s.drop i)).length)):=fun h=>by
  have hsg:z0Z (s.drop i)=if z3c b then [b] else []:=by
   rw[hdr];refine zmo _ fun c hc=>h c ?_;rw[List.head?_drop]at hc;exact hc
  rw[hsg];have main:∀Q,(z3c b=true→Q=.tuple [.agg [I 0,I 0,S (str [b]),I (i:Int)],I ((i+1:Nat):Int)])→(z3c b=false→Q=.tuple [.agg [I 0,I 0,S (str [b]),I (i:Int)],I 0])→zC g 227 [S (str s),I (i:Int)] [] Q []:=fun Q f1 f2=>by
   refine za tf_135 ?_;simp only[vW,seval,hb,e0];refine z7 hD ?_;simp only[vW,seval,hb,t34];refine z7 hW ?_;by_cases hlt2:i+1<s.length
   ·have d1:((i+1:Nat):Int)<(s.length:Int):=by omega
    obtain⟨c,ec⟩:∃c,s[i+1]?=some c:=⟨_,gE hlt2⟩
    have hdr2:s.drop (i+1)=c::s.drop (i+1+1):=by rw[List.drop_eq_getElem_cons hlt2];congr 1;rw[gE hlt2]at ec;exact Option.some.inj ec
    have k2:List.take (i+2-i) (List.drop i s)=[b,c]:=by rw[hdr,hdr2,Nat.add_sub_cancel_left];rfl
    have k2':List.take 2 (List.drop i s)=[b,c]:=by rw[hdr,hdr2];rfl
    have hno:=h c ec;unfold z8W at hno;simp only[Bool.or_eq_false_iff]at hno;obtain⟨⟨x1,x2⟩,x3⟩:=hno;simp only[vW,seval,w1,w2,d1,k1,k2,k1',k2',q1,q2,q3,x1,x2,x3];repeat(with_reducible refine And.intro (And.intro (by omega) (by omega)) ?_)
    refine z7 HB ?_;by_cases y1:0<zu [b]
    ·simp only[vW,seval,y1,q4,q5,q6,w1];rw[f1 (by unfold z3c;rw[decide_eq_true y1];rfl)];rfl
    cases y2:([b]==[40])
    ·cases y3:([b]==[41])
     ·cases y4:([b]==[44])
      ·simp only[vW,seval,y1,y2,y3,y4,q4,q5,q6,w1];rw[f2 (by unfold z3c;rw[decide_eq_false y1,y2,y3,y4];rfl)];rfl
      ·simp only[vW,seval,y1,y2,y3,y4,q4,q5,q6,w1];rw[f1 (by unfold z3c;rw[decide_eq_false y1,y2,y3,y4];rfl)];rfl
     ·simp only[vW,seval,y1,y2,y3,q4,q5,q6,w1];rw[f1 (by unfold z3c;rw[decide_eq_false y1,y2,y3];rfl)];rfl
    ·simp only[vW,seval,y1,y2,q4,q5,q6,w1];rw[f1 (by unfold z3c;rw[decide_eq_false y1,y2];rfl)];rfl
   ·have d1:¬((i+1:Nat):Int)<(s.length:Int):=by omega
    simp only[vW,seval,w1,w2,d1,k1,k1',q1,q2,q3];repeat(with_reducible refine And.intro (And.intro (by omega) (by omega)) ?_)
    refine z7 HB ?_;by_cases y1:0<zu [b]
    ·simp only[vW,seval,y1,q4,q5,q6,w1];rw[f1 (by unfold z3c;rw[decide_eq_true y1];rfl)];rfl
    cases y2:([b]==[40])
    ·cases y3:([b]==[41])
     ·cases y4:([b]==[44])
      ·simp only[vW,seval,y1,y2,y3,y4,q4,q5,q6,w1];rw[f2 (by unfold z3c;rw[decide_eq_false y1,y2,y3,y4];rfl)];rfl
      ·simp only[vW,seval,y1,y2,y3,y4,q4,q5,q6,w1];rw[f1 (by unfold z3c;rw[decide_eq_false y1,y2,y3,y4];rfl)];rfl
     ·simp only[vW,seval,y1,y2,y3,q4,q5,q6,w1];rw[f1 (by unfold z3c;rw[decide_eq_false y1,y2,y3];rfl)];rfl
    ·simp only[vW,seval,y1,y2,q4,q5,q6,w1];rw[f1 (by unfold z3c;rw[decide_eq_false y1,y2];rfl)];rfl
  cases ho:z3c b
  ·exact⟨0,0,[b],main _ (fun h=>by rw[ho]at h;cases h) (fun _=>rfl)⟩
  ·exact main _ (fun _=>rfl) (fun h=>by rw[ho]at h;cases h)
 by_cases hlt2:i+1<s.length
 ·obtain⟨c,ec⟩:∃c,s[i+1]?=some c:=⟨_,gE hlt2⟩
  cases hx:z8W b c
  ·exact last fun c' hc'=>by rw[ec]at hc';cases hc';exact hx
  ·have d1:((i+1:Nat):Int)<(s.length:Int):=by omega
   have hdr2:s.drop (i+1)=c::s.drop (i+1+1):=by rw[List.drop_eq_getElem_cons hlt2];congr 1;rw[gE hlt2]at ec;exact Option.some.inj ec
   have k2:List.take (i+2-i) (List.drop i s)=[b,c]:=by rw[hdr,hdr2,Nat.add_sub_cancel_left];rfl
   have k2':List.take 2 (List.drop i s)=[b,c]:=by rw[hdr,hdr2];rfl
   have hsg:z0Z (s.drop i)=[b,c]:=by rw[hdr,hdr2];exact zmp _ hx
   rw[hsg];change SCalls _ _ _ _ _ (.tuple [.agg [I 0,I 0,S (str [b,c]),I (i:Int)],I ((i+2:Nat):Int)]) _;refine za tf_135 ?_;have hc3:([b,c]==[60,62])=true∨(([b,c]==[60,62])=false∧([b,c]==[60,61])=true)∨(([b,c]==[60,62])=false∧([b,c]==[60,61])=false∧([b,c]==[62,61])=true):=by
    unfold z8W at hx;generalize([b,c]==[60,62])=p at*;generalize([b,c]==[60,61])=q at*;generalize([b,c]==[62,61])=r at*;revert hx;cases p<;>cases q<;>cases r<;>decide
   simp only[vW,seval,hb,e0];refine z7 hD ?_;simp only[vW,seval,hb,t34];refine z7 hW ?_;rcases hc3 with x1|⟨x1,x2⟩|⟨x1,x2,x3⟩
   ·simp only[vW,seval,w1,w2,d1,k1,k2,k1',k2',q1,q2,q3,x1]
    repeat' (first|(apply And.intro)|omega|rfl)
   ·simp only[vW,seval,w1,w2,d1,k1,k2,k1',k2',q1,q2,q3,x1,x2]
    repeat' (first|(apply And.intro)|omega|rfl)
   ·simp only[vW,seval,w1,w2,d1,k1,k2,k1',k2',q1,q2,q3,x1,x2,x3]
    repeat' (first|(apply And.intro)|omega|rfl)
 ·exact last fun c hc=>by have:=(gJ hc).1;omega
theorem zi8(g:Sh.Glob)(s:zB)(i:Nat)(hs:s.length≤1000)(hi:i<s.length):z6K g s i (z0b (s.drop i) i):=by
 obtain⟨b,hb⟩:∃b,s[i]?=some b:=⟨_,gE hi⟩
 cases hd:z1v b
 ·by_cases h34:b=34
  ·subst h34;exact zjI g s i hs hb
  ·cases hn:zI b
   ·exact zjH g s i hs hb hn h34
   ·exact zjG g s i hs hb hd hn
 ·exact zlT g s i hs hb hd
end
section
open Go.Sh.Cd7
def qcR1(q:Pc):List PV:=[.v (.int .i64 (qcK q.k)),.v (.int .i64 q.n),.v (.string (str q.s)),.v (.int .i64 (q.p:Int))]
def qcR(L:List Pc):List (List PV):=L.map qcR1
theorem zna(L:List Pc)(k:Nat):(qcR L)[k]?=(L[k]?).map qcR1:=by unfold qcR;rw[List.getElem?_map]
theorem zi2(L:List Pc):(qcR L).length=L.length:=by unfold qcR;rw[List.length_map]
theorem qcV:(type_of% @zna)∧(type_of% @zi2)∧(type_of% @qcR1.eq_1):=⟨@zna,@zi2,@qcR1.eq_1⟩
def PB(L:List Pc)(sz p:Nat)(b:Int):MO:=.box [.pv (.sl 4 (qcR L)),I (p:Int),I (sz:Int),I b]
structure PcL(L:List Pc):Prop where
 ok:∀q∈L,PcOk q
 len:L.length≤1000
section
variable{L:List Pc}{sz:Nat}
theorem zk4(g:Sh.Glob)(hL:PcL L)(t:zB)(p:Nat)(b:Int):zC g 297 [.ptr 1000 0,S (str t)] [PB L sz p b] (B (zX (pkP L sz p) t)) [PB L sz p b]:=by
 unfold PB B;refine zp tf_33 ?_;by_cases hp:p<L.length
 ·have d1:(p:Int)<(L.length:Int):=by omega
  obtain⟨q,eq⟩:∃q,L[p]?=some q:=⟨_,gE hp⟩
  have hq:=hL.ok q (gM eq);rw[z6V eq];have hk:zX q t=(decide (qcK q.k=0)&&q.s==t):=by
   unfold zX qcK;rcases hq.k with k|k|k|k<;>rw[k]<;>rfl
  rw[hk];by_cases k0:qcK q.k=0
  ·simp only[vW,seval,d1,eq,qcV,k0]
  ·simp only[vW,seval,d1,eq,qcV,k0]
 ·have d1:¬(p:Int)<(L.length:Int):=by omega
  rw[z5z (by omega)];simp only[vW,seval,d1,qcV];rfl
theorem zau(g:Sh.Glob)(hL:PcL L)(p:Nat)(b:Int):zC g 229 [.ptr 1000 0] [PB L sz p b] (tv V.nil) [PB L sz p (z3k L sz p b)]:=by
 refine SCalls.out ?_ (z3s (x:=V.nil) rfl);unfold PB nv;refine zp tf_32 ?_;have e0:=bS [];unfold z3k;by_cases hb:b<0
 ·rw[if_pos hb];by_cases hp:p<L.length
  ·have d1:(p:Int)<(L.length:Int):=by omega
   obtain⟨q,eq⟩:∃q,L[p]?=some q:=⟨_,gE hp⟩
   rw[z6V eq];simp only[vW,seval,d1,eq,qcV,hb,e0];try rfl
  ·have d1:¬(p:Int)<(L.length:Int):=by omega
   rw[z5z (by omega)];simp only[vW,seval,d1,qcV,hb,e0];try rfl
 ·rw[if_neg hb];simp only[vW,seval,qcV,hb,e0];try rfl
theorem z7z(g:Sh.Glob)(hL:PcL L)(t:zB)(p:Nat)(b:Int):zC g 300 [.ptr 1000 0,S (str t)] [PB L sz p b] (.tuple []) [PB L sz (z24 L sz t p b).1 (z24 L sz t p b).2]:=by
 have HI:=zk4 (sz:=sz) g hL t p b;have HF:=zau (sz:=sz) g hL p b;unfold z24;refine zp tf_35 ?_;by_cases hb:0≤b
 ·rw[if_pos hb];unfold PB;simp only[vW,seval,hb];try rfl
 ·rw[if_neg hb];unfold PB B at*;cases hs:zX (pkP L sz p) t
  ·rw[hs]at HI;simp only[vW,seval,hb];refine z8 HI ?_;exact zd HF
  ·rw[hs]at HI;have hp:p<L.length:=by
    rcases Nat.lt_or_ge p L.length with h|h
    ·exact h
    ·rw[z5z h]at hs;simp[zX]at hs
   have hln:=hL.len;have w1:=wS p;simp only[vW,seval,hb];refine z7 HI ?_;simp only[vW,seval,w1];try rfl
end
end
section
open Go.Sh.Cd7
section
variable(g:Sh.Glob)(L:List Pc)(sz:Nat)
def EX(F:Nat):Prop:=∀(zi:Int) (p:Nat) (b:Int) (r:V×Nat×Int),mE L sz F zi p b=some r→zC g 228 [.ptr 1000 0,I zi] [PB L sz p b] (tv r.1) [PB L sz r.2.1 r.2.2]
def TX(F:Nat):Prop:=∀(p:Nat) (b:Int) (r:V×Nat×Int),mT L sz F p b=some r→zC g 267 [.ptr 1000 0] [PB L sz p b] (tv r.1) [PB L sz r.2.1 r.2.2]
def HX(F:Nat):Prop:=∀(s:zB) (p:Nat) (b:Int) (r:V×Nat×Int),mH L sz F s 0 p b []=some r→zC g 299 [.ptr 1000 0,S (str s)] [PB L sz p b] (tv r.1) [PB L sz r.2.1 r.2.2]
end
variable{g:Sh.Glob}{L:List Pc}{sz:Nat}
theorem zfK(hL:PcL L)(F:Nat)(hT:TX g L sz F)(hE:EX g L sz F)(hH:HX g L sz F):TX g L sz (F+1):=by
 intro p b r h;rw[mT]at h;have HF:=zau (sz:=sz) g hL p b;have e0:=bS [];have hln:=hL.len;by_cases h0:0≤b∨L.length≤p
 ·rw[if_pos h0]at h;cases h;refine zp tf_34 ?_;try dsimp only
  generalize z3k L sz p b=fb at*;unfold PB at*;by_cases hb:0≤b
  ·simp only[vW,seval,hb];exact zd HF
  ·have d1:(L.length:Int)≤(p:Int):=by omega
   simp only[vW,seval,hb,d1,qcV];exact zd HF
 rw[if_neg h0]at h;have hb:¬0≤b:=fun h=>h0 (.inl h);have hp:p<L.length:=by omega
 have d1:¬(L.length:Int)≤(p:Int):=by omega
 obtain⟨x,ex⟩:∃q,L[p]?=some q:=⟨_,gE hp⟩
 have hq:=hL.ok x (gM ex);rw[z6V ex]at h;have w1:=wS p;rcases hq.k with k|k|k|k
 ·rw[if_pos (.inl k)]at h;cases h;have kk:qcK x.k=1:=by rw[k];rfl
  refine SCalls.out ?_ (z3s (x:=.mk x.k x.n x.s []) rfl);unfold PB nv;rw[k];refine zp tf_34 ?_;simp only[vW,seval,hb,d1,qcV,ex,kk,w1];try rfl
 ·rw[if_pos (.inr k)]at h;cases h;have kk:qcK x.k=2:=by rw[k];rfl
  refine SCalls.out ?_ (z3s (x:=.mk x.k x.n x.s []) rfl);unfold PB nv;rw[k];refine zp tf_34 ?_;simp only[vW,seval,hb,d1,qcV,ex,kk,w1];try rfl
 ·rw[if_neg (by omega),if_pos k]at h;have kk:qcK x.k=3:=by rw[k];rfl
  have HI:=zk4 (sz:=sz) g hL [40] (p+1) b;have HA:=z6C g x.s;have q40:=bS [40];by_cases hc:zX (pkP L sz (p+1)) [40]=true∧0<zq x.s
  ·rw[if_pos hc]at h;have HC:=hH x.s (p+1+1) b r h;have hp2:p+1<L.length:=by
    rcases Nat.lt_or_ge (p+1) L.length with h|h
    ·exact h
    ·have:=hc.1;rw[z5z h]at this;simp[zX]at this
   have w2:IntKind.i64.wrap (((p+1:Nat):Int)+1)=((p+1+1:Nat):Int):=wG;have t1:=hc.2;rw[hc.1]at HI;refine zp tf_34 ?_;generalize r.1=re at*;generalize r.2.1=rp at*;generalize r.2.2=rb at*;unfold PB B at*;simp only[vW,seval,hb,d1,qcV,ex,kk,w1,q40];refine z8 HI ?_;refine z7 HA ?_;simp only[vW,seval,t1,w2];exact zd HC
  ·rw[if_neg hc]at h;cases h;refine SCalls.out ?_ (z3s (x:=.mk 3 0 x.s []) rfl);refine zp tf_34 ?_;unfold PB B nv at*;cases hi:zX (pkP L sz (p+1)) [40]
   ·rw[hi]at HI;simp only[vW,seval,hb,d1,qcV,ex,kk,w1,q40];refine z8 HI ?_;try trivial
   ·rw[hi]at HI;have t1:¬0<zq x.s:=fun h=>hc ⟨hi,h⟩;simp only[vW,seval,hb,d1,qcV,ex,kk,w1,q40];refine z8 HI ?_;refine z7 HA ?_;simp only[vW,seval,t1];try rfl
 ·rw[if_neg (by omega),if_neg (by omega)]at h;have kk:qcK x.k=0:=by rw[k];rfl
  have q45:=bS [45];have q40:=bS [40];have q41:=bS [41];by_cases h45:x.s=[45]
  ·rw[if_pos h45]at h;split at h
   ·rename_i e p' b' hT2;cases h;have HT:=hT _ _ _ hT2;have s45:(x.s==[45])=true:=by simpa using h45
    refine zp tf_34 ?_;unfold PB at*;simp only[vW,seval,hb,d1,qcV,ex,kk,w1,q45,s45];refine z7 HT ?_;simp only[vW,seval,q45];rw[show V.rows [e]=[V.row e] from rfl,z1k]
   ·cases h
  rw[if_neg h45]at h;have s45:(x.s==[45])=false:=by simpa using h45
  by_cases h40:x.s=[40]
  ·rw[if_pos h40]at h;split at h
   ·rename_i e p' b' hE2;cases h;have HE:=hE _ _ _ _ hE2;have HW:=z7z (sz:=sz) g hL [41] p' b';have s40:(x.s==[40])=true:=by simpa using h40
    refine zp tf_34 ?_
    dsimp only at*
    generalize z24 L sz [41] p' b'=wr at*;unfold PB at*;simp only[vW,seval,hb,d1,qcV,ex,kk,w1,q45,s45,q40,s40];refine z7 HE ?_;simp only[vW,seval,q41];refine z8 HW ?_;try trivial
   ·cases h
  ·rw[if_neg h40]at h;cases h;have s40:(x.s==[40])=false:=by simpa using h40
   refine zp tf_34 ?_;try dsimp only
   generalize z3k L sz p b=fb at*;unfold PB at*;simp only[vW,seval,hb,d1,qcV,ex,kk,w1,q45,s45,q40,s40];refine z8 HF ?_;try trivial
end
section
open Go.Sh.Cd7
variable{g:Sh.Glob}{L:List Pc}{sz:Nat}
theorem znp(s:zB):0≤zu s∧zu s≤4:=by
 unfold zu
 repeat' split
 all_goals omega
theorem zi4(hL:PcL L)(F:Nat)(hT:TX g L sz F)(hE:∀f,f<F→EX g L sz f):EX g L sz (F+1):=by
 intro zi p b r h;rw[mE]at h;split at h
 case h_2=>cases h
 rename_i e p' b' hm;have HT:=hT _ _ _ hm;have hln:=hL.len;refine zp tf_31 ?_;generalize hr1:r.1=re at*;generalize hr2:r.2.1=rp at*;generalize hr3:r.2.2=rb at*;have hr:r=(re,rp,rb):=by rw[←hr1,←hr2,←hr3]
 subst hr;have e0:=bS []
 dsimp only at HT
 unfold PB at*;simp only[vW,seval];refine z8 HT ?_;refine zw (σ:={x:Nat×V×Nat×Int // mL L sz x.1 zi x.2.1 x.2.2.1 x.2.2.2=some (re,rp,rb)∧x.1≤F}) (fun x=>⟨[(0,.ptr 1000 0),(1,I zi),(4,.ptr 4 0),(5,.ptr 5 0)],[(1000,[.pv (.sl 4 (qcR L)),I (x.1.2.2.1:Int),I (sz:Int),I x.1.2.2.2]),(4,[I 0,I 0,S (str []),.pv (.v (.slice none 0 0))]),(5,[I x.1.2.1.k,I x.1.2.1.n,S (str x.1.2.1.s),.pv (.sl 4 (V.rows x.1.2.1.l))])],[],[]⟩) (fun x=>x.1.1) ⟨(F,e,p',b'),h,Nat.le_refl _⟩ ?_ ?_
 ·apply z06<;>simp[leL,lk,sv,Nat.beq,I,S,ES.kill,has,drp,zK,e0]
 clear HT hm h hT;rintro⟨⟨φ,e,p,b⟩,h,hφ⟩
 dsimp only at h hφ
 cases φ with
 |zero=>simp[mL]at h
 |succ φ=>
  rw[mL]at h;by_cases hb:b<0
  ·by_cases hp:p<L.length
   ·have d1:(p:Int)<(L.length:Int):=by omega
    obtain⟨x,ex⟩:∃q,L[p]?=some q:=⟨_,gE hp⟩
    have hq:=hL.ok x (gM ex);rw[z6V ex]at h;by_cases k4:x.k=4
    ·have kk:qcK x.k=0:=by rw[k4];rfl
     have HB:=z6D g x.s;have hb4:=znp x.s;by_cases hl:zi≤zu x.s
     ·rw[if_pos ⟨hb,k4,hl⟩]at h;split at h
      ·rename_i e2 p2 b2 hE2;have HE:=hE φ (by omega) _ _ _ _ hE2;have w1:=wS p;have w2:IntKind.i64.wrap (zu x.s+1)=zu x.s+1:=wrap64 (by omega) (by omega);unfold PB at HE
       dsimp only at HE
       simp only[vW,seval,hb,d1,qcV,ex,kk];refine z7 HB ?_;simp only[vW,seval,hl,w1,qcV,ex,d1];refine z7 HB ?_;simp only[vW,seval,w2];refine z8 HE ?_;refine zc ⟨(φ,.mk 4 0 x.s [e,e2],p2,b2),h,by dsimp only;omega⟩ (by show φ<φ+1;omega) ?_;have hrow:V.rows [e,e2]=[V.row e,V.row e2]:=rfl;apply z06<;>simp[leL,lk,sv,Nat.beq,I,S,ES.kill,has,drp,zK,hrow,z1k,Vk,Vn,Vs,Vl]
      ·cases h
     ·rw[if_neg (fun h=>hl h.2.2)]at h;cases h;simp only[vW,seval,hb,d1,qcV,ex,kk];refine z7 HB ?_;simp only[vW,seval,hl];try rfl
    ·have kk:¬qcK x.k=0:=by unfold qcK;rcases hq.k with k|k|k|k<;>rw[k]<;>first|decide|exact absurd k k4
     rw[if_neg (fun h=>k4 h.2.1)]at h;cases h;simp only[vW,seval,hb,d1,qcV,ex,kk];try rfl
   ·have d1:¬(p:Int)<(L.length:Int):=by omega
    rw[z5z (by omega),if_neg (fun h=>by have:=h.2.1;simp at this)]at h;cases h;simp only[vW,seval,hb,d1,qcV];try rfl
  ·rw[if_neg (fun h=>hb h.1)]at h;cases h;simp only[vW,seval,hb,qcV];try rfl
theorem zi3(hL:PcL L)(F:Nat)(hE:∀f,f<F→EX g L sz f):HX g L sz F:=by
 intro s p b r h;have HA:=z6C g s;have ht3:=z6Z s;have e0:=bS [];have q44:=bS [44];have q41:=bS [41];have hln:=hL.len;refine zp tf_30 ?_;generalize hr1:r.1=re at*;generalize hr2:r.2.1=rp at*;generalize hr3:r.2.2=rb at*;have hr:r=(re,rp,rb):=by rw[←hr1,←hr2,←hr3]
 subst hr;unfold PB at*;simp only[vW,seval];refine zw (σ:={x:Nat×Nat×Nat×Int×List V // mH L sz x.1 s x.2.1 x.2.2.1 x.2.2.2.1 x.2.2.2.2=some (re,rp,rb)∧x.1≤F∧x.2.2.2.2.length=x.2.1∧x.2.1≤3}) (fun x=>⟨[(0,.ptr 1000 0),(1,S (str s)),(4,.ptr 4 0),(5,.ptr 5 0),(6,I (x.1.2.1:Int))],[(1000,[.pv (.sl 4 (qcR L)),I (x.1.2.2.1:Int),I (sz:Int),I x.1.2.2.2.1]),(4,[I 0,I 0,S (str []),.pv (.v (.slice none 0 0))]),(5,[I 6,I 0,S (str s),.own 3000 4 (V.rows x.1.2.2.2.2)])],[(3000,(76,4,x.1.2.2.2.2.length))],[]⟩) (fun x=>x.1.1) ⟨(F,0,p,b,[]),h,Nat.le_refl _,rfl,Nat.zero_le _⟩ ?_ ?_
 ·refine ES.Lw.trans ?_ (show ES.Lw ⟨[(0,.ptr 1000 0),(1,S (str s)),(4,.ptr 4 0),(5,.ptr 5 0),(6,I 0)],[(1000,[.pv (.sl 4 (qcR L)),I (p:Int),I (sz:Int),I b]),(4,[I 0,I 0,S (str []),.pv (.v (.slice none 0 0))]),(5,[.pv (.v (.int .i64 6)),.pv (.v (.int .i64 0)),.pv (.v (.string (str s))),.pv (.v (.slice none 0 0))])],[],[]⟩ _ by apply z06<;>simp[leL,lk,sv,Nat.beq,I,S,ES.kill,has,drp,zK,e0]);refine ES.Lw.trans ?_ (z7Y (x:=5) (j:=3) (d:=3000) (e:=76) (W:=4) (.inr (by decide)) (by decide) rfl (by simp only[vcA,seval]) rfl);exact z0Y rfl
 clear h;rintro⟨⟨φ,k,p,b,acc⟩,h,hφ,ha,hk3⟩
 dsimp only at h hφ ha hk3
 cases φ with
 |zero=>simp[mH]at h
 |succ φ=>
  rw[mH]at h;have w1:=wS k;have HW:=z7z (sz:=sz) g hL [44] p b;have stop:∀(hc:¬((k:Int)<zq s∧b<0)),some (V.mk 6 0 s acc,z24 L sz [41] p b)=some (re,rp,rb):=fun hc=>by rw[if_neg hc]at h;exact h
  by_cases hk:(k:Int)<zq s
  ·by_cases hb:b<0
   ·rw[if_pos ⟨hk,hb⟩]at h;have hrows:∀e,V.rows (acc++[e])=V.rows acc++[V.row e]:=fun e=>by rw[z0k,z0k,List.map_append];rfl
    have hrl:=z1b acc;by_cases h0:0<k
    ·have d0:(0:Int)<(k:Int):=by omega
     rw[if_pos h0]at h;split at h
     ·rename_i e p2 b2 hE2;have HE:=hE φ (by omega) _ _ _ _ hE2;generalize z24 L sz [44] p b=wr at*;unfold PB at HE HW
      dsimp only at HE
      simp only[vW,seval];refine z7 HA ?_;simp only[vW,seval,hk,hb,d0,q44];refine z8 HW ?_;left;refine z7 HE ?_;simp only[vW,seval,w1,hrl];refine⟨⟨by omega,by unfold maxLen;omega⟩,zc ⟨(φ,k+1,p2,b2,acc++[e]),h,by dsimp only;omega,by simp[ha],by dsimp only;omega⟩ (by show φ<φ+1;omega) ?_⟩;apply z06<;>simp[leL,lk,sv,Nat.beq,I,S,ES.kill,has,drp,zK,hrows,z1k,List.length_append,List.length_singleton]
     ·cases h
    ·have d0:¬(0:Int)<(k:Int):=by omega
     rw[if_neg h0]at h;split at h
     ·rename_i e p2 b2 hE2;have HE:=hE φ (by omega) _ _ _ _ hE2;unfold PB at HE
      dsimp only at HE
      simp only[vW,seval];refine z7 HA ?_;simp only[vW,seval,hk,hb,d0];left;refine z7 HE ?_;simp only[vW,seval,w1,hrl];refine⟨⟨by omega,by unfold maxLen;omega⟩,zc ⟨(φ,k+1,p2,b2,acc++[e]),h,by dsimp only;omega,by simp[ha],by dsimp only;omega⟩ (by show φ<φ+1;omega) ?_⟩;apply z06<;>simp[leL,lk,sv,Nat.beq,I,S,ES.kill,has,drp,zK,hrows,z1k,List.length_append,List.length_singleton]
     ·cases h
   ·have h:=stop (fun h=>hb h.2);have HW:=z7z (sz:=sz) g hL [41] p b;generalize z24 L sz [41] p b=wr at*;obtain⟨wp,wb⟩:=wr;cases h;unfold PB at HW
    dsimp only at HW
    simp only[vW,seval];refine z7 HA ?_;simp only[vW,seval,hk,hb,q41];refine z8 HW ?_;try trivial
  ·have h:=stop (fun h=>hk h.1);have HW:=z7z (sz:=sz) g hL [41] p b;generalize z24 L sz [41] p b=wr at*;obtain⟨wp,wb⟩:=wr;cases h;unfold PB at HW
   dsimp only at HW
   simp only[vW,seval];refine z7 HA ?_;simp only[vW,seval,hk,q41];refine z8 HW ?_;try trivial
theorem zpN(hL:PcL L):∀F:Nat,(∀f,f≤F→EX g L sz f)∧(∀f,f≤F→TX g L sz f)
  |0=>⟨fun f hf=>(by obtain rfl:f=0:=(by omega);intro zi p b r h;simp[mE]at h),fun f hf=>(by obtain rfl:f=0:=(by omega);intro p b r h;simp[mT]at h)⟩
  |F+1=>by
    obtain⟨h1,h2⟩:=zpN hL F
    refine⟨fun f hf=> ?_,fun f hf=> ?_⟩
    · rcases Nat.lt_or_ge f (F+1)with h|h
      · exact h1 f (by omega)
      · obtain rfl:f=F+1:=by omega
        exact zi4 hL F (h2 F (Nat.le_refl _)) (fun f hf=>h1 f (by omega))
    · rcases Nat.lt_or_ge f (F+1)with h|h
      · exact h2 f (by omega)
      · obtain rfl:f=F+1:=by omega
        exact zfK hL F (h2 F (Nat.le_refl _)) (h1 F (Nat.le_refl _)) (zi3 hL F (fun f hf=>h1 f (by omega)))
end
section
open Go.Sh.Cd5
def z4T(d:Nat)(e:V)(n:Nat):Int:=if okE d e=true∧szE d e≤n then((n-szE d e:Nat):Int)else -1
def z5q(d:Nat):List V→Nat→Int
 |[],n=>n
 |x::l,n=>if okE d x=true∧szE d x≤n then z5q d l (n-szE d x)else -1
theorem zeU(d:Nat):∀(l:List V) (n:Nat),z5q d l n=if(∀x∈l,okE d x=true)∧(l.map (szE d)).sum≤n then((n-(l.map (szE d)).sum:Nat):Int)else -1
 |[],n=>by simp[z5q]
 |x::l,n=>by
  have ih:=zeU d l (n-szE d x);unfold z5q;by_cases h1:okE d x=true∧szE d x≤n
  ·rw[if_pos h1,ih];by_cases h2:(∀y∈l,okE d y=true)∧(l.map (szE d)).sum≤n-szE d x
   ·rw[if_pos h2,if_pos]
    ·rw[List.map_cons,List.sum_cons];congr 1;omega
    ·refine⟨fun y hy=> ?_,by rw[List.map_cons,List.sum_cons];omega⟩;rcases List.mem_cons.1 hy with rfl|hy
     ·exact h1.1
     ·exact h2.1 y hy
   ·rw[if_neg h2,if_neg];rintro⟨h3,h4⟩;rw[List.map_cons,List.sum_cons]at h4;exact h2 ⟨fun y hy=>h3 y (List.mem_cons_of_mem _ hy),by omega⟩
  ·rw[if_neg h1,if_neg];rintro⟨h3,h4⟩;rw[List.map_cons,List.sum_cons]at h4;exact h1 ⟨h3 x (List.mem_cons_self ..),by omega⟩
theorem zmh(d:Nat)(e:V)(n:Nat):z4T (d+1) e (n+1)=if z0y e then z5q d e.l n else -1:=by
 unfold z4T;rw[zeU,okE,szE];cases hn:z0y e
 ·simp
 ·simp only[Bool.true_and,if_true,List.all_eq_true];by_cases h:(∀x∈e.l,okE d x=true)∧(e.l.map (szE d)).sum≤n
  ·rw[if_pos h,if_pos ⟨h.1,by omega⟩];congr 1;omega
  ·rw[if_neg h,if_neg];rintro⟨h1,h2⟩;exact h ⟨h1,by omega⟩
def z66(c:Option Nat):Int:=match c with|some n=>(n:Int)|none=> -1
theorem zia(g:Sh.Glob):∀(d:Nat),d≤8→∀(e:V),ESmall e→∀(n:Nat),n≤40→zC g 268 [tv e,I (d:Int),I (n:Int)] [] (I (z4T d e n)) []:=by
 intro d
 induction d with
 |zero=>
  intro _ e he n hn;refine za tf_137 ?_;rw[show z4T 0 e n= -1 by unfold z4T;simp[okE]];simp only[vW,seval]
 |succ d ih=>
  intro hd e he n hn;refine za tf_137 ?_;have d0:¬((d+1:Nat):Int)<1:=by omega
  have HN:=zi9 g e he;have HD:=fun e he n hn=>ih (by omega) e he n hn;have hl:=he.len;have w2:IntKind.i64.wrap (((d+1:Nat):Int) - 1)=(d:Int):=wG;unfold B at*;cases n with
  |zero=>
   rw[show z4T (d+1) e 0= -1 by unfold z4T szE;rw[if_neg (by omega)]];simp only[vW,seval,d0]
  |succ n=>
  have d1:¬((n+1:Nat):Int)<1:=by omega
  have w1:IntKind.i64.wrap (((n+1:Nat):Int) - 1)=(n:Int):=wG;rw[zmh];simp only[vW,seval,d0,d1];refine zt HN ?_;cases hN:z0y e
  ·simp only[vW,seval,d0,d1];try simp
  simp only[if_true];simp only[vW,seval,d0,d1,w1];generalize hR:z5q d e.l n=R;refine zw (σ:={x:Nat×Option Nat // x.1≤e.l.length∧(match x.2 with|some n=>n≤40∧z5q d (e.l.drop x.1) n=R|none=>R= -1)})
   (fun x=>⟨[(1,I ((d+1:Nat):Int)),(2,I (z66 x.1.2)),(3,.ptr 3 0),(7,I (x.1.1:Int))],[(3,[I e.k,I e.n,S (str e.s),.pv (.sl 4 (V.rows e.l))])],[],[]⟩)
   (fun x=>e.l.length-x.1.1) ⟨(0,some n),by omega,by omega,by simpa using hR⟩ ?_ ?_
  ·apply z06<;>simp[leL,lk,sv,Nat.beq,I,S,ES.kill,has,drp,zK,z66]
  rintro⟨⟨i,c⟩,hi,hq⟩;simp only at hi;have w3:=wS i;by_cases hlt:i<e.l.length
  ·have d2:(i:Int)<(e.l.length:Int):=by omega
   obtain⟨y,ey⟩:∃y,e.l[i]?=some y:=⟨_,gE hlt⟩
   have hdr:e.l.drop i=y::e.l.drop (i+1):=by rw[List.drop_eq_getElem_cons hlt];congr 1;exact(gJ ey).2
   cases c with
   |none=>
    have hq:R= -1:=hq;unfold z66;simp only[vW,seval,d2];rw[hq]
   |some n1=>
    obtain⟨hn1,hq⟩:=hq;simp only at hq;rw[hdr]at hq;unfold z5q at hq;have d3:(0:Int)≤(n1:Int):=by omega
    have HY:=HD y (he.sub (gM ey)) n1 hn1;unfold z4T at HY;unfold z66;by_cases hy:okE d y=true∧szE d y≤n1
    ·rw[if_pos hy]at hq HY;simp only[vW,seval,d2,d3,ey,w2];refine zt HY ?_;simp only[vW,seval,w3];refine zc ⟨(i+1,some (n1-szE d y)),by simp only;omega,by omega,hq⟩ (by show e.l.length-(i+1)<e.l.length-i;omega) ?_;apply z06<;>simp[leL,lk,sv,Nat.beq,I,S,ES.kill,has,drp,zK,z66]
    ·rw[if_neg hy]at hq HY;simp only[vW,seval,d2,d3,ey,w2];refine zt HY ?_;simp only[vW,seval,w3];refine zc ⟨(i+1,none),by simp only;omega,hq.symm⟩ (by show e.l.length-(i+1)<e.l.length-i;omega) ?_;apply z06<;>simp[leL,lk,sv,Nat.beq,I,S,ES.kill,has,drp,zK,z66]
  ·have d2:¬(i:Int)<(e.l.length:Int):=by omega
   obtain rfl:i=e.l.length:=by omega
   cases c with
   |none=>
    have hq:R= -1:=hq;unfold z66;simp only[vW,seval,d2];rw[hq]
   |some n1=>
    obtain⟨hn1,hq⟩:=hq;simp only at hq;rw[List.drop_length]at hq;unfold z5q at hq;unfold z66;simp only[vW,seval,d2];rw[hq]
theorem z8I(g:Sh.Glob)(e:V)(he:ESmall e):zC g 230 [tv e] [] (B (z0q e)) []:=by
 have HR:=zia g 8 (by omega) e he 40 (by omega);have hr:decide (0≤z4T 8 e 40)=z0q e:=by
  unfold z4T z0q;rw[Bool.eq_iff_iff];by_cases h:okE 8 e=true∧szE 8 e≤40
  ·rw[if_pos h];simp[h.1,h.2]
  ·rw[if_neg h];simp only[Int.reduceNeg,decide_eq_true_eq,Bool.and_eq_true];exact⟨fun h1=>absurd h1 (by omega),fun h1=>absurd h1 h⟩
 unfold B;refine z0s tf_133 ?_;refine zt HR ?_;simp only[vW,seval,hr]
end
section
open Go.Sh.Cd7
theorem zeL{l:zB}{a:Nat}{q:Pc}{z:Nat}(h:z0b l a=some (q,z)):PcOk q:=by
 cases l with
 |nil=>cases h
 |cons b r=>
  rw[z0b]at h;split at h
  ·split at h
   ·cases h
   ·cases h;exact⟨.inl rfl,fun h=>by simp at h,fun _=>rfl⟩
  split at h
  ·split at h
   ·cases h;exact⟨.inr (.inr (.inl rfl)),fun h=>by simp at h,fun h=>by simp at h⟩
   ·cases h
  split at h
  ·split at h
   ·cases h;exact⟨.inr (.inl rfl),fun _=>rfl,fun h=>by simp at h⟩
   ·cases h
  split at h
  ·cases h
  ·cases h;exact⟨.inr (.inr (.inr rfl)),fun h=>by simp at h,fun h=>by simp at h⟩
theorem zma(L:List Pc)(q:Pc):qcR (L++[q])=qcR L++[qcR1 q]:=by unfold qcR;rw[List.map_append];rfl
def z6u(a c:Int):TV:=.tuple [.agg zk,I a,I c]
def zdZ(L:List Pc)(sz:Nat)(e:V)(q:Nat)(b:Int):TV:=
 if 0≤b then z6u b 50 else if q<L.length then z6u ((pkP L sz q).p:Int) 50 else if z0q e then .tuple [tv e,I 0,I 0] else z6u 0 51
theorem z5Q(g:Sh.Glob)(s:zB)(hs:s.length≤200)(X:Lx)(f:Nat)(hX:z0w f s 0 []=some X)(Q:TV)(hbad:∀a,X=.bad a→Q=z6u (a:Int) 50)
  (hok:∀L,X=.ok L→∃e q b F,mE L s.length F 1 0 (-1)=some (e,q,b)∧(b<0→ESmall e)∧Q=zdZ L s.length e q b):zC g 174 [S (str s)] [] Q []:=by
 have d0:¬(200:Int)<(s.length:Int):=by omega
 have e0:=bS [];refine z2X tf_132 ?_;simp only[vW,seval,d0,e0];refine zw (σ:={x:Nat×List Pc // x.1≤s.length∧(∃f,z0w f (s.drop x.1) x.1 x.2=some X)∧(∀q∈x.2,PcOk q)∧x.2.length≤x.1}) (fun x=>⟨[(0,S (str s)),(2,.ptr 2 0),(5,.ptr 17 0),(6,I (x.1.1:Int))],[(2,[I 0,I 0,S (str []),.pv (.v (.slice none 0 0))]),(17,[.own 3000 4 (qcR x.1.2),I 0,I (s.length:Int),I (-1)])],[(3000,(278,4,x.1.2.length))],[]⟩) (fun x=>s.length-x.1.1) ⟨(0,[]),Nat.zero_le _,⟨f,hX⟩,by simp,Nat.le_refl _⟩ ?_ ?_
 ·refine ES.Lw.trans ?_ (show ES.Lw ⟨[(0,S (str s)),(2,.ptr 2 0),(5,.ptr 17 0),(6,I 0)],[(2,[I 0,I 0,S (str []),.pv (.v (.slice none 0 0))]),(17,[.pv (.v (.slice none 0 0)),.pv (.v (.int .i64 0)),.pv (.v (.int .i64 (s.length:Int))),.pv (.v (.int .i64 (-1)))])],[],[]⟩ _ by apply z06<;>simp[leL,lk,sv,Nat.beq,I,S,ES.kill,has,drp,zK,e0]);refine ES.Lw.trans ?_ (z7Y (x:=17) (j:=0) (d:=3000) (e:=278) (W:=4) (.inr (by decide)) (by decide) rfl (by simp only[vcA,seval]) rfl);exact z0Y rfl
 clear hX;rintro⟨⟨i,acc⟩,hi,⟨f,hX⟩,hA,hal⟩
 dsimp only at hi hX hA hal
 by_cases hlt:i<s.length
 ·have d1:(i:Int)<(s.length:Int):=by omega
  obtain⟨b,eb⟩:∃b,s[i]?=some b:=⟨_,gE hlt⟩
  have hdr:s.drop i=b::s.drop (i+1):=by rw[List.drop_eq_getElem_cons hlt];congr 1;rw[gE hlt]at eb;exact Option.some.inj eb
  have w1:=wS i;have hbl:=b.toNat_lt;cases f with
  |zero=>cases hX
  |succ f=>
   by_cases h32:b=32
   ·subst h32;rw[hdr,z0w]at hX;simp only[if_true]at hX;simp only[vW,seval,d1,eb,w1];refine zc ⟨(i+1,acc),hlt,⟨f,hX⟩,hA,by dsimp only;omega⟩ (by show s.length-(i+1)<s.length-i;omega) ?_;exact lwA
   have t32:¬(b.toNat:Int)=32:=za7 b 32 h32;have HN:=zi8 g s i (by omega) hlt;have hX':(match z0b (s.drop i) i with|none=>some (.bad i)|some (q,z)=>z0w f ((s.drop i).drop z) (i+z) (acc++[q]))=some X:=by
    rw[hdr,z0w]at hX;simp only[h32,if_false]at hX;rw[hdr];exact hX
   cases hr:z0b (s.drop i) i with
   |none=>
    rw[hr]at hX' HN;obtain⟨k,n,t,HN⟩:=HN;cases hX';rw[hbad i rfl];unfold z6u zk;simp only[vW,seval,d1,eb,t32];refine z7 HN ?_;simp only[vW,seval,e0];try rfl
   |some x=>
    obtain⟨q,z⟩:=x;rw[hr]at hX' HN
    dsimp only at hX'
    have hz:=z6e (b:=b) (r:=s.drop (i+1)) (by rw[←hdr];exact hr);have hzl:i+z≤s.length:=by have:=hz.2.1;simp only[List.length_cons,List.length_drop]at this;omega
    have hz0:¬((i+z:Nat):Int)=0:=by omega
    have HN:zC g 227 [S (str s),I (i:Int)] [] (.tuple [qcT q,I ((i+z:Nat):Int)]) []:=HN;unfold qcT at HN;have hlen:=zi2 acc;rw[List.drop_drop]at hX';simp only[vW,seval,d1,eb,t32];refine z7 HN ?_;simp only[vW,seval,hz0,hlen];refine⟨⟨by omega,by unfold maxLen;omega⟩,zc ⟨(i+z,acc++[q]),hzl,⟨f,hX'⟩,fun y hy=> ?_,by simp;omega⟩ (by show s.length-(i+z)<s.length-i;omega) ?_⟩
    ·rcases List.mem_append.1 hy with hy|hy
     ·exact hA y hy
     ·obtain rfl:=List.mem_singleton.1 hy;exact zeL hr
    ·simp only[zma];apply z06<;>simp[leL,lk,sv,Nat.beq,I,S,ES.kill,has,drp,zK,qcR1,List.length_append,List.length_singleton]
 ·have d1:¬(i:Int)<(s.length:Int):=by omega
  have hXa:X=.ok acc:=by
   cases f with
   |zero=>cases hX
   |succ f=>
    rw[List.drop_eq_nil_of_le (by omega),z0w]at hX;cases hX;rfl
  obtain⟨e,q,b,F,hm,hsm,hQ⟩:=hok acc hXa;have hL:PcL acc:=⟨hA,by omega⟩
  have HE:=(zpN (g:=g) (sz:=s.length) hL F).1 F (Nat.le_refl _) 1 0 (-1) _ hm;have HF:=zau (sz:=s.length) g hL q b
  dsimp only at HE
  rw[hQ];unfold zdZ z6u;clear hQ;unfold PB at HE HF;by_cases hb:0≤b
  ·rw[if_pos hb];have nb:¬b<0:=by omega
   unfold zk;simp only[vW,seval,d1];refine z7 HE ?_;simp only[vW,seval,nb,hb,e0];try rfl
  rw[if_neg hb];have nb:b<0:=by omega
  by_cases hq:q<acc.length
  ·rw[if_pos hq];have d2:(q:Int)<(acc.length:Int):=by omega
   have hfb:z3k acc s.length q b=((pkP acc s.length q).p:Int):=by unfold z3k;rw[if_pos nb]
   rw[hfb]at HF;generalize(pkP acc s.length q).p=fp at*;unfold zk;simp only[vW,seval,d1];refine z7 HE ?_;simp only[vW,seval,nb,hb,e0,qcV,d2];refine z7 HF ?_;simp only[vW,seval,e0];try rfl
  rw[if_neg hq];have d2:¬(q:Int)<(acc.length:Int):=by omega
  have HR:=z8I g e (hsm nb);unfold B at HR;cases hre:z0q e
  ·rw[hre]at HR;unfold zk;simp only[Bool.false_eq_true,if_false];simp only[vW,seval,d1];refine z7 HE ?_;simp only[vW,seval,nb,hb,e0,qcV,d2];refine z7 HR ?_;simp only[vW,seval,e0];try rfl
  ·rw[hre]at HR;simp only[if_true];simp only[vW,seval,d1];refine z7 HE ?_;simp only[vW,seval,nb,hb,e0,qcV,d2];refine z7 HR ?_;simp only[vW,seval,e0];try rfl
end
end Go.Proofs.YtcpaleaajdilgaaGreatDoor
end
