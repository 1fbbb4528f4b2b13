/- Merged texts: Zo7 Zo8 Zo9 Zu1 Zu2 Zo2 Pk9. No statement of the program is proved here. -/
import Derived.Test.YtbkgnekfigknhaaGreatDoorR31
import Derived.Test.YtbkgnekfigknhaaGreatDoorR32
set_option linter.unusedSimpArgs false
set_option linter.unusedVariables false
set_option maxRecDepth 100000
set_option maxHeartbeats 8000000
section
namespace Go.Proofs.YtbkgnekfigknhaaGreatDoor
open Go Go.RowKit Go.Mor Go.Sh Go.Sh.Cd1 Go.Sh.Cd7
theorem zl9(g:Sh.Glob)(s:zB)(i:Nat)(hs:s.length≤1000)(hb:s[i]?=some 34):z79 g s i (z08 (s.drop i) i):=by
 have hlt:i<s.length:=(gJ hb).1;have hdr:s.drop i=34::s.drop (i+1):=by rw[List.drop_eq_getElem_cons hlt];congr 1;rw[gE hlt]at hb;exact Option.some.inj hb
 have hD:=z2I g 34;have hT:=zh1 g s i hlt hs;have e0:=bS [];have hR:z08 (s.drop i) i=match quoG (s.drop (i+1)) [] 1 with|some (t,k)=>some (⟨2,0,t,i⟩,k)|none=>none:=by rw[hdr,z08];rfl
 rw[hR];generalize quoG (s.drop (i+1)) [] 1=R at*;rw[show z0Q 34=false by decide]at hD;unfold B at hD;cases R with
 |none=>
  refine⟨2,0,[],?_⟩;unfold z6L at hT
  dsimp only at hT
  refine za tf_146 ?_;simp only[vW,seval,hb,e0];refine z7 hD ?_;simp only[vW,seval,hb];exact zd hT
 |some x=>
  obtain⟨t,k⟩:=x;change SCalls _ _ _ _ _ (.tuple [.agg [I 2,I 0,S (str t),I (i:Int)],I ((i+k:Nat):Int)]) _;unfold z6L at hT
  dsimp only at hT
  refine za tf_146 ?_;simp only[vW,seval,hb,e0];refine z7 hD ?_;simp only[vW,seval,hb];exact zd hT
theorem zl7(g:Sh.Glob)(s:zB)(i:Nat)(hs:s.length≤1000){b:UInt8}(hb:s[i]?=some b)(hd:z0Q b=false)(hn:zJ b=true):z79 g s i (z08 (s.drop i) i):=by
 have hlt:i<s.length:=(gJ hb).1;have hdr:s.drop i=b::s.drop (i+1):=by rw[List.drop_eq_getElem_cons hlt];congr 1;rw[gE hlt]at hb;exact Option.some.inj hb
 have hD:=z2I g b;have hW:=z71 g b;have e0:=bS [];rw[hd]at hD;rw[hn]at hW;unfold B at hD hW;have h34:¬b=34:=by rintro rfl;revert hn;decide
 have t34:¬(b.toNat:Int)=34:=zav b 34 h34;obtain⟨nz,hnz⟩:∃nz,z0C (s.drop i)=nz:=⟨_,rfl⟩
 have hz1:1≤nz:=by rw[←hnz,hdr,z0C,if_pos hn];omega
 have hzl:i+nz≤s.length:=by have:=z7M (s.drop i);rw[hnz,List.length_drop]at this;omega
 have hsm:small b=false→zb ((s.drop i).take nz)=false:=fun h=>by
  rw[hdr];cases nz with
  |zero=>omega
  |succ k=>
   rw[List.take_succ_cons];unfold zb;rw[show(b::(s.drop (i+1)).take k).headD 0=b from rfl,h,Bool.and_false,Bool.false_and]
 have hR:z08 (s.drop i) i=if zb ((s.drop i).take nz)then some (⟨3,0,(s.drop i).take nz,i⟩,nz)else none:=by
  cases h:small b
  ·rw[hsm h];have h95:b=95:=by
    unfold zJ at hn;unfold z0Q at hd;rw[h]at hn;simp at hn hd;apply UInt8.toNat_inj.1;show b.toNat=95;omega
   rw[hdr,h95];rfl
  ·rw[←hnz,hdr];rw[z08];simp only[hd,h,if_true,Bool.false_eq_true,if_false]
 rw[hR];have HN:=z30 g ((s.drop i).take nz) (by rw[List.length_take,List.length_drop];omega);unfold B at HN;have htk:List.take (i+nz-i) (List.drop i s)=(s.drop i).take nz:=by rw[Nat.add_sub_cancel_left]
 have main:∀Q,(zb ((s.drop i).take nz)=true→Q=.tuple [.agg [I 3,I 0,S (str ((s.drop i).take nz)),I (i:Int)],I ((i+nz:Nat):Int)])→(zb ((s.drop i).take nz)=false→Q=.tuple [.agg [I 3,I 0,S (str ((s.drop i).take nz)),I (i:Int)],I 0])→
   zC g 206 [S (str s),I (i:Int)] [] Q []:=fun Q q1 q2=>by
  refine za tf_146 ?_;simp only[vW,seval,hb,e0];refine z7 hD ?_;simp only[vW,seval,hb,t34];refine z8 hW ?_;refine zp (σ:={t:Nat // i≤t∧t≤s.length∧z0C (s.drop t)+(t-i)=nz}) (fun t=>⟨[(0,S (str s)),(1,I (i:Int)),(4,.ptr 4 0),(6,.ptr 6 0),(7,I (t.1:Int))],[(4,[I 0,I 0,S (str []),I 0]),(6,[I 0,I 0,S (str []),I (i:Int)])],[],[]⟩) (fun t=>s.length-t.1) ⟨i,Nat.le_refl _,by omega,by omega⟩ ?_ ?_
  ·apply z0o<;>simp[leL,lk,sv,Nat.beq,I,S,ES.kill,has,drp,zD,e0]
  rintro⟨t,h1,h2,h3⟩;by_cases hlt2:t<s.length
  ·have d1:(t:Int)<(s.length:Int):=by omega
   obtain⟨c,ec⟩:∃c,s[t]?=some c:=⟨_,gE hlt2⟩
   have hdr2:s.drop t=c::s.drop (t+1):=by rw[List.drop_eq_getElem_cons hlt2];congr 1;rw[gE hlt2]at ec;exact Option.some.inj ec
   have w1:=wS t;have hC:=z71 g c;unfold B at hC;rw[hdr2,z0C]at h3;cases hc:zJ c
   ·rw[hc]at hC h3;simp only[Bool.false_eq_true,if_false]at h3;simp only[vW,seval,d1,ec];refine z7 hC ?_;obtain rfl:t=i+nz:=by omega
    simp only[vW,seval,htk];refine⟨⟨by omega,by omega⟩,?_⟩;refine z7 HN ?_;cases hr:zb ((s.drop i).take nz)
    ·simp only[vW,seval];rw[q2 hr];rfl
    ·simp only[vW,seval];rw[q1 hr];rfl
   ·rw[hc]at hC h3;simp only[if_true]at h3;simp only[vW,seval,d1,ec];refine z7 hC ?_;simp only[vW,seval,w1];refine zc ⟨t+1,by omega,hlt2,by omega⟩ (by show s.length-(t+1)<s.length-t;omega) ?_;exact lwA
  ·have d1:¬(t:Int)<(s.length:Int):=by omega
   rw[List.drop_eq_nil_of_le (by omega),z0C]at h3;obtain rfl:t=i+nz:=by omega
   simp only[vW,seval,d1,htk];refine⟨⟨by omega,by omega⟩,?_⟩;refine z7 HN ?_;cases hr:zb ((s.drop i).take nz)
   ·simp only[vW,seval];rw[q2 hr];rfl
   ·simp only[vW,seval];rw[q1 hr];rfl
 cases hr:zb ((s.drop i).take nz)
 ·exact⟨3,0,(s.drop i).take nz,main _ (fun h=>by rw[hr]at h;cases h) (fun _=>rfl)⟩
 ·exact main _ (fun _=>rfl) (fun h=>by rw[hr]at h;cases h)
def z9h(b c:UInt8):Bool:=([b,c]==[60,62]||[b,c]==[60,61])||[b,c]==[62,61]
def z3r(b:UInt8):Bool:=((decide (0<zf [b])||[b]==[40])||[b]==[41])||[b]==[44]
theorem zs4(b:UInt8):∀c,z9h b c=true→(b=60∧(c=62∨c=61))∨(b=62∧c=61):=by
 intro c h;unfold z9h at h;simp at h;rcases h with(h|h)|h
 ·exact .inl ⟨h.1,.inl h.2⟩
 ·exact .inl ⟨h.1,.inr h.2⟩
 ·exact .inr h
theorem zob{b c:UInt8}(r:zB)(h:z9h b c=true):z18 (b::c::r)=[b,c]:=by
 rcases zs4 b c h with⟨rfl,rfl|rfl⟩|⟨rfl,rfl⟩<;>rfl
theorem zoa{b:UInt8}(r:zB)(h:∀c,r.head?=some c→z9h b c=false):z18 (b::r)=if z3r b then [b] else []:=by
 have h62:b=60→r.head?≠some 62:=fun e h'=>by have:=h 62 h';rw[e]at this;revert this;decide
 have h61:b=60→r.head?≠some 61:=fun e h'=>by have:=h 61 h';rw[e]at this;revert this;decide
 have h63:b=62→r.head?≠some 61:=fun e h'=>by have:=h 61 h';rw[e]at this;revert this;decide
 rw[z18];by_cases e60:b=60
 ·rw[if_pos e60,if_neg (h62 e60),if_neg (h61 e60),e60];rfl
 rw[if_neg e60];by_cases e62:b=62
 ·rw[if_pos e62,if_neg (h63 e62),e62];rfl
 rw[if_neg e62];have:z3r b=decide (b=61∨b=38∨b=43∨b=45∨b=42∨b=47∨b=37∨b=40∨b=41∨b=44):=by
  rw[Bool.eq_iff_iff];unfold z3r zf;simp only[List.cons.injEq,and_true,Bool.or_eq_true,decide_eq_true_eq,beq_iff_eq];constructor
  ·rintro(((h|h)|h)|h)
   ·repeat' (split at h)
    all_goals first|omega|(rename_i h1;rcases h1 with h1|h1|h1|h1|h1|h1<;>simp_all;done)|(rename_i h1;rcases h1 with h1|h1|h1<;>simp_all;done)|(rename_i h1;rcases h1 with h1|h1<;>simp_all;done)|(simp_all;done)
   ·simp[h]
   ·simp[h]
   ·simp[h]
  ·rintro(h|h|h|h|h|h|h|h|h|h)<;>simp[h]
 rw[this];by_cases hc:b=61∨b=38∨b=43∨b=45∨b=42∨b=47∨b=37∨b=40∨b=41∨b=44
 ·rw[if_pos hc,decide_eq_true hc,if_pos rfl]
 ·rw[if_neg hc,decide_eq_false hc];rfl
theorem zl8(g:Sh.Glob)(s:zB)(i:Nat)(hs:s.length≤1000){b:UInt8}(hb:s[i]?=some b)(hn:zJ b=false)(h34:b≠34):z79 g s i (z08 (s.drop i) i):=by
 have hlt:i<s.length:=(gJ hb).1;have hdr:s.drop i=b::s.drop (i+1):=by rw[List.drop_eq_getElem_cons hlt];congr 1;rw[gE hlt]at hb;exact Option.some.inj hb
 have hD:=z2I g b;have hW:=z71 g b;have HB:=z6Z g [b];have e0:=bS [];have hsm:small b=false∧z0Q b=false:=by
  unfold zJ at hn;unfold z0Q;simp at hn ⊢;exact⟨hn.1.1,hn.1.2⟩
 rw[hsm.2]at hD;rw[hn]at hW;unfold B at hD hW;have t34:¬(b.toNat:Int)=34:=zav b 34 h34;have hR:z08 (s.drop i) i=if z18 (s.drop i)=[] then none else some (⟨4,0,z18 (s.drop i),i⟩,(z18 (s.drop i)).length):=by
  rw[hdr,z08];simp only[hsm.1,hsm.2,Bool.false_eq_true,if_false,h34]
 rw[hR];have q1:=bS [60,62];have q2:=bS [60,61];have q3:=bS [62,61];have q4:=bS [40];have q5:=bS [41];have q6:=bS [44];have w1:=wS i;have w2:IntKind.i64.wrap ((i:Int)+2)=((i+2:Nat):Int):=wG;have k1:List.take (i+1-i) (List.drop i s)=[b]:=by rw[hdr,Nat.add_sub_cancel_left];rfl
 have k1':List.take 1 (List.drop i s)=[b]:=by rw[hdr];rfl
 have last:∀(h:∀c,s[i+1]?=some c→z9h b c=false),z79 g s i (if z18 (s.drop i)=[] then none else some (⟨4,0,z18 (s.drop i),i⟩,(z18 (s.drop i)).length)):=fun h=>by
  have hsg:z18 (s.drop i)=if z3r b then [b] else []:=by
   rw[hdr];refine zoa _ fun c hc=>h c ?_;rw[List.head?_drop]at hc;exact hc
  rw[hsg];have main:∀Q,(z3r b=true→Q=.tuple [.agg [I 0,I 0,S (str [b]),I (i:Int)],I ((i+1:Nat):Int)])→(z3r b=false→Q=.tuple [.agg [I 0,I 0,S (str [b]),I (i:Int)],I 0])→zC g 206 [S (str s),I (i:Int)] [] Q []:=fun Q f1 f2=>by
   refine za tf_146 ?_;simp only[vW,seval,hb,e0];refine z7 hD ?_;simp only[vW,seval,hb,t34];refine z7 hW ?_;by_cases hlt2:i+1<s.length
   ·have d1:((i+1:Nat):Int)<(s.length:Int):=by omega
    obtain⟨c,ec⟩:∃c,s[i+1]?=some c:=⟨_,gE hlt2⟩
    have hdr2:s.drop (i+1)=c::s.drop (i+1+1):=by rw[List.drop_eq_getElem_cons hlt2];congr 1;rw[gE hlt2]at ec;exact Option.some.inj ec
    have k2:List.take (i+2-i) (List.drop i s)=[b,c]:=by rw[hdr,hdr2,Nat.add_sub_cancel_left];rfl
    have k2':List.take 2 (List.drop i s)=[b,c]:=by rw[hdr,hdr2];rfl
    have hno:=h c ec;unfold z9h at hno;simp only[Bool.or_eq_false_iff]at hno;obtain⟨⟨x1,x2⟩,x3⟩:=hno;simp only[vW,seval,w1,w2,d1,k1,k2,k1',k2',q1,q2,q3,x1,x2,x3];repeat(with_reducible refine And.intro (And.intro (by omega) (by omega)) ?_)
    refine z7 HB ?_;by_cases y1:0<zf [b]
    ·simp only[vW,seval,y1,q4,q5,q6,w1];rw[f1 (by unfold z3r;rw[decide_eq_true y1];rfl)];rfl
    cases y2:([b]==[40])
    ·cases y3:([b]==[41])
     ·cases y4:([b]==[44])
      ·simp only[vW,seval,y1,y2,y3,y4,q4,q5,q6,w1];rw[f2 (by unfold z3r;rw[decide_eq_false y1,y2,y3,y4];rfl)];rfl
      ·simp only[vW,seval,y1,y2,y3,y4,q4,q5,q6,w1];rw[f1 (by unfold z3r;rw[decide_eq_false y1,y2,y3,y4];rfl)];rfl
     ·simp only[vW,seval,y1,y2,y3,q4,q5,q6,w1];rw[f1 (by unfold z3r;rw[decide_eq_false y1,y2,y3];rfl)];rfl
    ·simp only[vW,seval,y1,y2,q4,q5,q6,w1];rw[f1 (by unfold z3r;rw[decide_eq_false y1,y2];rfl)];rfl
   ·have d1:¬((i+1:Nat):Int)<(s.length:Int):=by omega
    simp only[vW,seval,w1,w2,d1,k1,k1',q1,q2,q3];repeat(with_reducible refine And.intro (And.intro (by omega) (by omega)) ?_)
    refine z7 HB ?_;by_cases y1:0<zf [b]
    ·simp only[vW,seval,y1,q4,q5,q6,w1];rw[f1 (by unfold z3r;rw[decide_eq_true y1];rfl)];rfl
    cases y2:([b]==[40])
    ·cases y3:([b]==[41])
     ·cases y4:([b]==[44])
      ·simp only[vW,seval,y1,y2,y3,y4,q4,q5,q6,w1];rw[f2 (by unfold z3r;rw[decide_eq_false y1,y2,y3,y4];rfl)];rfl
      ·simp only[vW,seval,y1,y2,y3,y4,q4,q5,q6,w1];rw[f1 (by unfold z3r;rw[decide_eq_false y1,y2,y3,y4];rfl)];rfl
     ·simp only[vW,seval,y1,y2,y3,q4,q5,q6,w1];rw[f1 (by unfold z3r;rw[decide_eq_false y1,y2,y3];rfl)];rfl
    ·simp only[vW,seval,y1,y2,q4,q5,q6,w1];rw[f1 (by unfold z3r;rw[decide_eq_false y1,y2];rfl)];rfl
  cases ho:z3r b
  ·exact⟨0,0,[b],main _ (fun h=>by rw[ho]at h;cases h) (fun _=>rfl)⟩
  ·exact main _ (fun _=>rfl) (fun h=>by rw[ho]at h;cases h)
 by_cases hlt2:i+1<s.length
 ·obtain⟨c,ec⟩:∃c,s[i+1]?=some c:=⟨_,gE hlt2⟩
  cases hx:z9h b c
  ·exact last fun c' hc'=>by rw[ec]at hc';cases hc';exact hx
  ·have d1:((i+1:Nat):Int)<(s.length:Int):=by omega
   have hdr2:s.drop (i+1)=c::s.drop (i+1+1):=by rw[List.drop_eq_getElem_cons hlt2];congr 1;rw[gE hlt2]at ec;exact Option.some.inj ec
   have k2:List.take (i+2-i) (List.drop i s)=[b,c]:=by rw[hdr,hdr2,Nat.add_sub_cancel_left];rfl
   have k2':List.take 2 (List.drop i s)=[b,c]:=by rw[hdr,hdr2];rfl
   have hsg:z18 (s.drop i)=[b,c]:=by rw[hdr,hdr2];exact zob _ hx
   rw[hsg];change SCalls _ _ _ _ _ (.tuple [.agg [I 0,I 0,S (str [b,c]),I (i:Int)],I ((i+2:Nat):Int)]) _;refine za tf_146 ?_;have hc3:([b,c]==[60,62])=true∨(([b,c]==[60,62])=false∧([b,c]==[60,61])=true)∨(([b,c]==[60,62])=false∧([b,c]==[60,61])=false∧([b,c]==[62,61])=true):=by
    unfold z9h at hx;generalize([b,c]==[60,62])=p at*;generalize([b,c]==[60,61])=q at*;generalize([b,c]==[62,61])=r at*;revert hx;cases p<;>cases q<;>cases r<;>decide
   simp only[vW,seval,hb,e0];refine z7 hD ?_;simp only[vW,seval,hb,t34];refine z7 hW ?_;rcases hc3 with x1|⟨x1,x2⟩|⟨x1,x2,x3⟩
   ·simp only[vW,seval,w1,w2,d1,k1,k2,k1',k2',q1,q2,q3,x1]
    repeat' (first|(apply And.intro)|omega|rfl)
   ·simp only[vW,seval,w1,w2,d1,k1,k2,k1',k2',q1,q2,q3,x1,x2]
    repeat' (first|(apply And.intro)|omega|rfl)
   ·simp only[vW,seval,w1,w2,d1,k1,k2,k1',k2',q1,q2,q3,x1,x2,x3]
    repeat' (first|(apply And.intro)|omega|rfl)
 ·exact last fun c hc=>by have:=(gJ hc).1;omega
theorem zjq(g:Sh.Glob)(s:zB)(i:Nat)(hs:s.length≤1000)(hi:i<s.length):z79 g s i (z08 (s.drop i) i):=by
 obtain⟨b,hb⟩:∃b,s[i]?=some b:=⟨_,gE hi⟩
 cases hd:z0Q b
 ·by_cases h34:b=34
  ·subst h34;exact zl9 g s i hs hb
  ·cases hn:zJ b
   ·exact zl8 g s i hs hb hn h34
   ·exact zl7 g s i hs hb hd hn
 ·exact znw g s i hs hb hd
section
def qcR1(q:Pc):List PV:=[.v (.int .i64 (qcK q.k)),.v (.int .i64 q.n),.v (.string (str q.s)),.v (.int .i64 (q.p:Int))]
def qcR(L:List Pc):List (List PV):=L.map qcR1
theorem zp5(L:List Pc)(k:Nat):(qcR L)[k]?=(L[k]?).map qcR1:=by unfold qcR;rw[List.getElem?_map]
theorem zjm(L:List Pc):(qcR L).length=L.length:=by unfold qcR;rw[List.length_map]
theorem qcV:(type_of% @zp5)∧(type_of% @zjm)∧(type_of% @qcR1.eq_1):=⟨@zp5,@zjm,@qcR1.eq_1⟩
def PB(L:List Pc)(sz p:Nat)(b:Int):MO:=.box [.pv (.sl 4 (qcR L)),I (p:Int),I (sz:Int),I b]
structure PcL(L:List Pc):Prop where
 ok:∀q∈L,PcOk q
 len:L.length≤1000
section
variable{L:List Pc}{sz:Nat}
theorem zlr(g:Sh.Glob)(hL:PcL L)(t:zB)(p:Nat)(b:Int):zC g 258 [.ptr 1000 0,S (str t)] [PB L sz p b] (B (zY (pkP L sz p) t)) [PB L sz p b]:=by
 unfold PB B;refine zo tf_36 ?_;by_cases hp:p<L.length
 ·have d1:(p:Int)<(L.length:Int):=by omega
  obtain⟨q,eq⟩:∃q,L[p]?=some q:=⟨_,gE hp⟩
  have hq:=hL.ok q (gM eq);rw[z7l eq];have hk:zY q t=(decide (qcK q.k=0)&&q.s==t):=by
   unfold zY qcK;rcases hq.k with k|k|k|k<;>rw[k]<;>rfl
  rw[hk];by_cases k0:qcK q.k=0
  ·simp only[vW,seval,d1,eq,qcV,k0]
  ·simp only[vW,seval,d1,eq,qcV,k0]
 ·have d1:¬(p:Int)<(L.length:Int):=by omega
  rw[z5Z (by omega)];simp only[vW,seval,d1,qcV];rfl
theorem zaV(g:Sh.Glob)(hL:PcL L)(p:Nat)(b:Int):zC g 208 [.ptr 1000 0] [PB L sz p b] (tv V.nil) [PB L sz p (z3D L sz p b)]:=by
 refine SCalls.out ?_ (z1q (x:=V.nil) rfl);unfold PB nv;refine zo tf_35 ?_;have e0:=bS [];unfold z3D;by_cases hb:b<0
 ·rw[if_pos hb];by_cases hp:p<L.length
  ·have d1:(p:Int)<(L.length:Int):=by omega
   obtain⟨q,eq⟩:∃q,L[p]?=some q:=⟨_,gE hp⟩
   rw[z7l eq];simp only[vW,seval,d1,eq,qcV,hb,e0];try rfl
  ·have d1:¬(p:Int)<(L.length:Int):=by omega
   rw[z5Z (by omega)];simp only[vW,seval,d1,qcV,hb,e0];try rfl
 ·rw[if_neg hb];simp only[vW,seval,qcV,hb,e0];try rfl
theorem z7W(g:Sh.Glob)(hL:PcL L)(t:zB)(p:Nat)(b:Int):zC g 260 [.ptr 1000 0,S (str t)] [PB L sz p b] (.tuple []) [PB L sz (z2a L sz t p b).1 (z2a L sz t p b).2]:=by
 have HI:=zlr (sz:=sz) g hL t p b;have HF:=zaV (sz:=sz) g hL p b;unfold z2a;refine zo tf_38 ?_;by_cases hb:0≤b
 ·rw[if_pos hb];unfold PB;simp only[vW,seval,hb];try rfl
 ·rw[if_neg hb];unfold PB B at*;cases hs:zY (pkP L sz p) t
  ·rw[hs]at HI;simp only[vW,seval,hb];refine z8 HI ?_;exact zd HF
  ·rw[hs]at HI;have hp:p<L.length:=by
    rcases Nat.lt_or_ge p L.length with h|h
    ·exact h
    ·rw[z5Z h]at hs;simp[zY]at hs
   have hln:=hL.len;have w1:=wS p;simp only[vW,seval,hb];refine z7 HI ?_;simp only[vW,seval,w1];try rfl
end
end
section
section
variable(g:Sh.Glob)(L:List Pc)(sz:Nat)
def EX(F:Nat):Prop:=∀(least:Int) (p:Nat) (b:Int) (r:V×Nat×Int),mE L sz F least p b=some r→zC g 207 [.ptr 1000 0,I least] [PB L sz p b] (tv r.1) [PB L sz r.2.1 r.2.2]
def TX(F:Nat):Prop:=∀(p:Nat) (b:Int) (r:V×Nat×Int),mT L sz F p b=some r→zC g 235 [.ptr 1000 0] [PB L sz p b] (tv r.1) [PB L sz r.2.1 r.2.2]
def HX(F:Nat):Prop:=∀(s:zB) (p:Nat) (b:Int) (r:V×Nat×Int),mH L sz F s 0 p b []=some r→zC g 259 [.ptr 1000 0,S (str s)] [PB L sz p b] (tv r.1) [PB L sz r.2.1 r.2.2]
end
variable{g:Sh.Glob}{L:List Pc}{sz:Nat}
theorem zgW(hL:PcL L)(F:Nat)(hT:TX g L sz F)(hE:EX g L sz F)(hH:HX g L sz F):TX g L sz (F+1):=by
 intro p b r h;rw[mT]at h;have HF:=zaV (sz:=sz) g hL p b;have e0:=bS [];have hln:=hL.len;by_cases h0:0≤b∨L.length≤p
 ·rw[if_pos h0]at h;cases h;refine zo tf_37 ?_;try dsimp only
  generalize z3D L sz p b=fb at*;unfold PB at*;by_cases hb:0≤b
  ·simp only[vW,seval,hb];exact zd HF
  ·have d1:(L.length:Int)≤(p:Int):=by omega
   simp only[vW,seval,hb,d1,qcV];exact zd HF
 rw[if_neg h0]at h;have hb:¬0≤b:=fun h=>h0 (.inl h);have hp:p<L.length:=by omega
 have d1:¬(L.length:Int)≤(p:Int):=by omega
 obtain⟨x,ex⟩:∃q,L[p]?=some q:=⟨_,gE hp⟩
 have hq:=hL.ok x (gM ex);rw[z7l ex]at h;have w1:=wS p;rcases hq.k with k|k|k|k
 ·rw[if_pos (.inl k)]at h;cases h;have kk:qcK x.k=1:=by rw[k];rfl
  refine SCalls.out ?_ (z1q (x:=.mk x.k x.n x.s []) rfl);unfold PB nv;rw[k];refine zo tf_37 ?_;simp only[vW,seval,hb,d1,qcV,ex,kk,w1];try rfl
 ·rw[if_pos (.inr k)]at h;cases h;have kk:qcK x.k=2:=by rw[k];rfl
  refine SCalls.out ?_ (z1q (x:=.mk x.k x.n x.s []) rfl);unfold PB nv;rw[k];refine zo tf_37 ?_;simp only[vW,seval,hb,d1,qcV,ex,kk,w1];try rfl
 ·rw[if_neg (by omega),if_pos k]at h;have kk:qcK x.k=3:=by rw[k];rfl
  have HI:=zlr (sz:=sz) g hL [40] (p+1) b;have HA:=z6Y g x.s;have q40:=bS [40];by_cases hc:zY (pkP L sz (p+1)) [40]=true∧0<zm x.s
  ·rw[if_pos hc]at h;have HC:=hH x.s (p+1+1) b r h;have hp2:p+1<L.length:=by
    rcases Nat.lt_or_ge (p+1) L.length with h|h
    ·exact h
    ·have:=hc.1;rw[z5Z h]at this;simp[zY]at this
   have w2:IntKind.i64.wrap (((p+1:Nat):Int)+1)=((p+1+1:Nat):Int):=wG;have t1:=hc.2;rw[hc.1]at HI;refine zo tf_37 ?_;generalize r.1=re at*;generalize r.2.1=rp at*;generalize r.2.2=rb at*;unfold PB B at*;simp only[vW,seval,hb,d1,qcV,ex,kk,w1,q40];refine z8 HI ?_;refine z7 HA ?_;simp only[vW,seval,t1,w2];exact zd HC
  ·rw[if_neg hc]at h;cases h;refine SCalls.out ?_ (z1q (x:=.mk 3 0 x.s []) rfl);refine zo tf_37 ?_;unfold PB B nv at*;cases hi:zY (pkP L sz (p+1)) [40]
   ·rw[hi]at HI;simp only[vW,seval,hb,d1,qcV,ex,kk,w1,q40];refine z8 HI ?_;try trivial
   ·rw[hi]at HI;have t1:¬0<zm x.s:=fun h=>hc ⟨hi,h⟩;simp only[vW,seval,hb,d1,qcV,ex,kk,w1,q40];refine z8 HI ?_;refine z7 HA ?_;simp only[vW,seval,t1];try rfl
 ·rw[if_neg (by omega),if_neg (by omega)]at h;have kk:qcK x.k=0:=by rw[k];rfl
  have q45:=bS [45];have q40:=bS [40];have q41:=bS [41];by_cases h45:x.s=[45]
  ·rw[if_pos h45]at h;split at h
   ·rename_i e p' b' hT2;cases h;have HT:=hT _ _ _ hT2;have s45:(x.s==[45])=true:=by simpa using h45
    refine zo tf_37 ?_;unfold PB at*;simp only[vW,seval,hb,d1,qcV,ex,kk,w1,q45,s45];refine z7 HT ?_;simp only[vW,seval,q45];rw[show V.rows [e]=[V.row e] from rfl,z1b]
   ·cases h
  rw[if_neg h45]at h;have s45:(x.s==[45])=false:=by simpa using h45
  by_cases h40:x.s=[40]
  ·rw[if_pos h40]at h;split at h
   ·rename_i e p' b' hE2;cases h;have HE:=hE _ _ _ _ hE2;have HW:=z7W (sz:=sz) g hL [41] p' b';have s40:(x.s==[40])=true:=by simpa using h40
    refine zo tf_37 ?_
    dsimp only at*
    generalize z2a L sz [41] p' b'=wr at*;unfold PB at*;simp only[vW,seval,hb,d1,qcV,ex,kk,w1,q45,s45,q40,s40];refine z7 HE ?_;simp only[vW,seval,q41];refine z8 HW ?_;try trivial
   ·cases h
  ·rw[if_neg h40]at h;cases h;have s40:(x.s==[40])=false:=by simpa using h40
   refine zo tf_37 ?_;try dsimp only
   generalize z3D L sz p b=fb at*;unfold PB at*;simp only[vW,seval,hb,d1,qcV,ex,kk,w1,q45,s45,q40,s40];refine z8 HF ?_;try trivial
end
section
variable{g:Sh.Glob}{L:List Pc}{sz:Nat}
theorem zpw(s:zB):0≤zf s∧zf s≤4:=by
 unfold zf
 repeat' split
 all_goals omega
theorem zjo(hL:PcL L)(F:Nat)(hT:TX g L sz F)(hE:∀f,f<F→EX g L sz f):EX g L sz (F+1):=by
 intro least p b r h;rw[mE]at h;split at h
 case h_2=>cases h
 rename_i e p' b' hm;have HT:=hT _ _ _ hm;have hln:=hL.len;refine zo tf_34 ?_;generalize hr1:r.1=re at*;generalize hr2:r.2.1=rp at*;generalize hr3:r.2.2=rb at*;have hr:r=(re,rp,rb):=by rw[←hr1,←hr2,←hr3]
 subst hr;have e0:=bS []
 dsimp only at HT
 unfold PB at*;simp only[vW,seval];refine z8 HT ?_;refine zp (σ:={x:Nat×V×Nat×Int // mL L sz x.1 least x.2.1 x.2.2.1 x.2.2.2=some (re,rp,rb)∧x.1≤F}) (fun x=>⟨[(0,.ptr 1000 0),(1,I least),(4,.ptr 4 0),(5,.ptr 5 0)],[(1000,[.pv (.sl 4 (qcR L)),I (x.1.2.2.1:Int),I (sz:Int),I x.1.2.2.2]),(4,[I 0,I 0,S (str []),.pv (.v (.slice none 0 0))]),(5,[I x.1.2.1.k,I x.1.2.1.n,S (str x.1.2.1.s),.pv (.sl 4 (V.rows x.1.2.1.l))])],[],[]⟩) (fun x=>x.1.1) ⟨(F,e,p',b'),h,Nat.le_refl _⟩ ?_ ?_
 ·apply z0o<;>simp[leL,lk,sv,Nat.beq,I,S,ES.kill,has,drp,zD,e0]
 clear HT hm h hT;rintro⟨⟨φ,e,p,b⟩,h,hφ⟩
 dsimp only at h hφ
 cases φ with
 |zero=>simp[mL]at h
 |succ φ=>
  rw[mL]at h;by_cases hb:b<0
  ·by_cases hp:p<L.length
   ·have d1:(p:Int)<(L.length:Int):=by omega
    obtain⟨x,ex⟩:∃q,L[p]?=some q:=⟨_,gE hp⟩
    have hq:=hL.ok x (gM ex);rw[z7l ex]at h;by_cases k4:x.k=4
    ·have kk:qcK x.k=0:=by rw[k4];rfl
     have HB:=z6Z g x.s;have hb4:=zpw x.s;by_cases hl:least≤zf x.s
     ·rw[if_pos ⟨hb,k4,hl⟩]at h;split at h
      ·rename_i e2 p2 b2 hE2;have HE:=hE φ (by omega) _ _ _ _ hE2;have w1:=wS p;have w2:IntKind.i64.wrap (zf x.s+1)=zf x.s+1:=wrap64 (by omega) (by omega);unfold PB at HE
       dsimp only at HE
       simp only[vW,seval,hb,d1,qcV,ex,kk];refine z7 HB ?_;simp only[vW,seval,hl,w1,qcV,ex,d1];refine z7 HB ?_;simp only[vW,seval,w2];refine z8 HE ?_;refine zc ⟨(φ,.mk 4 0 x.s [e,e2],p2,b2),h,by dsimp only;omega⟩ (by show φ<φ+1;omega) ?_;have hrow:V.rows [e,e2]=[V.row e,V.row e2]:=rfl;apply z0o<;>simp[leL,lk,sv,Nat.beq,I,S,ES.kill,has,drp,zD,hrow,z1b,Vk,Vn,Vs,Vl]
      ·cases h
     ·rw[if_neg (fun h=>hl h.2.2)]at h;cases h;simp only[vW,seval,hb,d1,qcV,ex,kk];refine z7 HB ?_;simp only[vW,seval,hl];try rfl
    ·have kk:¬qcK x.k=0:=by unfold qcK;rcases hq.k with k|k|k|k<;>rw[k]<;>first|decide|exact absurd k k4
     rw[if_neg (fun h=>k4 h.2.1)]at h;cases h;simp only[vW,seval,hb,d1,qcV,ex,kk];try rfl
   ·have d1:¬(p:Int)<(L.length:Int):=by omega
    rw[z5Z (by omega),if_neg (fun h=>by have:=h.2.1;simp at this)]at h;cases h;simp only[vW,seval,hb,d1,qcV];try rfl
  ·rw[if_neg (fun h=>hb h.1)]at h;cases h;simp only[vW,seval,hb,qcV];try rfl
theorem zjn(hL:PcL L)(F:Nat)(hE:∀f,f<F→EX g L sz f):HX g L sz F:=by
 intro s p b r h;have HA:=z6Y g s;have ht3:=z62 s;have e0:=bS [];have q44:=bS [44];have q41:=bS [41];have hln:=hL.len;refine zo tf_33 ?_;generalize hr1:r.1=re at*;generalize hr2:r.2.1=rp at*;generalize hr3:r.2.2=rb at*;have hr:r=(re,rp,rb):=by rw[←hr1,←hr2,←hr3]
 subst hr;unfold PB at*;simp only[vW,seval];refine zp (σ:={x:Nat×Nat×Nat×Int×List V // mH L sz x.1 s x.2.1 x.2.2.1 x.2.2.2.1 x.2.2.2.2=some (re,rp,rb)∧x.1≤F∧x.2.2.2.2.length=x.2.1∧x.2.1≤3}) (fun x=>⟨[(0,.ptr 1000 0),(1,S (str s)),(4,.ptr 4 0),(5,.ptr 5 0),(6,I (x.1.2.1:Int))],[(1000,[.pv (.sl 4 (qcR L)),I (x.1.2.2.1:Int),I (sz:Int),I x.1.2.2.2.1]),(4,[I 0,I 0,S (str []),.pv (.v (.slice none 0 0))]),(5,[I 6,I 0,S (str s),.own 3000 4 (V.rows x.1.2.2.2.2)])],[(3000,(71,4,x.1.2.2.2.2.length))],[]⟩) (fun x=>x.1.1) ⟨(F,0,p,b,[]),h,Nat.le_refl _,rfl,Nat.zero_le _⟩ ?_ ?_
 ·refine ES.Lw.trans ?_ (show ES.Lw ⟨[(0,.ptr 1000 0),(1,S (str s)),(4,.ptr 4 0),(5,.ptr 5 0),(6,I 0)],[(1000,[.pv (.sl 4 (qcR L)),I (p:Int),I (sz:Int),I b]),(4,[I 0,I 0,S (str []),.pv (.v (.slice none 0 0))]),(5,[.pv (.v (.int .i64 6)),.pv (.v (.int .i64 0)),.pv (.v (.string (str s))),.pv (.v (.slice none 0 0))])],[],[]⟩ _ by apply z0o<;>simp[leL,lk,sv,Nat.beq,I,S,ES.kill,has,drp,zD,e0]);refine ES.Lw.trans ?_ (z64 (x:=5) (j:=3) (d:=3000) (e:=71) (W:=4) (.inr (by decide)) (by decide) rfl (by simp only[vcA,seval]) rfl);exact z0M rfl
 clear h;rintro⟨⟨φ,k,p,b,acc⟩,h,hφ,ha,hk3⟩
 dsimp only at h hφ ha hk3
 cases φ with
 |zero=>simp[mH]at h
 |succ φ=>
  rw[mH]at h;have w1:=wS k;have HW:=z7W (sz:=sz) g hL [44] p b;have stop:∀(hc:¬((k:Int)<zm s∧b<0)),some (V.mk 6 0 s acc,z2a L sz [41] p b)=some (re,rp,rb):=fun hc=>by rw[if_neg hc]at h;exact h
  by_cases hk:(k:Int)<zm s
  ·by_cases hb:b<0
   ·rw[if_pos ⟨hk,hb⟩]at h;have hrows:∀e,V.rows (acc++[e])=V.rows acc++[V.row e]:=fun e=>by rw[z0j,z0j,List.map_append];rfl
    have hrl:=z1m acc;by_cases h0:0<k
    ·have d0:(0:Int)<(k:Int):=by omega
     rw[if_pos h0]at h;split at h
     ·rename_i e p2 b2 hE2;have HE:=hE φ (by omega) _ _ _ _ hE2;generalize z2a L sz [44] p b=wr at*;unfold PB at HE HW
      dsimp only at HE
      simp only[vW,seval];refine z7 HA ?_;simp only[vW,seval,hk,hb,d0,q44];refine z8 HW ?_;left;refine z7 HE ?_;simp only[vW,seval,w1,hrl];refine⟨⟨by omega,by unfold maxLen;omega⟩,zc ⟨(φ,k+1,p2,b2,acc++[e]),h,by dsimp only;omega,by simp[ha],by dsimp only;omega⟩ (by show φ<φ+1;omega) ?_⟩;apply z0o<;>simp[leL,lk,sv,Nat.beq,I,S,ES.kill,has,drp,zD,hrows,z1b,List.length_append,List.length_singleton]
     ·cases h
    ·have d0:¬(0:Int)<(k:Int):=by omega
     rw[if_neg h0]at h;split at h
     ·rename_i e p2 b2 hE2;have HE:=hE φ (by omega) _ _ _ _ hE2;unfold PB at HE
      dsimp only at HE
      simp only[vW,seval];refine z7 HA ?_;simp only[vW,seval,hk,hb,d0];left;refine z7 HE ?_;simp only[vW,seval,w1,hrl];refine⟨⟨by omega,by unfold maxLen;omega⟩,zc ⟨(φ,k+1,p2,b2,acc++[e]),h,by dsimp only;omega,by simp[ha],by dsimp only;omega⟩ (by show φ<φ+1;omega) ?_⟩;apply z0o<;>simp[leL,lk,sv,Nat.beq,I,S,ES.kill,has,drp,zD,hrows,z1b,List.length_append,List.length_singleton]
     ·cases h
   ·have h:=stop (fun h=>hb h.2);have HW:=z7W (sz:=sz) g hL [41] p b;generalize z2a L sz [41] p b=wr at*;obtain⟨wp,wb⟩:=wr;cases h;unfold PB at HW
    dsimp only at HW
    simp only[vW,seval];refine z7 HA ?_;simp only[vW,seval,hk,hb,q41];refine z8 HW ?_;try trivial
  ·have h:=stop (fun h=>hk h.1);have HW:=z7W (sz:=sz) g hL [41] p b;generalize z2a L sz [41] p b=wr at*;obtain⟨wp,wb⟩:=wr;cases h;unfold PB at HW
   dsimp only at HW
   simp only[vW,seval];refine z7 HA ?_;simp only[vW,seval,hk,q41];refine z8 HW ?_;try trivial
theorem zrK(hL:PcL L):∀F:Nat,(∀f,f≤F→EX g L sz f)∧(∀f,f≤F→TX g L sz f)
 |0=>⟨fun f hf=>(by obtain rfl:f=0:=(by omega);intro least p b r h;simp[mE]at h),fun f hf=>(by obtain rfl:f=0:=(by omega);intro p b r h;simp[mT]at h)⟩
 |F+1=>by
  obtain⟨h1,h2⟩:=zrK hL F;refine⟨fun f hf=> ?_,fun f hf=> ?_⟩
  ·rcases Nat.lt_or_ge f (F+1)with h|h
   ·exact h1 f (by omega)
   ·obtain rfl:f=F+1:=by omega
    exact zjo hL F (h2 F (Nat.le_refl _)) (fun f hf=>h1 f (by omega))
  ·rcases Nat.lt_or_ge f (F+1)with h|h
   ·exact h2 f (by omega)
   ·obtain rfl:f=F+1:=by omega
    exact zgW hL F (h2 F (Nat.le_refl _)) (h1 F (Nat.le_refl _)) (zjn hL F (fun f hf=>h1 f (by omega)))
end
theorem zfT{l:zB}{a:Nat}{q:Pc}{z:Nat}(h:z08 l a=some (q,z)):PcOk q:=by
 cases l with
 |nil=>cases h
 |cons b r=>
  rw[z08]at h;split at h
  ·split at h
   ·cases h
   ·cases h;exact⟨.inl rfl,fun h=>by simp at h,fun _=>rfl⟩
  split at h
  ·split at h
   ·cases h;exact⟨.inr (.inr (.inl rfl)),fun h=>by simp at h,fun h=>by simp at h⟩
   ·cases h
  split at h
  ·split at h
   ·cases h;exact⟨.inr (.inl rfl),fun _=>rfl,fun h=>by simp at h⟩
   ·cases h
  split at h
  ·cases h
  ·cases h;exact⟨.inr (.inr (.inr rfl)),fun h=>by simp at h,fun h=>by simp at h⟩
theorem znS(L:List Pc)(q:Pc):qcR (L++[q])=qcR L++[qcR1 q]:=by unfold qcR;rw[List.map_append];rfl
def z6S(a c:Int):TV:=.tuple [.agg zM,I a,I c]
def zf0(L:List Pc)(sz:Nat)(e:V)(q:Nat)(b:Int):TV:=
 if 0≤b then z6S b 50 else if q<L.length then z6S ((pkP L sz q).p:Int) 50 else if z0b e then .tuple [tv e,I 0,I 0] else z6S 0 51
theorem z6g(g:Sh.Glob)(s:zB)(hs:s.length≤200)(X:Lx)(f:Nat)(hX:lexG f s 0 []=some X)(Q:TV)(hbad:∀a,X=.bad a→Q=z6S (a:Int) 50)
  (hok:∀L,X=.ok L→∃e q b F,mE L s.length F 1 0 (-1)=some (e,q,b)∧(b<0→ESmall e)∧Q=zf0 L s.length e q b):zC g 172 [S (str s)] [] Q []:=by
 have d0:¬(200:Int)<(s.length:Int):=by omega
 have e0:=bS [];refine z2e tf_143 ?_;simp only[vW,seval,d0,e0];refine zp (σ:={x:Nat×List Pc // x.1≤s.length∧(∃f,lexG f (s.drop x.1) x.1 x.2=some X)∧(∀q∈x.2,PcOk q)∧x.2.length≤x.1}) (fun x=>⟨[(0,S (str s)),(2,.ptr 2 0),(5,.ptr 17 0),(6,I (x.1.1:Int))],[(2,[I 0,I 0,S (str []),.pv (.v (.slice none 0 0))]),(17,[.own 3000 4 (qcR x.1.2),I 0,I (s.length:Int),I (-1)])],[(3000,(248,4,x.1.2.length))],[]⟩) (fun x=>s.length-x.1.1) ⟨(0,[]),Nat.zero_le _,⟨f,hX⟩,by simp,Nat.le_refl _⟩ ?_ ?_
 ·refine ES.Lw.trans ?_ (show ES.Lw ⟨[(0,S (str s)),(2,.ptr 2 0),(5,.ptr 17 0),(6,I 0)],[(2,[I 0,I 0,S (str []),.pv (.v (.slice none 0 0))]),(17,[.pv (.v (.slice none 0 0)),.pv (.v (.int .i64 0)),.pv (.v (.int .i64 (s.length:Int))),.pv (.v (.int .i64 (-1)))])],[],[]⟩ _ by apply z0o<;>simp[leL,lk,sv,Nat.beq,I,S,ES.kill,has,drp,zD,e0]);refine ES.Lw.trans ?_ (z64 (x:=17) (j:=0) (d:=3000) (e:=248) (W:=4) (.inr (by decide)) (by decide) rfl (by simp only[vcA,seval]) rfl);exact z0M rfl
 clear hX;rintro⟨⟨i,acc⟩,hi,⟨f,hX⟩,hA,hal⟩
 dsimp only at hi hX hA hal
 by_cases hlt:i<s.length
 ·have d1:(i:Int)<(s.length:Int):=by omega
  obtain⟨b,eb⟩:∃b,s[i]?=some b:=⟨_,gE hlt⟩
  have hdr:s.drop i=b::s.drop (i+1):=by rw[List.drop_eq_getElem_cons hlt];congr 1;rw[gE hlt]at eb;exact Option.some.inj eb
  have w1:=wS i;have hbl:=b.toNat_lt;cases f with
  |zero=>cases hX
  |succ f=>
   by_cases h32:b=32
   ·subst h32;rw[hdr,lexG]at hX;simp only[if_true]at hX;simp only[vW,seval,d1,eb,w1];refine zc ⟨(i+1,acc),hlt,⟨f,hX⟩,hA,by dsimp only;omega⟩ (by show s.length-(i+1)<s.length-i;omega) ?_;exact lwA
   have t32:¬(b.toNat:Int)=32:=zav b 32 h32;have HN:=zjq g s i (by omega) hlt;have hX':(match z08 (s.drop i) i with|none=>some (.bad i)|some (q,z)=>lexG f ((s.drop i).drop z) (i+z) (acc++[q]))=some X:=by
    rw[hdr,lexG]at hX;simp only[h32,if_false]at hX;rw[hdr];exact hX
   cases hr:z08 (s.drop i) i with
   |none=>
    rw[hr]at hX' HN;obtain⟨k,n,t,HN⟩:=HN;cases hX';rw[hbad i rfl];unfold z6S zM;simp only[vW,seval,d1,eb,t32];refine z7 HN ?_;simp only[vW,seval,e0];try rfl
   |some x=>
    obtain⟨q,z⟩:=x;rw[hr]at hX' HN
    dsimp only at hX'
    have hz:=z8Z (b:=b) (r:=s.drop (i+1)) (by rw[←hdr];exact hr);have hzl:i+z≤s.length:=by have:=hz.2.1;simp only[List.length_cons,List.length_drop]at this;omega
    have hz0:¬((i+z:Nat):Int)=0:=by omega
    have HN:zC g 206 [S (str s),I (i:Int)] [] (.tuple [qcT q,I ((i+z:Nat):Int)]) []:=HN;unfold qcT at HN;have hlen:=zjm acc;rw[List.drop_drop]at hX';simp only[vW,seval,d1,eb,t32];refine z7 HN ?_;simp only[vW,seval,hz0,hlen];refine⟨⟨by omega,by unfold maxLen;omega⟩,zc ⟨(i+z,acc++[q]),hzl,⟨f,hX'⟩,fun y hy=> ?_,by simp;omega⟩ (by show s.length-(i+z)<s.length-i;omega) ?_⟩
    ·rcases List.mem_append.1 hy with hy|hy
     ·exact hA y hy
     ·obtain rfl:=List.mem_singleton.1 hy;exact zfT hr
    ·simp only[znS];apply z0o<;>simp[leL,lk,sv,Nat.beq,I,S,ES.kill,has,drp,zD,qcR1,List.length_append,List.length_singleton]
 ·have d1:¬(i:Int)<(s.length:Int):=by omega
  have hXa:X=.ok acc:=by
   cases f with
   |zero=>cases hX
   |succ f=>
    rw[List.drop_eq_nil_of_le (by omega),lexG]at hX;cases hX;rfl
  obtain⟨e,q,b,F,hm,hsm,hQ⟩:=hok acc hXa;have hL:PcL acc:=⟨hA,by omega⟩
  have HE:=(zrK (g:=g) (sz:=s.length) hL F).1 F (Nat.le_refl _) 1 0 (-1) _ hm;have HF:=zaV (sz:=s.length) g hL q b
  dsimp only at HE
  rw[hQ];unfold zf0 z6S;clear hQ;unfold PB at HE HF;by_cases hb:0≤b
  ·rw[if_pos hb];have nb:¬b<0:=by omega
   unfold zM;simp only[vW,seval,d1];refine z7 HE ?_;simp only[vW,seval,nb,hb,e0];try rfl
  rw[if_neg hb];have nb:b<0:=by omega
  by_cases hq:q<acc.length
  ·rw[if_pos hq];have d2:(q:Int)<(acc.length:Int):=by omega
   have hfb:z3D acc s.length q b=((pkP acc s.length q).p:Int):=by unfold z3D;rw[if_pos nb]
   rw[hfb]at HF;generalize(pkP acc s.length q).p=fp at*;unfold zM;simp only[vW,seval,d1];refine z7 HE ?_;simp only[vW,seval,nb,hb,e0,qcV,d2];refine z7 HF ?_;simp only[vW,seval,e0];try rfl
  rw[if_neg hq];have d2:¬(q:Int)<(acc.length:Int):=by omega
  have HR:=z6i g e (hsm nb);unfold B at HR;cases hre:z0b e
  ·rw[hre]at HR;unfold zM;simp only[Bool.false_eq_true,if_false];simp only[vW,seval,d1];refine z7 HE ?_;simp only[vW,seval,nb,hb,e0,qcV,d2];refine z7 HR ?_;simp only[vW,seval,e0];try rfl
  ·rw[hre]at HR;simp only[if_true];simp only[vW,seval,d1];refine z7 HE ?_;simp only[vW,seval,nb,hb,e0,qcV,d2];refine z7 HR ?_;simp only[vW,seval,e0];try rfl
theorem z93(g:Sh.Glob)(k:Int):zC g 205 [I k] [] (B (decide (1≤k)&&decide (k≤4))) []:=by
 refine za tf_140 ?_;unfold B;by_cases h1:1≤k
 ·simp only[vW,seval,h1]
 ·simp only[vW,seval,h1]
theorem zfX(g:Sh.Glob)(t:Ty):zC g 169 [tyT t] [] (B (zg t)) []:=by
 obtain⟨k,o⟩:=t;have H1:=z93 g k;have H2:=z93 g o;refine za tf_139 ?_;have hR:zg ⟨k,o⟩=((decide (1≤k)&&decide (k≤4))&&decide (o=0)||decide (k=5)&&(decide (1≤o)&&decide (o≤4))):=by
  unfold zg;rw[Bool.eq_iff_iff];by_cases h:k=5
  ·subst h;simp
  ·rw[if_neg h];simp[h];omega
 rw[hR];have h15:(decide (1≤k)&&decide (k≤4))=true→decide (k=5)=false:=fun h=>by simp at h ⊢;omega
 generalize(decide (1≤k)&&decide (k≤4))=x at*;generalize(decide (1≤o)&&decide (o≤4))=y at*;unfold B tyT at*;simp only[vW,seval];refine z7 H1 ?_;cases x
 ·by_cases h5:k=5
  ·simp only[vW,seval,h5];exact zd H2
  ·simp only[vW,seval,h5]
 ·by_cases h0:o=0
  ·simp only[vW,seval,h0];rw[Bool.true_or]
  ·have h5:¬k=5:=by simpa using h15 rfl
   simp only[vW,seval,h0,h5]
theorem z7e{α:Type}(p:α→Bool)(l:List α)(k:Nat)(h:z0R p l=k)(i:Nat)(y:α)(hi:i<k)(hy:l[i]?=some y):p y=false:=by
 cases hp:p y with
 |false=>rfl
 |true=>
  exfalso;obtain⟨q,hq⟩:∃q,l.findIdx? p=some q:=by
   cases hf:l.findIdx? p with
   |some q=>exact⟨q,rfl⟩
   |none=>
    rw[List.findIdx?_eq_none_iff]at hf;have:=hf y (gM hy);rw[hp]at this;cases this
  have hqk:(q:Int)=k:=by rw[←h];simp[z0R,hq]
  rw[List.findIdx?_eq_some_iff_getElem]at hq;obtain⟨h1,_,h3⟩:=hq;obtain⟨hi2,rfl⟩:=gJ hy;exact h3 i (by omega) hp
theorem z6h(g:Sh.Glob)(c:Cls)(hc:ClsOk c):zC g 96 [clT c] [] (B (ze c)) []:=by
 have HN:=z30 g c.n hc.n;have hlen:=hc.len;obtain⟨R,hR⟩:∃R,ze c=R:=⟨_,rfl⟩
 rw[hR];unfold ze at hR;refine za tf_138 ?_;unfold B at*;simp only[vW,seval,clV];refine z7 HN ?_;cases h1:zb c.n
 ·rw[h1]at hR;subst hR;simp only[vW,seval]
 rw[h1,Bool.true_and]at hR;by_cases h8:c.fs.length≤8
 ·rw[decide_eq_true h8,Bool.true_and]at hR;have d8:¬(8:Int)<(c.fs.length:Int):=by omega
  simp only[vW,seval,d8,clV];refine zp (σ:={k:Nat // k≤c.fs.length∧z38 c.fs k (c.fs.drop k)=R}) (fun k=>⟨[(1,.ptr 1 0),(3,I (k.1:Int))],[(1,[S (str c.n),.pv (.sl 4 (flR c.fs))])],[],[]⟩) (fun k=>c.fs.length-k.1) ⟨0,Nat.zero_le _,by simpa using hR⟩ ?_ ?_
  ·exact lwA
  rintro⟨k,hk,hT⟩;by_cases hlt:k<c.fs.length
  ·have d1:(k:Int)<(c.fs.length:Int):=by omega
   obtain⟨f,ef⟩:∃f,c.fs[k]?=some f:=⟨_,gE hlt⟩
   have hmem:=gM ef;have HF:=z30 g f.n (hc.fs f hmem);have HT:=zfX g f.t;have w1:=wS k;have hdr:c.fs.drop k=f::c.fs.drop (k+1):=by
    rw[List.drop_eq_getElem_cons hlt];congr 1;rw[gE hlt]at ef;exact Option.some.inj ef
   rw[hdr,z8P]at hT;have hrf:zF f=(zb f.n&&zg f.t&&(!f.ix||decide (f.t.k≤3))):=rfl;unfold tyT B at*;simp only[vW,seval,d1,ef,clV];refine z7 HF ?_;cases h2:zb f.n
   ·rw[hrf,h2]at hT;simp only[Bool.false_and]at hT;subst hT;simp only[vW,seval]
   simp only[vW,seval];refine z7 HT ?_;cases h3:zg f.t
   ·rw[hrf,h2,h3]at hT;simp only[Bool.false_and,Bool.and_false]at hT;subst hT;simp only[vW,seval]
   rw[hrf,h2,h3,Bool.true_and,Bool.true_and]at hT;have inner:∀(hR2:(fieldAt c.fs f.n==(k:Int)&&z38 c.fs (k+1) (c.fs.drop (k+1)))=R),True:=fun _=>trivial;have hix:(f.ix=false∧(!f.ix||decide (f.t.k≤3))=true)∨(f.ix=true∧f.t.k≤3∧(!f.ix||decide (f.t.k≤3))=true)∨(f.ix=true∧¬f.t.k≤3∧(!f.ix||decide (f.t.k≤3))=false):=by
    cases f.ix
    ·exact .inl ⟨rfl,rfl⟩
    ·by_cases h:f.t.k≤3
     ·exact .inr (.inl ⟨rfl,h,by rw[decide_eq_true h];rfl⟩)
     ·exact .inr (.inr ⟨rfl,h,by rw[decide_eq_false h];rfl⟩)
   rcases hix with⟨e1,e2⟩|⟨e1,e3,e2⟩|⟨e1,e3,e2⟩
   ·rw[e2,Bool.true_and]at hT;simp only[vW,seval,e1];refine zp (σ:={j:Nat // j≤k∧∀i y,i<j→c.fs[i]?=some y→(y.n==f.n)=false}) (fun j=>⟨[(1,.ptr 1 0),(3,I (k:Int)),(4,.ptr 4 0),(5,I (j.1:Int))],[(1,[S (str c.n),.pv (.sl 4 (flR c.fs))]),(4,[S (str f.n),I f.t.k,I f.t.o,.pv (.v (.bool f.ix))])],[],[]⟩) (fun j=>k-j.1) ⟨0,Nat.zero_le _,fun i y h=>by omega⟩ ?_ ?_
    ·apply z0o<;>simp[leL,lk,sv,Nat.beq,I,S,ES.kill,has,drp,zD,e1]
    rintro⟨j,hj,hno⟩;by_cases hjk:j<k
    ·have d2:(j:Int)<(k:Int):=by omega
     obtain⟨y,ey⟩:∃y,c.fs[j]?=some y:=⟨_,gE (by omega)⟩
     have w2:=wS j;cases hy:(y.n==f.n)
     ·simp only[vW,seval,d2,ey,hy,clV,w2];refine zc ⟨j+1,by omega,fun i z hi hz=> ?_⟩ (by show k-(j+1)<k-j;omega) ?_
      ·by_cases hij:i=j
       ·subst hij;rw[ey]at hz;cases hz;exact hy
       ·exact hno i z (by omega) hz
      ·exact lwA
     ·have hne:(fieldAt c.fs f.n==(k:Int))=false:=by
       rw[beq_eq_false_iff_ne];intro he;have:=z7e (fun x:Fld=>x.n==f.n) c.fs k he j y hjk ey;rw[hy]at this;cases this
      rw[hne,Bool.false_and]at hT;subst hT;simp only[vW,seval,d2,ey,hy,clV]
    ·have d2:¬(j:Int)<(k:Int):=by omega
     obtain rfl:j=k:=by omega
     have he:(fieldAt c.fs f.n==(j:Int))=true:=by
      rw[beq_iff_eq];exact z7D (fun x:Fld=>x.n==f.n) c.fs j f ef (by simp) (fun i y hi hy=>hno i y hi hy)
     rw[he,Bool.true_and]at hT;simp only[vW,seval,d2,w1];refine zc ⟨j+1,hlt,hT⟩ (by show c.fs.length-(j+1)<c.fs.length-j;omega) ?_;exact lwA
   ·rw[e2,Bool.true_and]at hT;have e4:¬(3:Int)<f.t.k:=by omega
    simp only[vW,seval,e1,e4];refine zp (σ:={j:Nat // j≤k∧∀i y,i<j→c.fs[i]?=some y→(y.n==f.n)=false}) (fun j=>⟨[(1,.ptr 1 0),(3,I (k:Int)),(4,.ptr 4 0),(5,I (j.1:Int))],[(1,[S (str c.n),.pv (.sl 4 (flR c.fs))]),(4,[S (str f.n),I f.t.k,I f.t.o,.pv (.v (.bool f.ix))])],[],[]⟩) (fun j=>k-j.1) ⟨0,Nat.zero_le _,fun i y h=>by omega⟩ ?_ ?_
    ·apply z0o<;>simp[leL,lk,sv,Nat.beq,I,S,ES.kill,has,drp,zD,e1]
    rintro⟨j,hj,hno⟩;by_cases hjk:j<k
    ·have d2:(j:Int)<(k:Int):=by omega
     obtain⟨y,ey⟩:∃y,c.fs[j]?=some y:=⟨_,gE (by omega)⟩
     have w2:=wS j;cases hy:(y.n==f.n)
     ·simp only[vW,seval,d2,ey,hy,clV,w2];refine zc ⟨j+1,by omega,fun i z hi hz=> ?_⟩ (by show k-(j+1)<k-j;omega) ?_
      ·by_cases hij:i=j
       ·subst hij;rw[ey]at hz;cases hz;exact hy
       ·exact hno i z (by omega) hz
      ·exact lwA
     ·have hne:(fieldAt c.fs f.n==(k:Int))=false:=by
       rw[beq_eq_false_iff_ne];intro he;have:=z7e (fun x:Fld=>x.n==f.n) c.fs k he j y hjk ey;rw[hy]at this;cases this
      rw[hne,Bool.false_and]at hT;subst hT;simp only[vW,seval,d2,ey,hy,clV]
    ·have d2:¬(j:Int)<(k:Int):=by omega
     obtain rfl:j=k:=by omega
     have he:(fieldAt c.fs f.n==(j:Int))=true:=by
      rw[beq_iff_eq];exact z7D (fun x:Fld=>x.n==f.n) c.fs j f ef (by simp) (fun i y hi hy=>hno i y hi hy)
     rw[he,Bool.true_and]at hT;simp only[vW,seval,d2,w1];refine zc ⟨j+1,hlt,hT⟩ (by show c.fs.length-(j+1)<c.fs.length-j;omega) ?_;exact lwA
   ·rw[e2]at hT;simp only[Bool.false_and]at hT;subst hT;have e4:(3:Int)<f.t.k:=by omega
    simp only[vW,seval,e1,e4]
  ·have d1:¬(k:Int)<(c.fs.length:Int):=by omega
   have hdr:c.fs.drop k=[]:=List.drop_eq_nil_of_le (by omega);rw[hdr]at hT;simp only[vW,seval,d1,clV];rw[←hT];rfl
 ·rw[decide_eq_false h8]at hR;subst hR;have d8:(8:Int)<(c.fs.length:Int):=by omega
  simp only[vW,seval,d8,clV]
end Go.Proofs.YtbkgnekfigknhaaGreatDoor
end

section
namespace Go.Mor
open Go
def zS(r:Ty×Bool):Int:=if r.2=true∧(r.1.k=1∨r.1.k=2)then r.1.k else 0
theorem zfL{r:Ty×Bool}{i:Int}(hi:i=1∨i=2):zS r=i ↔ r.2=true∧r.1.k=i:=by
 grind [zS]
def z0y(t:V→Ty×Bool)(l:List V)(F:List Ty→Ty×Bool):Ty×Bool:=match z0z t l with
 |none=>(ty0,false)
 |some ps=>F ps
theorem zjY(fs:List Fld)(d:Nat)(e:V):zl fs (d+1) e=z0y (zl fs d) e.l (z2m fs e):=rfl
theorem z83(t:V→Ty×Bool)(k:Int):∀(l:List V) (ks:List Int),l.length=ks.length→(∀i∈ks,i=1∨i=2)→
  ((z0y t l (zK k ks)).2=true ↔ ∀(j:Nat) y i,l[j]?=some y→ks[j]?=some i→zS (t y)=i)∧((z0y t l (zK k ks)).2=true→(z0y t l (zK k ks)).1=⟨k,0⟩):=by
 intro l ks hl hk;have key:∀(l:List V) (ks:List Int),l.length=ks.length→(∀i∈ks,i=1∨i=2)→((∃ps,z0z t l=some ps∧z29 ps ks=true) ↔ ∀(j:Nat) y i,l[j]?=some y→ks[j]?=some i→zS (t y)=i):=by
  intro l
  induction l with
  |nil=>
   intro ks h _;refine⟨fun _ j y i hj=>by simp at hj,fun _=>⟨[],rfl,by cases ks<;>rfl⟩⟩
  |cons x l ih=>
   intro ks h hk;cases ks with
   |nil=>simp at h
   |cons i ks=>
    have ih:=ih ks (by grind) (fun j hj=>hk j (List.mem_cons_of_mem _ hj));have hi:=hk i (List.mem_cons_self ..);constructor
    ·rintro⟨ps,h1,h2⟩ j y i' hj hi';rw[z0z]at h1;split at h1
     ·rename_i hx;obtain⟨qs,h3,rfl⟩:=gO h1;simp only[z29,Bool.and_eq_true,beq_iff_eq]at h2;cases j with
      |zero=>
       simp at hj hi';subst hj;subst hi';exact(zfL hi).2 ⟨hx,h2.1⟩
      |succ j=>grind
     ·cases h1
    ·intro hq;have h0:=(zfL hi).1 (hq 0 x i rfl rfl);obtain⟨qs,h3,h4⟩:=ih.2 fun j y i' hj hi'=>hq (j+1) y i' (by grind) (by grind);refine⟨(t x).1::qs,by rw[z0z,if_pos h0.1,h3];rfl,?_⟩;simp only[z29,Bool.and_eq_true,beq_iff_eq]
     grind
 have:=key l ks hl hk;rw[←this];unfold z0y;cases h:z0z t l with
 |none=>simp
 |some ps=>
  grind [zK,z29]
theorem zk8(t:V→Ty×Bool)(a b:V)(hz:∀y∈[a,b],(t y).2=true→((t y).1.k=1∨(t y).1.k=2)→(t y).1.o=0)(F:List Ty→Ty×Bool)(hF:∀p q,F [p,q]=(⟨1,0⟩,z1Q p q)):
  ((z0y t [a,b] F).2=true ↔ 0<zS (t a)∧zS (t a)=zS (t b))∧((z0y t [a,b] F).2=true→(z0y t [a,b] F).1=⟨1,0⟩):=by
 unfold z0y;simp only[z0z]
 grind [zS,z1Q,z0i]
theorem zeO(t:V→Ty×Bool)(a b d:V)(hz:∀y∈[a,b,d],(t y).2=true→((t y).1.k=1∨(t y).1.k=2)→(t y).1.o=0):
  ((z0y t [a,b,d] z2c).2=true ↔ zS (t a)=1∧0<zS (t b)∧zS (t b)=zS (t d))∧((z0y t [a,b,d] z2c).2=true→(z0y t [a,b,d] z2c).1=⟨zS (t b),0⟩):=by
 unfold z0y;have hb:=hz b (by simp);have hd:=hz d (by simp);simp only[z0z];unfold zS;generalize t a=p at*;generalize t b=q at*;generalize t d=r at*;obtain⟨⟨k,o⟩,x⟩:=p;obtain⟨⟨k',o'⟩,x'⟩:=q;obtain⟨⟨k2,o2⟩,x2⟩:=r;cases x<;>cases x'<;>cases x2<;>simp[z2c,z1Q,z0i]at*<;>(try omega)
 grind
theorem zm2{fs:List Fld}(hfs:∀f∈fs,zg f.t=true){d:Nat}{e:V}{t:Ty}(he:okE d e=true)(ht:zl fs d e=(t,true)):zg t=true:=by
 have h:z63 fs (fs.map fun f=>z5k f.t):=⟨hfs,by simp,fun i f v hf hv=>by
  rw[List.getElem?_map,hf]at hv;cases hv;exact z8v _ (hfs f (gM hf))⟩
 have:=z5K h d e t he ht;unfold zI at this;simp at this;exact this.1.1.2
theorem zoq{fs:List Fld}(hfs:∀f∈fs,zg f.t=true){d:Nat}{e:V}(he:okE d e=true)(h:(zl fs d e).2=true)(hk:(zl fs d e).1.k=1∨(zl fs d e).1.k=2):(zl fs d e).1.o=0:=by
 have:=zm2 hfs he (t:=(zl fs d e).1) (by rw[←h])
 grind [zg]
end Go.Mor
end
