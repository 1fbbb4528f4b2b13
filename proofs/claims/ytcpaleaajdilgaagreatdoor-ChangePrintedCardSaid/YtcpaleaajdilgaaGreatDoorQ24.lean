/- Merged texts: Ze6 Ze7 Px4 Ze13. No statement of the program is proved here. -/
import Derived.Test.YtcpaleaajdilgaaGreatDoorQ17
set_option linter.unusedSimpArgs false
set_option linter.unusedVariables false
set_option maxRecDepth 100000
set_option maxHeartbeats 8000000
section
namespace Go.Proofs.YtcpaleaajdilgaaGreatDoor
open Go Go.RowKit Go.Mor Go.Sh Go.Sh.Cd1 Go.Sh.Cd4 Go.Sh.Cd5
def zhJ(l:zB):Option (Pc×Nat):=if zb (l.take (z0G l))then some (⟨3,0,l.take (z0G l),0⟩,z0G l)else none
theorem z7p:∀l:zB,z0G l≤l.length
 |[]=>Nat.le_refl _
 |b::r=>by
  rw[z0G];split
  ·have:=z7p r;simp;omega
  ·simp
theorem zlQ(g:Sh.Glob)(l:zB)(z:Nat)(hz:z=z0G l)(hl:l.length<4611686018427387904):zC g 244 [S (str (l.take z))] [] (B (zb (l.take z))) []:=
 z7S g _ (by have:=z7p l;rw[List.length_take];omega)
theorem zfL(g:Sh.Glob)(l:zB)(hl:l.length<4611686018427387904):zC g 205 [S (str l)] [] (p0T (zhJ l)) []:=by
 have hle:=z7p l;have HE:∀z,z=z0G l→zC g 244 [S (str (l.take z))] [] (B (zb (l.take z))) []:=fun z hz=>zlQ g l z hz hl;unfold zhJ;generalize hR:z0G l=R at*;refine z0s tf_101 ?_;refine zw (σ:={ z:Nat // z≤l.length∧z+z0G (l.drop z)=R })
  (fun q=>⟨[(0,S (str l)),(2,.ptr 2 0),(4,I (q.1:Int))],[(2,[I 0,I 0,S ⟨#[]⟩,I 0])],[],[]⟩) (fun q=>l.length-q.1) ⟨0,Nat.zero_le _,by simpa using hR⟩ ?_ ?_
 ·exact lwA
 rintro⟨z,hz,hd⟩;have w4:=wS z;by_cases hk:z<l.length
 ·have d1:(z:Int)<(l.length:Int):=by omega
  obtain⟨c,ec⟩:∃c,l[z]?=some c:=⟨_,gE hk⟩
  rw[z1M ec,z0G]at hd;have hc:=c.toNat_lt;have fin:zI c=true→z+1+z0G (l.drop (z+1))=R:=fun h=>by rw[h,if_pos rfl]at hd;omega
  by_cases q1:97≤c.toNat
  ·have d2:(97:Int)≤(c.toNat:Int):=by omega
   by_cases q2:c.toNat≤122
   ·have d3:(c.toNat:Int)≤122:=by omega
    have hn:zI c=true:=by unfold zI small;simp[q1,q2]
    simp only[vW,seval,d1,d2,d3,ec,w4];refine zc ⟨z+1,hk,fin hn⟩ (by show l.length-(z+1)<l.length-z;omega) ?_;exact lwA
   ·have d3:¬(c.toNat:Int)≤122:=by omega
    have d4:(48:Int)≤(c.toNat:Int):=by omega
    have d5:¬(c.toNat:Int)≤57:=by omega
    have d6:¬(c.toNat:Int)=95:=by omega
    have hn:zI c=false:=by unfold zI small;simp;omega
    rw[hn,if_neg (by simp),Nat.add_zero]at hd;subst hd;have HE:=HE z rfl;unfold B at HE;cases hr:zb (l.take z)
    ·rw[hr]at HE;simp only[vW,seval,d1,d2,d3,d4,d5,d6,ec];refine⟨⟨by omega,hz⟩,?_⟩;refine z7 HE ?_;simp only[vW,seval,p0T];all_goals(first|done|exact⟨by omega,hz⟩|rfl)
    ·rw[hr]at HE;simp only[vW,seval,d1,d2,d3,d4,d5,d6,ec];refine⟨⟨by omega,hz⟩,?_⟩;refine z7 HE ?_;simp only[vW,seval,p0T];all_goals(first|done|exact⟨by omega,hz⟩|rfl)
  ·have d2:¬(97:Int)≤(c.toNat:Int):=by omega
   by_cases q3:48≤c.toNat
   ·have d4:(48:Int)≤(c.toNat:Int):=by omega
    by_cases q4:c.toNat≤57
    ·have d5:(c.toNat:Int)≤57:=by omega
     have hn:zI c=true:=by unfold zI small;simp[q3,q4]
     simp only[vW,seval,d1,d2,d4,d5,ec,w4];refine zc ⟨z+1,hk,fin hn⟩ (by show l.length-(z+1)<l.length-z;omega) ?_;exact lwA
    ·have d5:¬(c.toNat:Int)≤57:=by omega
     by_cases q5:c.toNat=95
     ·have d6:(c.toNat:Int)=95:=by omega
      have hn:zI c=true:=by unfold zI small;simp[q5]
      simp only[vW,seval,d1,d2,d4,d5,d6,ec,w4];refine zc ⟨z+1,hk,fin hn⟩ (by show l.length-(z+1)<l.length-z;omega) ?_;exact lwA
     ·have d6:¬(c.toNat:Int)=95:=by omega
      have hn:zI c=false:=by unfold zI small;simp;omega
      rw[hn,if_neg (by simp),Nat.add_zero]at hd;subst hd;have HE:=HE z rfl;unfold B at HE;cases hr:zb (l.take z)
      ·rw[hr]at HE;simp only[vW,seval,d1,d2,d4,d5,d6,ec];refine⟨⟨by omega,hz⟩,?_⟩;refine z7 HE ?_;simp only[vW,seval,p0T];all_goals(first|done|exact⟨by omega,hz⟩|rfl)
      ·rw[hr]at HE;simp only[vW,seval,d1,d2,d4,d5,d6,ec];refine⟨⟨by omega,hz⟩,?_⟩;refine z7 HE ?_;simp only[vW,seval,p0T];all_goals(first|done|exact⟨by omega,hz⟩|rfl)
   ·have d4:¬(48:Int)≤(c.toNat:Int):=by omega
    have d6:¬(c.toNat:Int)=95:=by omega
    have hn:zI c=false:=by unfold zI small;simp;omega
    rw[hn,if_neg (by simp),Nat.add_zero]at hd;subst hd;have HE:=HE z rfl;unfold B at HE;cases hr:zb (l.take z)
    ·rw[hr]at HE;simp only[vW,seval,d1,d2,d4,d6,ec];refine⟨⟨by omega,hz⟩,?_⟩;refine z7 HE ?_;simp only[vW,seval,p0T];all_goals(first|done|exact⟨by omega,hz⟩|rfl)
    ·rw[hr]at HE;simp only[vW,seval,d1,d2,d4,d6,ec];refine⟨⟨by omega,hz⟩,?_⟩;refine z7 HE ?_;simp only[vW,seval,p0T];all_goals(first|done|exact⟨by omega,hz⟩|rfl)
 ·have d1:¬(z:Int)<(l.length:Int):=by omega
  rw[List.drop_eq_nil_of_le (by omega),z0G,Nat.add_zero]at hd;subst hd;have HE:=HE z rfl;unfold B at HE;cases hr:zb (l.take z)
  ·rw[hr]at HE;simp only[vW,seval,d1];refine⟨⟨by omega,hz⟩,?_⟩;refine z7 HE ?_;simp only[vW,seval,p0T];all_goals(first|done|exact⟨by omega,hz⟩|rfl)
  ·rw[hr]at HE;simp only[vW,seval,d1];refine⟨⟨by omega,hz⟩,?_⟩;refine z7 HE ?_;simp only[vW,seval,p0T];all_goals(first|done|exact⟨by omega,hz⟩|rfl)
theorem zed(g:Sh.Glob)(l t:zB)(hl:l.length<4611686018427387904):zC g 246 [S (str l),S (str t)] [] (B (t.isPrefixOf l)) []:=by
 have key:zC g 282 [S (str l),S (str t)] [] (B (t.isPrefixOf l)) []:=by
  refine za tf_107 ?_;unfold B;by_cases h:t.length≤l.length
  ·have d1:(t.length:Int)≤(l.length:Int):=by omega
   have he:t.isPrefixOf l=(l.take t.length==t):=by
    rw[Bool.eq_iff_iff,List.isPrefixOf_iff_prefix,beq_iff_eq,List.prefix_iff_eq_take];exact⟨fun h=>h.symm,fun h=>h.symm⟩
   rw[he];simp only[vW,seval,d1];all_goals(first|done|exact⟨by omega,h⟩)
  ·have d1:¬(t.length:Int)≤(l.length:Int):=by omega
   have he:t.isPrefixOf l=false:=by
    cases hh:t.isPrefixOf l with
    |false=>rfl
    |true=>exact absurd (List.isPrefixOf_iff_prefix.1 hh).length_le h
   rw[he];simp only[vW,seval,d1]
 refine za tf_157 ?_;unfold B at*;simp only[vW,seval];exact zd key
def z67(l:zB):List (zB)→zB→zB
 |[],best=>best
 |t::r,best=>z67 l r (if t.isPrefixOf l=true∧best.length<t.length then t else best)
theorem zhI(g:Sh.Glob)(l:zB)(ts:List (zB))(hl:l.length<4611686018427387904)(ht:ts.length<4611686018427387904):zC g 207 [S (str l),.pv (.sl 1 (ts.map fun t=>[.v (.string (str t))]))] [] (S (str (z67 l ts []))) []:=by
 refine za tf_98 ?_;generalize hR:z67 l ts []=R;have e0:=bS [];simp only[vW,seval,e0];refine zw (σ:={ q:Nat×zB // q.1≤ts.length∧z67 l (ts.drop q.1) q.2=R })
  (fun q=>⟨[(0,S (str l)),(5,S (str q.1.2)),(8,.pv (.sl 1 (ts.map fun t=>[.v (.string (str t))]))),(9,I (ts.length:Int)),(10,I (q.1.1:Int))],[],[],[]⟩) (fun q=>ts.length-q.1.1) ⟨(0,[]),Nat.zero_le _,by simpa using hR⟩ ?_ ?_
 ·exact lwA
 rintro⟨⟨k,best⟩,hk,hd⟩;simp only at hk hd;by_cases hlt:k<ts.length
 ·have d1:(k:Int)<(ts.length:Int):=by omega
  obtain⟨t,et⟩:∃t,ts[k]?=some t:=⟨_,gE hlt⟩
  have hdr:ts.drop k=t::ts.drop (k+1):=by
   obtain⟨_,he⟩:=gJ et;rw[List.drop_eq_getElem_cons hlt,he]
  rw[hdr,z67]at hd;have w4:=wS k;have HP:=zed g l t hl;unfold B at HP;simp only[vW,seval,d1,et];refine z7 HP ?_;cases hp:t.isPrefixOf l
  ·rw[hp,if_neg (by simp)]at hd;simp only[vW,seval,w4];refine zc ⟨(k+1,best),hlt,hd⟩ (by show ts.length-(k+1)<ts.length-k;omega) ?_;exact lwA
  ·by_cases hb:best.length<t.length
   ·have d2:(best.length:Int)<(t.length:Int):=by omega
    rw[hp,if_pos ⟨rfl,hb⟩]at hd;simp only[vW,seval,w4,d2];refine zc ⟨(k+1,t),hlt,hd⟩ (by show ts.length-(k+1)<ts.length-k;omega) ?_;exact lwA
   ·have d2:¬(best.length:Int)<(t.length:Int):=by omega
    rw[hp,if_neg (fun h=>hb h.2)]at hd;simp only[vW,seval,w4,d2];refine zc ⟨(k+1,best),hlt,hd⟩ (by show ts.length-(k+1)<ts.length-k;omega) ?_;exact lwA
 ·have d1:¬(k:Int)<(ts.length:Int):=by omega
  rw[List.drop_eq_nil_of_le (by omega),z67]at hd;simp only[vW,seval,d1];rw[hd]
def z6I(r:Option (zB×Nat)):Option (Pc×Nat):=r.map fun x=>(⟨2,0,x.1,0⟩,x.2)
theorem by1(acc:zB)(c:UInt8):byR acc++[[.v (.int .u8 (c.toNat:Int))]]=byR (acc++[c]):=by simp[byR]
theorem readText_ok'(m:Nat)(b:UInt8)(r:zB)(hl:r.length<70368744177664):zC (gl0 m) 206 [S (str (b::r))] [] (p0T (z6I (quoG r [] 1))) []:=by
 refine za tf_103 ?_;generalize hR:quoG r [] 1=R;have hd0:(b::r).drop 1=r:=rfl;rw[←hd0]at hR;have hl1:1≤(b::r).length:=by simp
 have hll:(b::r).length<70368744177674:=by simp;omega
 generalize b::r=l at*;have hm:maxLen=9223372036854775807:=rfl;simp only[vW,seval];refine zw (σ:={ q:Nat×zB // q.1≤l.length∧q.2.length≤q.1∧quoG (l.drop q.1) q.2 q.1=R })
  (fun q=>⟨[(0,S (str l)),(2,.ptr 2 0),(4,.own 3000 1 (byR q.1.2)),(5,I (q.1.1:Int))],[(2,[I 0,I 0,S ⟨#[]⟩,I 0])],[(3000,(5,1,q.1.2.length))],[]⟩) (fun q=>l.length-q.1.1) ⟨(1,[]),hl1,by simp,hR⟩ ?_ ?_
 ·refine ES.Lw.trans ?_ (z6L (k:=4) (d:=3000) (e:=5) (W:=1) (.inr (by decide)) rfl);exact z0Y rfl
 rintro⟨⟨k,acc⟩,hk,ha,hd⟩;simp only at hk ha hd;by_cases hlt:k<l.length
 ·have d1:(k:Int)<(l.length:Int):=by omega
  obtain⟨c,ec⟩:∃c,l[k]?=some c:=⟨_,gE hlt⟩
  have hc:=c.toNat_lt;have w1:=wS k;have w2:IntKind.i64.wrap (((k+1:Nat):Int)+1)=((k+2:Nat):Int):=wG;have HT:=z7T m acc (by omega);unfold B at HT;by_cases c34:c.toNat=34
  ·obtain rfl:c=34:=UInt8.toNat_inj.1 c34;rw[z1M ec,zo7]at hd;simp only[vW,seval,byP,z49,z4a,z3J,z4p,d1,ec];(with_reducible apply z05);simp only[vW,seval,byP,z49,z4a,z3J,z4p];rfl;rfl;exact HT;exact km;simp only[vW,seval,byP,z49,z4a,z3J,z4p];rfl;cases hr:zh acc
   ·rw[hr,if_neg (by simp)]at hd;subst hd;simp only[vW,seval,byP,z49,z4a,z3J,z4p,p0T,z6I];all_goals(first|done|rfl)
   ·rw[hr,if_pos rfl]at hd;subst hd;simp only[vW,seval,byP,z49,z4a,z3J,z4p,p0T,z6I,w1];all_goals(first|done|rfl)
  have d34:¬(c.toNat:Int)=34:=by omega
  have n34:c≠34:=fun h=>c34 (by rw[h];rfl);by_cases c92:c.toNat=92
  ·obtain rfl:c=92:=UInt8.toNat_inj.1 c92;rw[z1M ec]at hd;by_cases hend:k+1=l.length
   ·rw[List.drop_eq_nil_of_le (by omega)]at hd;have hd:none=R:=by rw[←hd,quoG.eq_def];rfl
    subst hd;have d5:((k+1:Nat):Int)=(l.length:Int):=by omega
    simp only[vW,seval,byP,z49,z4a,z3J,z4p,d1,ec,w1,d5,p0T,z6I];all_goals(first|done|rfl)
   have d5:¬((k+1:Nat):Int)=(l.length:Int):=by omega
   obtain⟨c2,ec2⟩:∃c,l[k+1]?=some c:=⟨_,gE (by omega)⟩
   have hc2:=c2.toNat_lt;rw[z1M ec2,zo8]at hd;by_cases g34:c2.toNat=34
   ·have h2:c2=34∨c2=92:=.inl (UInt8.toNat_inj.1 g34);rw[if_pos h2]at hd;have d6:(c2.toNat:Int)=34:=by omega
    simp only[vW,seval,byP,z49,z4a,z3J,z4p,d1,ec,w1,w2,d5,ec2,d6,by1];refine⟨⟨by omega,by omega⟩,zc ⟨(k+2,acc++[c2]),by show k+2≤l.length;omega,by show(acc++[c2]).length≤k+2;simp;omega,hd⟩ (by show l.length-(k+2)<l.length-k;omega) ?_⟩;apply z06<;>simp[leL,lk,sv,Nat.beq,I,S,ES.kill,has,drp,zK,by1]
    rw[←by1,d6]
   ·have d6:¬(c2.toNat:Int)=34:=by omega
    by_cases g92:c2.toNat=92
    ·have h2:c2=34∨c2=92:=.inr (UInt8.toNat_inj.1 g92);rw[if_pos h2]at hd;have d7:(c2.toNat:Int)=92:=by omega
     simp only[vW,seval,byP,z49,z4a,z3J,z4p,d1,ec,w1,w2,d5,ec2,d6,d7,by1];refine⟨⟨by omega,by omega⟩,zc ⟨(k+2,acc++[c2]),by show k+2≤l.length;omega,by show(acc++[c2]).length≤k+2;simp;omega,hd⟩ (by show l.length-(k+2)<l.length-k;omega) ?_⟩;apply z06<;>simp[leL,lk,sv,Nat.beq,I,S,ES.kill,has,drp,zK,by1]
     rw[←by1,d7]
    ·have d7:¬(c2.toNat:Int)=92:=by omega
     have h2:¬(c2=34∨c2=92):=by rintro(rfl|rfl)<;>simp at g34 g92
     rw[if_neg h2]at hd;subst hd;simp only[vW,seval,byP,z49,z4a,z3J,z4p,d1,ec,w1,d5,ec2,d6,d7,p0T,z6I];all_goals(first|done|rfl)
  ·have d92:¬(c.toNat:Int)=92:=by omega
   have n92:c≠92:=fun h=>c92 (by rw[h];rfl);rw[z1M ec,zpM n34 n92]at hd;simp only[vW,seval,byP,z49,z4a,z3J,z4p,d1,ec,w1,d34,d92,by1];refine⟨⟨by omega,by omega⟩,zc ⟨(k+1,acc++[c]),by show k+1≤l.length;omega,by show(acc++[c]).length≤k+1;simp;omega,hd⟩ (by show l.length-(k+1)<l.length-k;omega) ?_⟩;apply z06<;>simp[leL,lk,sv,Nat.beq,I,S,ES.kill,has,drp,zK,by1]
 ·have d1:¬(k:Int)<(l.length:Int):=by omega
  rw[List.drop_eq_nil_of_le (by omega)]at hd;have hd:none=R:=by rw[←hd,quoG.eq_def]
  subst hd;simp only[vW,seval,byP,z49,z4a,z3J,z4p,d1,p0T,z6I];all_goals(first|done|rfl)
def zeX:List (zB):=[[61],[60,62],[60],[60,61],[62],[62,61],[38],[43],[45],[42],[47],[37],[40],[41],[44]]
theorem zhH(b:UInt8)(r:zB):z67 (b::r) zeX []=z0Z (b::r):=by
 have h2:∀x y:UInt8,[x,y].isPrefixOf (b::r)=(x==b&&decide (r.head?=some y)):=by
  intro x y;cases r with
  |nil=>simp[List.isPrefixOf]
  |cons c r=>rw[Bool.eq_iff_iff];simp[List.isPrefixOf];exact fun _=>eq_comm
 have h1:∀x:UInt8,[x].isPrefixOf (b::r)=(x==b):=by intro x;simp[List.isPrefixOf]
 unfold zeX z0Z;simp only[z67,h1,h2];by_cases e60:b=60
 ·subst e60;by_cases g62:r.head?=some 62
  ·have g61:¬r.head?=some 61:=by rw[g62];decide
   simp[g62]
  ·by_cases g61:r.head?=some 61
   ·simp[g61]
   ·simp[g61,g62]
 by_cases e62:b=62
 ·subst e62;by_cases g61:r.head?=some 61
  ·simp[g61]
  ·simp[g61]
 have n:∀x:UInt8,(x==b)=decide (b=x):=fun x=>by rw[Bool.eq_iff_iff];simp;exact eq_comm
 simp only[n];by_cases e1:b=61;· subst e1;simp
 by_cases e2:b=38;· subst e2;simp
 by_cases e3:b=43;· subst e3;simp
 by_cases e4:b=45;· subst e4;simp
 by_cases e5:b=42;· subst e5;simp
 by_cases e6:b=47;· subst e6;simp
 by_cases e7:b=37;· subst e7;simp
 by_cases e8:b=40;· subst e8;simp
 by_cases e9:b=41;· subst e9;simp
 by_cases e10:b=44;· subst e10;simp
 simp[e1,e2,e3,e4,e5,e6,e7,e8,e9,e10,e60,e62]
theorem zob(m:Nat)(b:UInt8)(r:zB)(hl:r.length<70368744177664):zC (gl0 m) 130 [S (str (b::r))] [] (p0T (z0b (b::r) 0)) []:=by
 have HN:=zd7 (gl0 m) (b::r) (by simp;omega);have HM:=zfL (gl0 m) (b::r) (by simp;omega);have HT:=readText_ok' m b r hl;have HL:=zhI (gl0 m) (b::r) zeX (by simp;omega) (by decide);rw[zhH]at HL;have hb0:(b::r)[0]?=some b:=rfl;have hbn:=b.toNat_lt;refine za tf_100 ?_;unfold z0b;simp only;unfold zlW at HN;unfold zhJ at HM;generalize hL:b::r=l at*;have g0:0<l.length:=by rw[←hL];simp
 have e0:=bS [];have hsg:∀t:zB,(t==([]:zB))=decide (t=[]):=fun t=>by rw[Bool.eq_iff_iff];simp
 by_cases q1:48≤b.toNat
 ·have d1:(48:Int)≤(b.toNat:Int):=by omega
  by_cases q2:b.toNat≤57
  ·have d2:(b.toNat:Int)≤57:=by omega
   rw[if_pos (by unfold z1v;simp[q1,q2])];by_cases hn:1000000000000000<(z15 l 0 0).1
   ·rw[if_pos hn]at HN ⊢;unfold p0T at*;simp only[vW,seval,hb0,d1,d2];exact zd HN
   ·rw[if_neg hn]at HN ⊢;unfold p0T at*;simp only[vW,seval,hb0,d1,d2];exact zd HN
  ·have d2:¬(b.toNat:Int)≤57:=by omega
   rw[if_neg (by unfold z1v;simp[q2])];by_cases q3:97≤b.toNat∧b.toNat≤122
   ·have d3:(97:Int)≤(b.toNat:Int):=by omega
    have d4:(b.toNat:Int)≤122:=by omega
    rw[if_pos (by unfold small;simp[q3])];cases hr:zb (l.take (z0G l))
    ·rw[hr]at HM;simp only[Bool.false_eq_true,if_false]at HM ⊢;unfold p0T at*;simp only[vW,seval,hb0,d1,d2,d3,d4];exact zd HM
    ·rw[hr]at HM;simp only[if_true]at HM ⊢;unfold p0T at*;simp only[vW,seval,hb0,d1,d2,d3,d4];exact zd HM
   rw[if_neg (by unfold small;simp;omega)];by_cases c34:b=34
   ·subst c34;have d5:((34:UInt8).toNat:Int)=34:=rfl;have d3:¬(97:Int)≤((34:UInt8).toNat:Int):=by decide
    rw[if_pos rfl];cases hq:quoG r [] 1 with
    |none=>
     rw[hq]at HT;simp only[z6I,Option.map_none]at HT ⊢;unfold p0T at*;simp only[vW,seval,hb0,d1,d2,d3,d5];exact zd HT
    |some x=>
     obtain⟨t,k⟩:=x;rw[hq]at HT;simp only[z6I,Option.map_some]at HT ⊢;unfold p0T at*;simp only[vW,seval,hb0,d1,d2,d3,d5];exact zd HT
   rw[if_neg c34];have n34:¬(b.toNat:Int)=34:=fun h=>c34 (UInt8.toNat_inj.1 (by show b.toNat=34;omega));by_cases q4:97≤b.toNat
   ·have d3:(97:Int)≤(b.toNat:Int):=by omega
    have d4:¬(b.toNat:Int)≤122:=by omega
    by_cases hsn:z0Z l=[]
    ·rw[if_pos hsn];rw[hsn]at HL;unfold p0T;simp only[vW,seval,hb0,d1,d2,d3,d4,n34];refine z7 HL ?_;simp only[vW,seval,e0,hsg]
    ·rw[if_neg hsn];unfold p0T;simp only[vW,seval,hb0,d1,d2,d3,d4,n34];refine z7 HL ?_;simp only[vW,seval,e0,hsg,hsn]
   ·have d3:¬(97:Int)≤(b.toNat:Int):=by omega
    by_cases hsn:z0Z l=[]
    ·rw[if_pos hsn];rw[hsn]at HL;unfold p0T;simp only[vW,seval,hb0,d1,d2,d3,n34];refine z7 HL ?_;simp only[vW,seval,e0,hsg]
    ·rw[if_neg hsn];unfold p0T;simp only[vW,seval,hb0,d1,d2,d3,n34];refine z7 HL ?_;simp only[vW,seval,e0,hsg,hsn]
 ·have d1:¬(48:Int)≤(b.toNat:Int):=by omega
  rw[if_neg (by unfold z1v;simp[q1])];by_cases q3:97≤b.toNat∧b.toNat≤122
  ·have d3:(97:Int)≤(b.toNat:Int):=by omega
   have d4:(b.toNat:Int)≤122:=by omega
   rw[if_pos (by unfold small;simp[q3])];cases hr:zb (l.take (z0G l))
   ·rw[hr]at HM;simp only[Bool.false_eq_true,if_false]at HM ⊢;unfold p0T at*;simp only[vW,seval,hb0,d1,d3,d4];exact zd HM
   ·rw[hr]at HM;simp only[if_true]at HM ⊢;unfold p0T at*;simp only[vW,seval,hb0,d1,d3,d4];exact zd HM
  rw[if_neg (by unfold small;simp;omega)];by_cases c34:b=34
  ·subst c34;have d5:((34:UInt8).toNat:Int)=34:=rfl;have d3:¬(97:Int)≤((34:UInt8).toNat:Int):=by decide
   rw[if_pos rfl];cases hq:quoG r [] 1 with
   |none=>
    rw[hq]at HT;simp only[z6I,Option.map_none]at HT ⊢;unfold p0T at*;simp only[vW,seval,hb0,d1,d3,d5];exact zd HT
   |some x=>
    obtain⟨t,k⟩:=x;rw[hq]at HT;simp only[z6I,Option.map_some]at HT ⊢;unfold p0T at*;simp only[vW,seval,hb0,d1,d3,d5];exact zd HT
  rw[if_neg c34];have n34:¬(b.toNat:Int)=34:=fun h=>c34 (UInt8.toNat_inj.1 (by show b.toNat=34;omega));by_cases q4:97≤b.toNat
  ·have d3:(97:Int)≤(b.toNat:Int):=by omega
   have d4:¬(b.toNat:Int)≤122:=by omega
   by_cases hsn:z0Z l=[]
   ·rw[if_pos hsn];rw[hsn]at HL;unfold p0T;simp only[vW,seval,hb0,d1,d3,d4,n34];refine z7 HL ?_;simp only[vW,seval,e0,hsg]
   ·rw[if_neg hsn];unfold p0T;simp only[vW,seval,hb0,d1,d3,d4,n34];refine z7 HL ?_;simp only[vW,seval,e0,hsg,hsn]
  ·have d3:¬(97:Int)≤(b.toNat:Int):=by omega
   by_cases hsn:z0Z l=[]
   ·rw[if_pos hsn];rw[hsn]at HL;unfold p0T;simp only[vW,seval,hb0,d1,d3,n34];refine z7 HL ?_;simp only[vW,seval,e0,hsg]
   ·rw[if_neg hsn];unfold p0T;simp only[vW,seval,hb0,d1,d3,n34];refine z7 HL ?_;simp only[vW,seval,e0,hsg,hsn]
end Go.Proofs.YtcpaleaajdilgaaGreatDoor
end

section
namespace Go.Mor
open Go
theorem zeu:∀(l:zB) (n:Int) (z:Nat),z≤(z15 l n z).2∧(z15 l n z).2≤z+l.length
 |[],n,z=>by simp[z15]
 |b::r,n,z=>by
  unfold z15;split
  ·have:=zeu r (min (10*n+((b.toNat:Int) - 48)) 1000000000000001) (z+1)
   grind
  ·simp
theorem zcD:∀(l:zB),z0G l≤l.length
 |[]=>by simp[z0G]
 |b::r=>by
  unfold z0G;split
  ·have:=zcD r;simp;omega
  ·omega
theorem zat:∀(l acc:zB) (k:Nat) (t:zB) (z:Nat),quoG l acc k=some (t,z)→k≤z∧z≤k+l.length
 |[],acc,k,t,z,h=>by simp[quoG]at h
 |b::r,acc,k,t,z,h=>by
  unfold quoG at h;split at h
  ·grind
  ·split at h
   ·split at h
    ·cases h
    ·rename_i c r';split at h
     ·have:=zat r' _ _ _ _ h;simp;omega
     ·cases h
   ·have:=zat r _ _ _ _ h;simp;omega
theorem zkq(l:zB):(z0Z l).length≤l.length:=by
 cases l with
 |nil=>simp[z0Z]
 |cons b r=>
  unfold z0Z;cases r<;>grind
theorem z6e{b:UInt8}{r:zB}{p:Nat}{q:Pc}{z:Nat}(h:z0b (b::r) p=some (q,z)):1≤z∧z≤(b::r).length∧q.k≠0∧q.p=p:=by
 unfold z0b at h;simp at h;split at h
 ·grind [z15,zeu]
 ·split at h
  ·grind [zcD,z0G,zI]
  ·split at h
   ·split at h
    ·rename_i t k hq;have:=zat _ _ _ _ _ hq
     grind
    ·cases h
   ·grind [zkq,z0Z]
theorem zmb(l:zB)(p:Nat):z0b l p=(z0b l 0).map fun x=>(⟨x.1.k,x.1.n,x.1.s,p⟩,x.2):=by
 cases l with
 |nil=>rfl
 |cons b r=>
  unfold z0b
  repeat' split
  all_goals first|rfl|simp_all
end Go.Mor
end

section
namespace Go.Proofs.YtcpaleaajdilgaaGreatDoor
open Go Go.RowKit Go.Mor Go.Sh Go.Sh.Cd1 Go.Sh.Cd5
section
def iH:Nat→Option Nat→Nat:=z62 [(26,0),(33,1)]
def iF:Nat→List (Nat→Option Nat):=fpT []
def iK:Nat→List Nat:=z5l [(1,[6,7,8,9,10,11,12,13,14]),(2,[15,16,17]),(3,[18,19,20]),(4,[21,22,23,24,25,26,27,28]),(5,[29,30]),(6,[4,31,32,33,34,35,36,37]),(7,[5,38,39,40,41])]
def c7o:List SOper:=[⟨some 31,none,none,.mov (.tmp 0)⟩,⟨some 32,none,none,.ld true 4 (.tmp 4)⟩,⟨some 33,none,none,.callv (.tmp 31) 1 [.tmp 32]⟩,⟨some 34,none,none,.un .not (.tmp 33)⟩,⟨some 35,none,none,.mov (.tmp 34)⟩,⟨some 36,some (35,false),none,.mov (.tmp 5)⟩,⟨some 37,some (35,false),none,.bin .eql 3 (.tmp 36) (.val (.int .i64 0))⟩,⟨some 38,none,none,.pick (.tmp 35) (.val (.bool true)) (.tmp 37)⟩]
theorem zlc:∃c0 cA cB cC cD id ops cE cF,Tryz.f129.body=some (.seq c0 (.block 0 (.loop (.block 1 (.seq cA (.seq cB (.seq cC (.seq cD (.seq (.seq (.region id ops false) cE) cF)))))))))
  ∧ze Tryz.prog 42 iH iF iK c0=some c_expr_pieces_1_0∧ze Tryz.prog 42 iH iF iK cA=some (.block 2 (.loop c_expr_pieces_1_3))∧ze Tryz.prog 42 iH iF iK cB=some (.seq c_expr_pieces_1_4 (.cond (.tmp 21) .ret .skip))
  ∧(∃sc,ze Tryz.prog 42 iH iF iK cC=some sc∧sc=c_expr_pieces_1_5)∧ze Tryz.prog 42 iH iF iK cD=some c_expr_pieces_1_6
  ∧(z0o Tryz.prog 42 (iH 6) (fun _=>none) ops false=some c7o∧∃o aT,ops[2]?=some o∧o.guard=none∧o.dst=some 33∧o.op=Op.call { callee:=.value (.tmp 31),args:= #[.tmp 32],argTypes:=aT })∧ze Tryz.prog 42 iH iF iK cE=some (.cond (.tmp 38) .ret .skip)∧ze Tryz.prog 42 iH iF iK cF=some c_expr_pieces_1_8:=by
 refine⟨_,_,_,_,_,_,_,_,_,rfl,?_,?_,?_,⟨_,?_,rfl⟩,?_,⟨?_,_,_,rfl,rfl,rfl,rfl⟩,?_,?_⟩
 ·kernel_rfl
 ·kernel_rfl
 ·kernel_rfl
 ·kernel_rfl
 ·kernel_rfl
 ·kernel_rfl
 ·kernel_rfl
 ·kernel_rfl
def zdY(q:Pc):Array Value:= #[.agg #[.int .i64 q.k,.int .i64 q.n,.string (str q.s),.int .i64 (q.p:Int)]]
section
variable(g:Sh.Glob)(s:zB)(O:List Nat)(β:Nat)(J:List Pc→World→Prop)(R:Lx)
structure PW(b off:Nat)(pre:List Pc)(W:World):Prop where
 cell:W.cell? ⟨b,off,none⟩=some (.string (str s))
 nO:b∉O
 nrb:¬z3z β W b
 rlt:∀j,z3z β W j→j<W.heap.size
 Olt:∀x∈O,x<W.heap.size
 βO:β∈O
 G:g.G W
 j:J pre W
structure PI(fv:Value)(k:Nat)(pre:List Pc)(a:Act)(W:World):Prop where
 size:a.tmps.size=42
 defs:a.defers=[]
 t0:a.tmps.getD 0 undef=fv
 t3:a.tmps.getD 3 undef=.int .i64 (k:Int)
 w:∃b off,a.tmps.getD 1 undef=.pointer (some ⟨b,off,none⟩)∧PW g s O β J b off pre W
 lex:∃f,z0w f (s.drop k) k pre=some R
 le:k≤s.length
 pk:pre.length≤k
variable{g s O β J R}
def elS(s:zB):TV:=.pv (.el [.v (.string (str s))])
theorem PW.grown{b off:Nat}{pre:List Pc}{W W':World}(hJ:∀pre W W',J pre W→W.grownBy W' none→J pre W')(h:PW g s O β J b off pre W)(hg:W.grownBy W' none):PW g s O β J b off pre W':=by
 have hs:∀k,k<W.heap.size→W'.heap[k]?=W.heap[k]?:=fun k hk=>hg.block k hk (by simp);have hb:b<W.heap.size:=by
  obtain⟨o,ho,_⟩:=z29 h.cell;exact(gA ho).1
 have hβ:=h.Olt β h.βO;have hr:=fun k=>z3e (β:=β) (hs β hβ) k;have hn:=g.le _ h.G;exact⟨(World.cell?_of_block (w:=W) (a:=⟨b,off,none⟩) (hs b hb)).trans h.cell,h.nO,fun h1=>h.nrb ((hr _).1 h1),fun j hj=>Nat.lt_of_lt_of_le (h.rlt j ((hr _).1 hj)) hg.size,fun x hx=>Nat.lt_of_lt_of_le (h.Olt x hx) hg.size,h.βO,g.st _ _ h.G (fun k hk=>hs k (by omega)),hJ _ _ _ h.j hg⟩
theorem PW.moved{b off b' off':Nat}{pre:List Pc}{W W':World}(hJ:∀pre W W',J pre W→W.grownBy W' none→J pre W')(h:PW g s O β J b off pre W)(hg:W.grownBy W' none)(hc:W'.cell? ⟨b',off',none⟩=some (.string (str s)))(hb:(b'=b∧off'=off)∨W.heap.size≤b'):PW g s O β J b' off' pre W':=by
 have h1:=h.grown hJ hg;rcases hb with⟨rfl,rfl⟩|hb
 ·exact h1
 have hβ:=h.Olt β h.βO;refine⟨hc,fun hx=> ?_,fun hx=> ?_,h1.rlt,h1.Olt,h1.βO,h1.G,h1.j⟩
 ·have:=h.Olt _ hx;omega
 ·have:=h.rlt _ ((z3e (hg.block β hβ (by simp)) b').1 hx);omega
theorem PW.kept{b off:Nat}{pre pre':List Pc}{W W':World}(h:PW g s O β J b off pre W)(hk:Kp O β g.n W W')(hj:J pre' W'):PW g s O β J b off pre' W':=by
 obtain⟨o,ho,hc⟩:=z29 h.cell;have hb:=(gA ho).1;have hs:=(hk.same b o ho hc h.nO h.nrb).trans ho.symm;refine⟨(World.cell?_of_block (w:=W) (a:=⟨b,off,none⟩) hs).trans h.cell,h.nO,fun h1=> ?_,hk.lt h.rlt,fun x hx=>Nat.lt_of_lt_of_le (h.Olt x hx) hk.size,h.βO,g.st _ _ h.G hk.glob,hj⟩;rcases hk.rb b h1 with h2|h2
 ·exact h.nrb h2
 ·omega
theorem PW.el{b off:Nat}{pre:List Pc}{W:World}{K:Nat→Nat→Prop}(h:PW g s O β J b off pre W)(hK:K b off):RelT W (EK K) (fun _=>none) (elS s) (.pointer (some ⟨b,off,none⟩)):=by
 refine .pv (.el _ b off (fun _=> .string (str s)) (fun j c hj=> ?_) (fun j c hj=> ?_))
 ·match j,hj with
  |0,_=>exact⟨hK,h.cell,rfl⟩
  |j+1,hj=>simp at hj
 ·match j,hj with
  |0,hj=>cases hj;exact .v _
  |j+1,hj=>simp at hj
theorem zp2{W:World}{E:Env}{r:Sh.Rows}{v:Value}(h:RelT W E r (elS s) v):∃b off,v=.pointer (some ⟨b,off,none⟩)∧E.K b off∧W.cell? ⟨b,off,none⟩=some (.string (str s)):=by
 cases h with
 |pv h=>
  cases h with
  |el _ b off f hc hs=>
   obtain⟨h1,h2,_⟩:=hc 0 _ rfl;have h3:=hs 0 _ rfl;generalize f 0=u at h2 h3;cases h3;exact⟨b,off,rfl,h1,h2⟩
variable{fv:Value}
abbrev sI(s:zB)(fv:Value)(k:Nat):ES:=⟨[(0,.pv (.v fv)),(1,elS s),(3,I (k:Int))],[],[],[]⟩
theorem PI.sim{k:Nat}{pre:List Pc}{a:Act}{W:World}(h:PI g s O β J R fv k pre a W):∃b off,PW g s O β J b off pre W∧Sim (Sh.start W (EK fun j o=>j=b∧o=off) [] 42) (sI s fv k).fs a W (EK fun j o=>j=b∧o=off):=by
 obtain⟨b,off,h1,hw⟩:=h.w;refine⟨b,off,hw,zio (fun j o hj=> ?_) h.size h.defs _ (fun j x hx=> ?_)⟩
 ·obtain⟨o',ho,_⟩:=z29 hw.cell;rw[hj.1];exact(gA ho).1
 ·simp only[List.mem_cons,List.not_mem_nil,or_false,Prod.mk.injEq]at hx;rcases hx with⟨rfl,rfl⟩|⟨rfl,rfl⟩|⟨rfl,rfl⟩
  ·rw[h.t0];exact⟨by decide,.pv (.v _)⟩
  ·rw[h1];exact⟨by decide,hw.el ⟨rfl,rfl⟩⟩
  ·rw[h.t3];exact⟨by decide,.pv (.v _)⟩
theorem PW.back(hJ:∀pre W W',J pre W→W.grownBy W' none→J pre W'){b off:Nat}{pre:List Pc}{W W':World}(hw:PW g s O β J b off pre W){s':FS}{a':Act}{E':Env}(hS:Sim (Sh.start W (EK fun j o=>j=b∧o=off) [] 42) s' a' W' E')(h1:s'.t 1=some (elS s)):
  ∃b' off',a'.tmps.getD 1 undef=.pointer (some ⟨b',off',none⟩)∧PW g s O β J b' off' pre W':=by
 have hg:=z4x hS;obtain⟨b',off',e1,e2,e3⟩:=zp2 (hS.tmp 1 _ h1).2;refine⟨b',off',e1,hw.moved hJ hg e3 ?_⟩;rcases hS.mem.knew _ _ e2 with h2|h2|⟨d,h2⟩
 ·exact .inl h2
 ·exact .inr h2
 ·exact absurd (z3H (n:=b'+1) d b' h2) (by omega)
theorem z0O{W:World}{E:Env}{r:Sh.Rows}{x v:Value}(h:RelT W E r (.pv (.v x)) v):v=x:=by
 cases h with|pv h=>cases h;rfl
theorem PI.back(hJ:∀pre W W',J pre W→W.grownBy W' none→J pre W'){b off k':Nat}{pre:List Pc}{W W':World}(hw:PW g s O β J b off pre W){s':FS}{a':Act}{E':Env}(hS:Sim (Sh.start W (EK fun j o=>j=b∧o=off) [] 42) s' a' W' E')(h0:s'.t 0=some (.pv (.v fv)))(h1:s'.t 1=some (elS s))(h3:s'.t 3=some (I (k':Int)))
  (hx:∃f,z0w f (s.drop k') k' pre=some R) (hle:k'≤s.length) (hpk:pre.length≤k'):PI g s O β J R fv k' pre a' W':=
 ⟨hS.size,hS.defers,z0O (hS.tmp 0 _ h0).2,z0O (hS.tmp 3 _ h3).2,hw.back hJ hS h1,hx,hle,hpk⟩
theorem zqB(g:Sh.Glob)(hs:s.length<70368744177664)(k:Nat)(hk:k≤s.length){pre:List Pc}(hx:∃f,z0w f (s.drop k) k pre=some R):
  swp Tryz.prog g (.block 2 (.loop c_expr_pieces_1_3)) (fun e s'=>e=.normal∧∃k',k≤k'∧k'≤s.length∧(∃f,z0w f (s.drop k') k' pre=some R)∧(∀x,s[k']?=some x→x≠32)∧lk s'.t 0=some (.pv (.v fv))∧lk s'.t 1=some (elS s)∧lk s'.t 3=some (I (k':Int))) (sI s fv k):=by
 unfold sI elS;simp only[vW,seval];refine zw (σ:={z:Nat // k≤z∧z≤s.length∧∃f,z0w f (s.drop z) z pre=some R}) (fun z=>sI s fv z.1) (fun z=>s.length-z.1) ⟨k,Nat.le_refl _,hk,hx⟩ ?_ ?_
 ·unfold sI elS;exact lwA
 rintro⟨z,hz,hzl,f,hf⟩;unfold sI elS;by_cases hlt:z<s.length
 ·have d1:(z:Int)<(s.length:Int):=by omega
  obtain⟨x,ex⟩:∃x,s[z]?=some x:=⟨_,gE hlt⟩
  have w1:=wS z;simp only[vW,seval,d1,ex,w1];have hdr:s.drop z=x::s.drop (z+1):=by rw[List.drop_eq_getElem_cons hlt];congr 1;exact(gJ ex).2
  refine⟨fun h=> ?_,fun h=>⟨z,hz,hzl,⟨f,hf⟩,fun y ey he=> ?_,rfl⟩⟩
  ·have hx32:x=32:=UInt8.toNat_inj.1 (by show x.toNat=32;omega);rw[hdr]at hf;cases f with
   |zero=>simp[z0w]at hf
   |succ f=>
    simp only[z0w,hx32,if_true]at hf;refine zc ⟨z+1,by omega,by omega,f,hf⟩ (by show s.length-(z+1)<s.length-z;omega) ?_;exact lwA
  ·rw[ex]at ey;cases ey;subst he;exact h rfl
 ·have d1:¬(z:Int)<(s.length:Int):=by omega
  simp only[vW,seval,d1];exact⟨z,hz,hzl,⟨f,hf⟩,fun y ey=>absurd (gJ ey).1 hlt,rfl⟩
theorem zqC(g:Sh.Glob)(k:Nat)(hk:k≤s.length):
  swp Tryz.prog g (.seq c_expr_pieces_1_4 (.cond (.tmp 21) .ret .skip)) (fun e s'=>(e=.ret∧k=s.length)∨(e=.normal∧k<s.length∧lk s'.t 0=some (.pv (.v fv))∧lk s'.t 1=some (elS s)∧lk s'.t 3=some (I (k:Int)))) (sI s fv k):=by
 unfold sI elS;by_cases h:k=s.length
 ·have d1:(k:Int)=(s.length:Int):=by omega
  simp only[vW,seval,d1];exact h
 ·have d1:¬(k:Int)=(s.length:Int):=by omega
  simp only[vW,seval,d1];omega
def z7v(r:Option (Pc×Nat))(k:Nat):Pc×Nat:=match r with
 |some (q,z)=>(q,z)
 |none=>(⟨0,0,[],k⟩,0)
theorem zpF(l:zB)(k:Nat):p0T (z0b l 0)=.tuple [.agg [I (z7v (z0b l k) k).1.k,I (z7v (z0b l k) k).1.n,S (str (z7v (z0b l k) k).1.s),I 0],I ((z7v (z0b l k) k).2:Int)]:=by
 rw[zmb l k];cases h:z0b l 0 with
 |none=>rfl
 |some x=>
  obtain⟨q,z⟩:=x;have hq:q.p=0:=by
   cases l with
   |nil=>simp[z0b]at h
   |cons b r=>exact(z6e h).2.2.2
  simp[p0T,z7v,Option.map]
theorem zpG(b:UInt8)(r:zB)(k:Nat):(z7v (z0b (b::r) k) k).1.p=k:=by
 cases h:z0b (b::r) k with
 |none=>rfl
 |some x=>obtain⟨q,z⟩:=x;exact(z6e h).2.2.2
abbrev sC(s:zB)(fv:Value)(k:Nat)(q:Pc)(z:Nat)(p:Nat):ES:=⟨[(0,.pv (.v fv)),(1,elS s),(3,I (k:Int)),(4,.ptr 4 0),(5,I (z:Int))],[(4,[I q.k,I q.n,S (str q.s),I (p:Int)])],[],[]⟩
theorem zqD(m:Nat)(hs:s.length<70368744177664)(k:Nat){b:UInt8}{r:zB}(hd:s.drop k=b::r):
  swp Tryz.prog (gl0 m) c_expr_pieces_1_5 (fun e s'=>e=.normal∧s'=sC s fv k (z7v (z0b (b::r) k) k).1 (z7v (z0b (b::r) k) k).2 0) (sI s fv k):=by
 have hlen:k<s.length:=by
  rcases Nat.lt_or_ge k s.length with h|h
  ·exact h
  ·rw[List.drop_eq_nil_of_le h]at hd;cases hd
 have hr:r.length<70368744177664:=by have:=congrArg List.length hd;rw[List.length_drop,List.length_cons]at this;omega
 have HR:=zob m b r hr;rw[zpF _ k,←hd]at HR;rw[←hd];unfold sC sI elS;have ht:List.take (s.length-k) (s.drop k)=s.drop k:=List.take_of_length_le (by rw[List.length_drop];exact Nat.le_refl _);simp only[vW,seval,ht];refine⟨by omega,?_⟩;exact zd HR
theorem zqE(g:Sh.Glob)(k:Nat)(q:Pc)(z:Nat):swp Tryz.prog g c_expr_pieces_1_6 (fun e s'=>e=.normal∧s'=sC s fv k q z k) (sC s fv k q z 0):=by
 unfold sC elS;simp only[vW,seval]
abbrev sE(s:zB)(fv:Value)(k:Nat)(q:Pc)(z:Nat):ES:=⟨[(0,.pv (.v fv)),(1,elS s),(3,I (k:Int)),(4,.ptr 4 0),(5,I (z:Int)),(31,.pv (.v fv)),(32,.agg [I q.k,I q.n,S (str q.s),I (k:Int)])],[(4,[I q.k,I q.n,S (str q.s),I (k:Int)])],[],[]⟩
theorem zqF(g:Sh.Glob)(k:Nat)(q:Pc)(z:Nat):zR Tryz.prog g (c7o.take 2) (fun s'=>s'=sE s fv k q z) ((sC s fv k q z k).fgt [2132,2133,2134,2135]):=by
 unfold sC sE elS c7o;simp only[vW,seval]
abbrev sF(fv:Value)(v1:Value)(k z:Nat)(t:Bool):ES:=⟨[(0,.pv (.v fv)),(1,.pv (.v v1)),(3,I (k:Int)),(5,I (z:Int)),(33,B t)],[],[],[]⟩
theorem zqG(g:Sh.Glob)(v1:Value)(k z:Nat)(t:Bool):zR Tryz.prog g (c7o.drop 3) (fun s'=>lk s'.t 0=some (.pv (.v fv))∧lk s'.t 1=some (.pv (.v v1))∧lk s'.t 3=some (I (k:Int))∧lk s'.t 5=some (I (z:Int))∧lk s'.t 38=some (B (!t||z==0))) ((sF fv v1 k z t).fgt [2132,2133,2134,2135]):=by
 unfold sF c7o B;cases t
 ·simp only[vW,seval];rfl
 ·by_cases hz:z=0
  ·have d1:(z:Int)=0:=by omega
   simp only[vW,seval,d1];subst hz;rfl
  ·have d1:¬(z:Int)=0:=by omega
   simp only[vW,seval,d1];rw[beq_eq_false_iff_ne.2 hz]
end
def SP(R:Lx)(xs:List Pc):Prop:=R=.ok xs∨∃a pre,R=.bad a∧xs=pre++[⟨0,0,[],a⟩]
def SpP(R:Lx)(xs:List Pc):Prop:=∃pre q,xs=pre++[q]∧(q.k≠0∨R=.bad q.p)
def kOf(a:Act):Nat:=match a.tmps.getD 3 undef with| .int _ k=>k.toNat|_=>0
theorem z1S{a:Act}{k j:Nat}{v:Value}(h:k≠j):(a.put (some j) v).tmps.getD k undef=a.tmps.getD k undef:=by
 show(a.tmps.setIfInBounds j v).getD k undef=_;rw[Array.getD_eq_getD_getElem?,Array.getElem?_setIfInBounds_ne (Ne.symm h),←Array.getD_eq_getD_getElem?]
theorem zas{a:Act}{j:Nat}{v:Value}(h:j<a.tmps.size):(a.put (some j) v).tmps.getD j undef=v:=by
 show(a.tmps.setIfInBounds j v).getD j undef=_;simp[Array.getD,h]
theorem zkT{W:World}{E:Env}{r:Sh.Rows}{x1 x2 x3 x4 v:Value}(h:RelT W E r (.agg [.pv (.v x1),.pv (.v x2),.pv (.v x3),.pv (.v x4)]) v):v=.agg #[x1,x2,x3,x4]:=by
 cases h with
 |agg _ vs hl h ho=>
  match vs,hl with
  |[a,b,c,d],_=>
   rw[z0O (h 0 _ a rfl rfl),z0O (h 1 _ b rfl rfl),z0O (h 2 _ c rfl rfl),z0O (h 3 _ d rfl rfl)]
end
end Go.Proofs.YtcpaleaajdilgaaGreatDoor
end
