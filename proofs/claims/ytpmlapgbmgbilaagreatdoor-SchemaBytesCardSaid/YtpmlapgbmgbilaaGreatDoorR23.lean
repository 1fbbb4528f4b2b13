/- Merged texts: Ze6 Ze7 Px4 Ze8. No statement of the program is proved here. -/
import Derived.Test.YtpmlapgbmgbilaaGreatDoorR18
import Derived.Recover
set_option linter.unusedSimpArgs false
set_option linter.unusedVariables false
set_option maxRecDepth 100000
set_option maxHeartbeats 8000000
section
namespace Go.Proofs.YtpmlapgbmgbilaaGreatDoor
open Go Go.RowKit Go.Mor Go.Sh Go.Sh.Cd1 Go.Sh.Cd4 Go.Sh.Cd5
def zjj(l:zB):Option (Pc×Nat):=if zb (l.take (z0O l))then some (⟨3,0,l.take (z0O l),0⟩,z0O l)else none
theorem z7O:∀l:zB,z0O l≤l.length
 |[]=>Nat.le_refl _
 |b::r=>by
  rw[z0O];split
  ·have:=z7O r;simp;omega
  ·simp
theorem znZ(g:Sh.Glob)(l:zB)(z:Nat)(hz:z=z0O l)(hl:l.length<4611686018427387904):zC g 227 [S (str (l.take z))] [] (B (zb (l.take z))) []:=
 z8h g _ (by have:=z7O l;rw[List.length_take];omega)
theorem zh5(g:Sh.Glob)(l:zB)(hl:l.length<4611686018427387904):zC g 208 [S (str l)] [] (p0T (zjj l)) []:=by
 have hle:=z7O l;have HE:∀z,z=z0O l→zC g 227 [S (str (l.take z))] [] (B (zb (l.take z))) []:=fun z hz=>znZ g l z hz hl;unfold zjj;generalize hR:z0O l=R at*;refine z0u tf_104 ?_;refine zk (σ:={ z:Nat // z≤l.length∧z+z0O (l.drop z)=R })
  (fun q=>⟨[(0,S (str l)),(2,.ptr 2 0),(4,I (q.1:Int))],[(2,[I 0,I 0,S ⟨#[]⟩,I 0])],[],[]⟩) (fun q=>l.length-q.1) ⟨0,Nat.zero_le _,by simpa using hR⟩ ?_ ?_
 ·exact lwA
 rintro⟨z,hz,hd⟩;have w4:=wS z;by_cases hk:z<l.length
 ·have d1:(z:Int)<(l.length:Int):=by omega
  obtain⟨c,ec⟩:∃c,l[z]?=some c:=⟨_,gE hk⟩
  rw[z24 ec,z0O]at hd;have hc:=c.toNat_lt;have fin:zS c=true→z+1+z0O (l.drop (z+1))=R:=fun h=>by rw[h,if_pos rfl]at hd;omega
  by_cases q1:97≤c.toNat
  ·have d2:(97:Int)≤(c.toNat:Int):=by omega
   by_cases q2:c.toNat≤122
   ·have d3:(c.toNat:Int)≤122:=by omega
    have hn:zS c=true:=by unfold zS small;simp[q1,q2]
    simp only[vW,seval,d1,d2,d3,ec,w4];refine zc ⟨z+1,hk,fin hn⟩ (by show l.length-(z+1)<l.length-z;omega) ?_;exact lwA
   ·have d3:¬(c.toNat:Int)≤122:=by omega
    have d4:(48:Int)≤(c.toNat:Int):=by omega
    have d5:¬(c.toNat:Int)≤57:=by omega
    have d6:¬(c.toNat:Int)=95:=by omega
    have hn:zS c=false:=by unfold zS small;simp;omega
    rw[hn,if_neg (by simp),Nat.add_zero]at hd;subst hd;have HE:=HE z rfl;unfold B at HE;cases hr:zb (l.take z)
    ·rw[hr]at HE;simp only[vW,seval,d1,d2,d3,d4,d5,d6,ec];refine⟨⟨by omega,hz⟩,?_⟩;refine z7 HE ?_;simp only[vW,seval,p0T];all_goals(first|done|exact⟨by omega,hz⟩|rfl)
    ·rw[hr]at HE;simp only[vW,seval,d1,d2,d3,d4,d5,d6,ec];refine⟨⟨by omega,hz⟩,?_⟩;refine z7 HE ?_;simp only[vW,seval,p0T];all_goals(first|done|exact⟨by omega,hz⟩|rfl)
  ·have d2:¬(97:Int)≤(c.toNat:Int):=by omega
   by_cases q3:48≤c.toNat
   ·have d4:(48:Int)≤(c.toNat:Int):=by omega
    by_cases q4:c.toNat≤57
    ·have d5:(c.toNat:Int)≤57:=by omega
     have hn:zS c=true:=by unfold zS small;simp[q3,q4]
     simp only[vW,seval,d1,d2,d4,d5,ec,w4];refine zc ⟨z+1,hk,fin hn⟩ (by show l.length-(z+1)<l.length-z;omega) ?_;exact lwA
    ·have d5:¬(c.toNat:Int)≤57:=by omega
     by_cases q5:c.toNat=95
     ·have d6:(c.toNat:Int)=95:=by omega
      have hn:zS c=true:=by unfold zS small;simp[q5]
      simp only[vW,seval,d1,d2,d4,d5,d6,ec,w4];refine zc ⟨z+1,hk,fin hn⟩ (by show l.length-(z+1)<l.length-z;omega) ?_;exact lwA
     ·have d6:¬(c.toNat:Int)=95:=by omega
      have hn:zS c=false:=by unfold zS small;simp;omega
      rw[hn,if_neg (by simp),Nat.add_zero]at hd;subst hd;have HE:=HE z rfl;unfold B at HE;cases hr:zb (l.take z)
      ·rw[hr]at HE;simp only[vW,seval,d1,d2,d4,d5,d6,ec];refine⟨⟨by omega,hz⟩,?_⟩;refine z7 HE ?_;simp only[vW,seval,p0T];all_goals(first|done|exact⟨by omega,hz⟩|rfl)
      ·rw[hr]at HE;simp only[vW,seval,d1,d2,d4,d5,d6,ec];refine⟨⟨by omega,hz⟩,?_⟩;refine z7 HE ?_;simp only[vW,seval,p0T];all_goals(first|done|exact⟨by omega,hz⟩|rfl)
   ·have d4:¬(48:Int)≤(c.toNat:Int):=by omega
    have d6:¬(c.toNat:Int)=95:=by omega
    have hn:zS c=false:=by unfold zS small;simp;omega
    rw[hn,if_neg (by simp),Nat.add_zero]at hd;subst hd;have HE:=HE z rfl;unfold B at HE;cases hr:zb (l.take z)
    ·rw[hr]at HE;simp only[vW,seval,d1,d2,d4,d6,ec];refine⟨⟨by omega,hz⟩,?_⟩;refine z7 HE ?_;simp only[vW,seval,p0T];all_goals(first|done|exact⟨by omega,hz⟩|rfl)
    ·rw[hr]at HE;simp only[vW,seval,d1,d2,d4,d6,ec];refine⟨⟨by omega,hz⟩,?_⟩;refine z7 HE ?_;simp only[vW,seval,p0T];all_goals(first|done|exact⟨by omega,hz⟩|rfl)
 ·have d1:¬(z:Int)<(l.length:Int):=by omega
  rw[List.drop_eq_nil_of_le (by omega),z0O,Nat.add_zero]at hd;subst hd;have HE:=HE z rfl;unfold B at HE;cases hr:zb (l.take z)
  ·rw[hr]at HE;simp only[vW,seval,d1];refine⟨⟨by omega,hz⟩,?_⟩;refine z7 HE ?_;simp only[vW,seval,p0T];all_goals(first|done|exact⟨by omega,hz⟩|rfl)
  ·rw[hr]at HE;simp only[vW,seval,d1];refine⟨⟨by omega,hz⟩,?_⟩;refine z7 HE ?_;simp only[vW,seval,p0T];all_goals(first|done|exact⟨by omega,hz⟩|rfl)
theorem zfl(g:Sh.Glob)(l t:zB)(hl:l.length<4611686018427387904):zC g 229 [S (str l),S (str t)] [] (B (t.isPrefixOf l)) []:=by
 have key:zC g 243 [S (str l),S (str t)] [] (B (t.isPrefixOf l)) []:=by
  refine za tf_121 ?_;unfold B;by_cases h:t.length≤l.length
  ·have d1:(t.length:Int)≤(l.length:Int):=by omega
   have he:t.isPrefixOf l=(l.take t.length==t):=by
    rw[Bool.eq_iff_iff,List.isPrefixOf_iff_prefix,beq_iff_eq,List.prefix_iff_eq_take];exact⟨fun h=>h.symm,fun h=>h.symm⟩
   rw[he];simp only[vW,seval,d1];all_goals(first|done|exact⟨by omega,h⟩)
  ·have d1:¬(t.length:Int)≤(l.length:Int):=by omega
   have he:t.isPrefixOf l=false:=by
    cases hh:t.isPrefixOf l with
    |false=>rfl
    |true=>exact absurd (List.isPrefixOf_iff_prefix.1 hh).length_le h
   rw[he];simp only[vW,seval,d1]
 refine za tf_192 ?_;unfold B at*;simp only[vW,seval];exact zf key
def z6y(l:zB):List (zB)→zB→zB
 |[],best=>best
 |t::r,best=>z6y l r (if t.isPrefixOf l=true∧best.length<t.length then t else best)
theorem zjh(g:Sh.Glob)(l:zB)(ts:List (zB))(hl:l.length<4611686018427387904)(ht:ts.length<4611686018427387904):zC g 210 [S (str l),.pv (.sl 1 (ts.map fun t=>[.v (.string (str t))]))] [] (S (str (z6y l ts []))) []:=by
 refine za tf_100 ?_;generalize hR:z6y l ts []=R;have e0:=bS [];simp only[vW,seval,e0];refine zk (σ:={ q:Nat×zB // q.1≤ts.length∧z6y l (ts.drop q.1) q.2=R })
  (fun q=>⟨[(0,S (str l)),(5,S (str q.1.2)),(8,.pv (.sl 1 (ts.map fun t=>[.v (.string (str t))]))),(9,I (ts.length:Int)),(10,I (q.1.1:Int))],[],[],[]⟩) (fun q=>ts.length-q.1.1) ⟨(0,[]),Nat.zero_le _,by simpa using hR⟩ ?_ ?_
 ·exact lwA
 rintro⟨⟨k,best⟩,hk,hd⟩;simp only at hk hd;by_cases hlt:k<ts.length
 ·have d1:(k:Int)<(ts.length:Int):=by omega
  obtain⟨t,et⟩:∃t,ts[k]?=some t:=⟨_,gE hlt⟩
  have hdr:ts.drop k=t::ts.drop (k+1):=by
   obtain⟨_,he⟩:=gJ et;rw[List.drop_eq_getElem_cons hlt,he]
  rw[hdr,z6y]at hd;have w4:=wS k;have HP:=zfl g l t hl;unfold B at HP;simp only[vW,seval,d1,et];refine z7 HP ?_;cases hp:t.isPrefixOf l
  ·rw[hp,if_neg (by simp)]at hd;simp only[vW,seval,w4];refine zc ⟨(k+1,best),hlt,hd⟩ (by show ts.length-(k+1)<ts.length-k;omega) ?_;exact lwA
  ·by_cases hb:best.length<t.length
   ·have d2:(best.length:Int)<(t.length:Int):=by omega
    rw[hp,if_pos ⟨rfl,hb⟩]at hd;simp only[vW,seval,w4,d2];refine zc ⟨(k+1,t),hlt,hd⟩ (by show ts.length-(k+1)<ts.length-k;omega) ?_;exact lwA
   ·have d2:¬(best.length:Int)<(t.length:Int):=by omega
    rw[hp,if_neg (fun h=>hb h.2)]at hd;simp only[vW,seval,w4,d2];refine zc ⟨(k+1,best),hlt,hd⟩ (by show ts.length-(k+1)<ts.length-k;omega) ?_;exact lwA
 ·have d1:¬(k:Int)<(ts.length:Int):=by omega
  rw[List.drop_eq_nil_of_le (by omega),z6y]at hd;simp only[vW,seval,d1];rw[hd]
def z73(r:Option (zB×Nat)):Option (Pc×Nat):=r.map fun x=>(⟨2,0,x.1,0⟩,x.2)
theorem by1(acc:zB)(c:UInt8):byR acc++[[.v (.int .u8 (c.toNat:Int))]]=byR (acc++[c]):=by simp[byR]
theorem readText_ok'(m:Nat)(b:UInt8)(r:zB)(hl:r.length<70368744177664):zC (gl0 m) 209 [S (str (b::r))] [] (p0T (z73 (quoG r [] 1))) []:=by
 refine za tf_106 ?_;generalize hR:quoG r [] 1=R;have hd0:(b::r).drop 1=r:=rfl;rw[←hd0]at hR;have hl1:1≤(b::r).length:=by simp
 have hll:(b::r).length<70368744177674:=by simp;omega
 generalize b::r=l at*;have hm:maxLen=9223372036854775807:=rfl;simp only[vW,seval];refine zk (σ:={ q:Nat×zB // q.1≤l.length∧q.2.length≤q.1∧quoG (l.drop q.1) q.2 q.1=R })
  (fun q=>⟨[(0,S (str l)),(2,.ptr 2 0),(4,.own 3000 1 (byR q.1.2)),(5,I (q.1.1:Int))],[(2,[I 0,I 0,S ⟨#[]⟩,I 0])],[(3000,(5,1,q.1.2.length))],[]⟩) (fun q=>l.length-q.1.1) ⟨(1,[]),hl1,by simp,hR⟩ ?_ ?_
 ·refine ES.Lw.trans ?_ (z8p (k:=4) (d:=3000) (e:=5) (W:=1) (.inr (by decide)) rfl);exact z18 rfl
 rintro⟨⟨k,acc⟩,hk,ha,hd⟩;simp only at hk ha hd;by_cases hlt:k<l.length
 ·have d1:(k:Int)<(l.length:Int):=by omega
  obtain⟨c,ec⟩:∃c,l[k]?=some c:=⟨_,gE hlt⟩
  have hc:=c.toNat_lt;have w1:=wS k;have w2:IntKind.i64.wrap (((k+1:Nat):Int)+1)=((k+2:Nat):Int):=wG;have HT:=z8i m acc (by omega);unfold B at HT;by_cases c34:c.toNat=34
  ·obtain rfl:c=34:=UInt8.toNat_inj.1 c34;rw[z24 ec,zqq]at hd;simp only[vW,seval,byP,z2d,z0J,z1X,z2g,d1,ec];(with_reducible apply zF);simp only[vW,seval,byP,z2d,z0J,z1X,z2g];rfl;rfl;exact HT;exact km;simp only[vW,seval,byP,z2d,z0J,z1X,z2g];rfl;cases hr:zl acc
   ·rw[hr,if_neg (by simp)]at hd;subst hd;simp only[vW,seval,byP,z2d,z0J,z1X,z2g,p0T,z73];all_goals(first|done|rfl)
   ·rw[hr,if_pos rfl]at hd;subst hd;simp only[vW,seval,byP,z2d,z0J,z1X,z2g,p0T,z73,w1];all_goals(first|done|rfl)
  have d34:¬(c.toNat:Int)=34:=by omega
  have n34:c≠34:=fun h=>c34 (by rw[h];rfl);by_cases c92:c.toNat=92
  ·obtain rfl:c=92:=UInt8.toNat_inj.1 c92;rw[z24 ec]at hd;by_cases hend:k+1=l.length
   ·rw[List.drop_eq_nil_of_le (by omega)]at hd;have hd:none=R:=by rw[←hd,quoG.eq_def];rfl
    subst hd;have d5:((k+1:Nat):Int)=(l.length:Int):=by omega
    simp only[vW,seval,byP,z2d,z0J,z1X,z2g,d1,ec,w1,d5,p0T,z73];all_goals(first|done|rfl)
   have d5:¬((k+1:Nat):Int)=(l.length:Int):=by omega
   obtain⟨c2,ec2⟩:∃c,l[k+1]?=some c:=⟨_,gE (by omega)⟩
   have hc2:=c2.toNat_lt;rw[z24 ec2,zqr]at hd;by_cases g34:c2.toNat=34
   ·have h2:c2=34∨c2=92:=.inl (UInt8.toNat_inj.1 g34);rw[if_pos h2]at hd;have d6:(c2.toNat:Int)=34:=by omega
    simp only[vW,seval,byP,z2d,z0J,z1X,z2g,d1,ec,w1,w2,d5,ec2,d6,by1];refine⟨⟨by omega,by omega⟩,zc ⟨(k+2,acc++[c2]),by show k+2≤l.length;omega,by show(acc++[c2]).length≤k+2;simp;omega,hd⟩ (by show l.length-(k+2)<l.length-k;omega) ?_⟩;apply z0e<;>simp[leL,lk,sv,Nat.beq,I,S,ES.kill,has,drp,zn,by1]
    rw[←by1,d6]
   ·have d6:¬(c2.toNat:Int)=34:=by omega
    by_cases g92:c2.toNat=92
    ·have h2:c2=34∨c2=92:=.inr (UInt8.toNat_inj.1 g92);rw[if_pos h2]at hd;have d7:(c2.toNat:Int)=92:=by omega
     simp only[vW,seval,byP,z2d,z0J,z1X,z2g,d1,ec,w1,w2,d5,ec2,d6,d7,by1];refine⟨⟨by omega,by omega⟩,zc ⟨(k+2,acc++[c2]),by show k+2≤l.length;omega,by show(acc++[c2]).length≤k+2;simp;omega,hd⟩ (by show l.length-(k+2)<l.length-k;omega) ?_⟩;apply z0e<;>simp[leL,lk,sv,Nat.beq,I,S,ES.kill,has,drp,zn,by1]
     rw[←by1,d7]
    ·have d7:¬(c2.toNat:Int)=92:=by omega
     have h2:¬(c2=34∨c2=92):=by rintro(rfl|rfl)<;>simp at g34 g92
     rw[if_neg h2]at hd;subst hd;simp only[vW,seval,byP,z2d,z0J,z1X,z2g,d1,ec,w1,d5,ec2,d6,d7,p0T,z73];all_goals(first|done|rfl)
  ·have d92:¬(c.toNat:Int)=92:=by omega
   have n92:c≠92:=fun h=>c92 (by rw[h];rfl);rw[z24 ec,zrZ n34 n92]at hd;simp only[vW,seval,byP,z2d,z0J,z1X,z2g,d1,ec,w1,d34,d92,by1];refine⟨⟨by omega,by omega⟩,zc ⟨(k+1,acc++[c]),by show k+1≤l.length;omega,by show(acc++[c]).length≤k+1;simp;omega,hd⟩ (by show l.length-(k+1)<l.length-k;omega) ?_⟩;apply z0e<;>simp[leL,lk,sv,Nat.beq,I,S,ES.kill,has,drp,zn,by1]
 ·have d1:¬(k:Int)<(l.length:Int):=by omega
  rw[List.drop_eq_nil_of_le (by omega)]at hd;have hd:none=R:=by rw[←hd,quoG.eq_def]
  subst hd;simp only[vW,seval,byP,z2d,z0J,z1X,z2g,d1,p0T,z73];all_goals(first|done|rfl)
def zgc:List (zB):=[[61],[60,62],[60],[60,61],[62],[62,61],[38],[43],[45],[42],[47],[37],[40],[41],[44]]
theorem zjg(b:UInt8)(r:zB):z6y (b::r) zgc []=z19 (b::r):=by
 have h2:∀x y:UInt8,[x,y].isPrefixOf (b::r)=(x==b&&decide (r.head?=some y)):=by
  intro x y;cases r with
  |nil=>simp[List.isPrefixOf]
  |cons c r=>rw[Bool.eq_iff_iff];simp[List.isPrefixOf];exact fun _=>eq_comm
 have h1:∀x:UInt8,[x].isPrefixOf (b::r)=(x==b):=by intro x;simp[List.isPrefixOf]
 unfold zgc z19;simp only[z6y,h1,h2];by_cases e60:b=60
 ·subst e60;by_cases g62:r.head?=some 62
  ·have g61:¬r.head?=some 61:=by rw[g62];decide
   simp[g62]
  ·by_cases g61:r.head?=some 61
   ·simp[g61]
   ·simp[g61,g62]
 by_cases e62:b=62
 ·subst e62;by_cases g61:r.head?=some 61
  ·simp[g61]
  ·simp[g61]
 have n:∀x:UInt8,(x==b)=decide (b=x):=fun x=>by rw[Bool.eq_iff_iff];simp;exact eq_comm
 simp only[n];by_cases e1:b=61;· subst e1;simp
 by_cases e2:b=38;· subst e2;simp
 by_cases e3:b=43;· subst e3;simp
 by_cases e4:b=45;· subst e4;simp
 by_cases e5:b=42;· subst e5;simp
 by_cases e6:b=47;· subst e6;simp
 by_cases e7:b=37;· subst e7;simp
 by_cases e8:b=40;· subst e8;simp
 by_cases e9:b=41;· subst e9;simp
 by_cases e10:b=44;· subst e10;simp
 simp[e1,e2,e3,e4,e5,e6,e7,e8,e9,e10,e60,e62]
theorem zqu(m:Nat)(b:UInt8)(r:zB)(hl:r.length<70368744177664):zC (gl0 m) 166 [S (str (b::r))] [] (p0T (z0l (b::r) 0)) []:=by
 have HN:=zea (gl0 m) (b::r) (by simp;omega);have HM:=zh5 (gl0 m) (b::r) (by simp;omega);have HT:=readText_ok' m b r hl;have HL:=zjh (gl0 m) (b::r) zgc (by simp;omega) (by decide);rw[zjg]at HL;have hb0:(b::r)[0]?=some b:=rfl;have hbn:=b.toNat_lt;refine za tf_103 ?_;unfold z0l;simp only;unfold zo5 at HN;unfold zjj at HM;generalize hL:b::r=l at*;have g0:0<l.length:=by rw[←hL];simp
 have e0:=bS [];have hsg:∀t:zB,(t==([]:zB))=decide (t=[]):=fun t=>by rw[Bool.eq_iff_iff];simp
 by_cases q1:48≤b.toNat
 ·have d1:(48:Int)≤(b.toNat:Int):=by omega
  by_cases q2:b.toNat≤57
  ·have d2:(b.toNat:Int)≤57:=by omega
   rw[if_pos (by unfold z1I;simp[q1,q2])];by_cases hn:1000000000000000<(z1f l 0 0).1
   ·rw[if_pos hn]at HN ⊢;unfold p0T at*;simp only[vW,seval,hb0,d1,d2];exact zf HN
   ·rw[if_neg hn]at HN ⊢;unfold p0T at*;simp only[vW,seval,hb0,d1,d2];exact zf HN
  ·have d2:¬(b.toNat:Int)≤57:=by omega
   rw[if_neg (by unfold z1I;simp[q2])];by_cases q3:97≤b.toNat∧b.toNat≤122
   ·have d3:(97:Int)≤(b.toNat:Int):=by omega
    have d4:(b.toNat:Int)≤122:=by omega
    rw[if_pos (by unfold small;simp[q3])];cases hr:zb (l.take (z0O l))
    ·rw[hr]at HM;simp only[Bool.false_eq_true,if_false]at HM ⊢;unfold p0T at*;simp only[vW,seval,hb0,d1,d2,d3,d4];exact zf HM
    ·rw[hr]at HM;simp only[if_true]at HM ⊢;unfold p0T at*;simp only[vW,seval,hb0,d1,d2,d3,d4];exact zf HM
   rw[if_neg (by unfold small;simp;omega)];by_cases c34:b=34
   ·subst c34;have d5:((34:UInt8).toNat:Int)=34:=rfl;have d3:¬(97:Int)≤((34:UInt8).toNat:Int):=by decide
    rw[if_pos rfl];cases hq:quoG r [] 1 with
    |none=>
     rw[hq]at HT;simp only[z73,Option.map_none]at HT ⊢;unfold p0T at*;simp only[vW,seval,hb0,d1,d2,d3,d5];exact zf HT
    |some x=>
     obtain⟨t,k⟩:=x;rw[hq]at HT;simp only[z73,Option.map_some]at HT ⊢;unfold p0T at*;simp only[vW,seval,hb0,d1,d2,d3,d5];exact zf HT
   rw[if_neg c34];have n34:¬(b.toNat:Int)=34:=fun h=>c34 (UInt8.toNat_inj.1 (by show b.toNat=34;omega));by_cases q4:97≤b.toNat
   ·have d3:(97:Int)≤(b.toNat:Int):=by omega
    have d4:¬(b.toNat:Int)≤122:=by omega
    by_cases hsn:z19 l=[]
    ·rw[if_pos hsn];rw[hsn]at HL;unfold p0T;simp only[vW,seval,hb0,d1,d2,d3,d4,n34];refine z7 HL ?_;simp only[vW,seval,e0,hsg]
    ·rw[if_neg hsn];unfold p0T;simp only[vW,seval,hb0,d1,d2,d3,d4,n34];refine z7 HL ?_;simp only[vW,seval,e0,hsg,hsn]
   ·have d3:¬(97:Int)≤(b.toNat:Int):=by omega
    by_cases hsn:z19 l=[]
    ·rw[if_pos hsn];rw[hsn]at HL;unfold p0T;simp only[vW,seval,hb0,d1,d2,d3,n34];refine z7 HL ?_;simp only[vW,seval,e0,hsg]
    ·rw[if_neg hsn];unfold p0T;simp only[vW,seval,hb0,d1,d2,d3,n34];refine z7 HL ?_;simp only[vW,seval,e0,hsg,hsn]
 ·have d1:¬(48:Int)≤(b.toNat:Int):=by omega
  rw[if_neg (by unfold z1I;simp[q1])];by_cases q3:97≤b.toNat∧b.toNat≤122
  ·have d3:(97:Int)≤(b.toNat:Int):=by omega
   have d4:(b.toNat:Int)≤122:=by omega
   rw[if_pos (by unfold small;simp[q3])];cases hr:zb (l.take (z0O l))
   ·rw[hr]at HM;simp only[Bool.false_eq_true,if_false]at HM ⊢;unfold p0T at*;simp only[vW,seval,hb0,d1,d3,d4];exact zf HM
   ·rw[hr]at HM;simp only[if_true]at HM ⊢;unfold p0T at*;simp only[vW,seval,hb0,d1,d3,d4];exact zf HM
  rw[if_neg (by unfold small;simp;omega)];by_cases c34:b=34
  ·subst c34;have d5:((34:UInt8).toNat:Int)=34:=rfl;have d3:¬(97:Int)≤((34:UInt8).toNat:Int):=by decide
   rw[if_pos rfl];cases hq:quoG r [] 1 with
   |none=>
    rw[hq]at HT;simp only[z73,Option.map_none]at HT ⊢;unfold p0T at*;simp only[vW,seval,hb0,d1,d3,d5];exact zf HT
   |some x=>
    obtain⟨t,k⟩:=x;rw[hq]at HT;simp only[z73,Option.map_some]at HT ⊢;unfold p0T at*;simp only[vW,seval,hb0,d1,d3,d5];exact zf HT
  rw[if_neg c34];have n34:¬(b.toNat:Int)=34:=fun h=>c34 (UInt8.toNat_inj.1 (by show b.toNat=34;omega));by_cases q4:97≤b.toNat
  ·have d3:(97:Int)≤(b.toNat:Int):=by omega
   have d4:¬(b.toNat:Int)≤122:=by omega
   by_cases hsn:z19 l=[]
   ·rw[if_pos hsn];rw[hsn]at HL;unfold p0T;simp only[vW,seval,hb0,d1,d3,d4,n34];refine z7 HL ?_;simp only[vW,seval,e0,hsg]
   ·rw[if_neg hsn];unfold p0T;simp only[vW,seval,hb0,d1,d3,d4,n34];refine z7 HL ?_;simp only[vW,seval,e0,hsg,hsn]
  ·have d3:¬(97:Int)≤(b.toNat:Int):=by omega
   by_cases hsn:z19 l=[]
   ·rw[if_pos hsn];rw[hsn]at HL;unfold p0T;simp only[vW,seval,hb0,d1,d3,n34];refine z7 HL ?_;simp only[vW,seval,e0,hsg]
   ·rw[if_neg hsn];unfold p0T;simp only[vW,seval,hb0,d1,d3,n34];refine z7 HL ?_;simp only[vW,seval,e0,hsg,hsn]
end Go.Proofs.YtpmlapgbmgbilaaGreatDoor
end

section
namespace Go.Mor
open Go
theorem zfG:∀(l:zB) (n:Int) (z:Nat),z≤(z1f l n z).2∧(z1f l n z).2≤z+l.length
 |[],n,z=>by simp[z1f]
 |b::r,n,z=>by
  unfold z1f;split
  ·have:=zfG r (min (10*n+((b.toNat:Int) - 48)) 1000000000000001) (z+1)
   grind
  ·simp
theorem zdD:∀(l:zB),z0O l≤l.length
 |[]=>by simp[z0O]
 |b::r=>by
  unfold z0O;split
  ·have:=zdD r;simp;omega
  ·omega
theorem zb1:∀(l acc:zB) (k:Nat) (t:zB) (z:Nat),quoG l acc k=some (t,z)→k≤z∧z≤k+l.length
 |[],acc,k,t,z,h=>by simp[quoG]at h
 |b::r,acc,k,t,z,h=>by
  unfold quoG at h;split at h
  ·grind
  ·split at h
   ·split at h
    ·cases h
    ·rename_i c r';split at h
     ·have:=zb1 r' _ _ _ _ h;simp;omega
     ·cases h
   ·have:=zb1 r _ _ _ _ h;simp;omega
theorem zml(l:zB):(z19 l).length≤l.length:=by
 cases l with
 |nil=>simp[z19]
 |cons b r=>
  unfold z19;cases r<;>grind
theorem z92{b:UInt8}{r:zB}{p:Nat}{q:Pc}{z:Nat}(h:z0l (b::r) p=some (q,z)):1≤z∧z≤(b::r).length∧q.k≠0∧q.p=p:=by
 unfold z0l at h;simp at h;split at h
 ·grind [z1f,zfG]
 ·split at h
  ·grind [zdD,z0O,zS]
  ·split at h
   ·split at h
    ·rename_i t k hq;have:=zb1 _ _ _ _ _ hq
     grind
    ·cases h
   ·grind [zml,z19]
theorem zon(l:zB)(p:Nat):z0l l p=(z0l l 0).map fun x=>(⟨x.1.k,x.1.n,x.1.s,p⟩,x.2):=by
 cases l with
 |nil=>rfl
 |cons b r=>
  unfold z0l
  repeat' split
  all_goals first|rfl|simp_all
end Go.Mor
end

section
namespace Go.Proofs.YtpmlapgbmgbilaaGreatDoor
open Go Go.RowKit Go.Mor Go.Sh Go.Sh.Cd1 Go.Sh.Cd5
section
abbrev cW0:SCode:=.reg [([2,3,4],[⟨some 2,none,none,.new [.int .i64 0,.int .i64 0,.string ⟨#[]⟩,.slice none 0 0]⟩,⟨some 3,none,none,.new [.int .i64 0]⟩,⟨some 4,none,none,.new [.bool false]⟩])] []
abbrev cW2:SCode:=.regq [([newId 7 0,newId 7 1,newId 7 2,newId 7 3],[⟨some 6,none,none,.mov (.tmp 0)⟩,⟨some 7,none,none,.call 168 3 [.tmp 6,.val (.int .i64 1)]⟩,⟨none,none,none,.st 4 (.tmp 2) (.tmp 7)⟩])] [9999]
abbrev cW3:SCode:=.reg [([],[⟨some 8,none,none,.mov (.tmp 0)⟩,⟨some 9,none,none,.nchk (.tmp 8)⟩,⟨some 10,none,none,.fldA 0 (.tmp 9)⟩,⟨some 11,none,none,.fldA 1 (.tmp 10)⟩,⟨some 12,none,none,.ld false 1 (.tmp 11)⟩,⟨some 13,none,none,.mov (.tmp 0)⟩,⟨some 14,none,none,.nchk (.tmp 13)⟩,⟨some 15,none,none,.fldA 0 (.tmp 14)⟩,⟨some 16,none,none,.fldA 0 (.tmp 15)⟩,⟨some 17,none,none,.ld false 1 (.tmp 16)⟩,⟨some 18,none,none,.len (.tmp 17)⟩,⟨some 19,none,none,.bin .lss 3 (.tmp 12) (.tmp 18)⟩])] []
abbrev cW4:SCode:=.regq [([newId 23 0,newId 23 1,newId 23 2,newId 23 3],[⟨some 20,none,none,.mov (.tmp 0)⟩,⟨some 21,none,none,.nchk (.tmp 20)⟩,⟨some 22,none,none,.fldA 0 (.tmp 21)⟩,⟨some 23,none,none,.call 169 1 [.tmp 22]⟩,⟨some 24,none,none,.fld false 3 1 (.tmp 23)⟩,⟨some 25,none,none,.mkI 251 (.tmp 24)⟩,⟨none,none,none,.pan (.tmp 25)⟩])] [9999]
abbrev cW5:SCode:=.reg [([],[⟨some 26,none,none,.ld true 4 (.tmp 2)⟩,⟨none,none,none,.st 4 (.tmp 2) (.tmp 26)⟩,⟨none,none,none,.st 1 (.tmp 3) (.val (.int .i64 0))⟩,⟨none,none,none,.st 1 (.tmp 4) (.val (.bool true))⟩])] []
abbrev cWr:SCode:=.seq cW2 (.seq (.seq cW3 (.cond (.tmp 19) cW4 .skip)) (.seq cW5 .ret))
def wH:Nat→Option Nat→Nat:=z3D [(7,3),(23,1)]
def wF:Nat→List (Nat→Option Nat):=fpT []
def wK:Nat→List Nat:=z3E [(2,[9999]),(4,[9999])]
def zH:List TV:=[I 0,I 0,S ⟨#[]⟩,.pv (.v (.slice none 0 0))]
def sW(L:List Pc)(p sz:Nat):ES:=⟨[(0,.ptr 1000 0),(2,.ptr 2 0),(3,.ptr 3 0),(4,.ptr 4 0)],[(1000,pB L p sz),(2,zH),(3,[I 0]),(4,[B false])],[],[]⟩
def sV(L:List Pc)(p sz:Nat):ES:=⟨[(0,.ptr 1000 0),(2,.ptr 1001 0),(3,.ptr 1002 0),(4,.ptr 1003 0)],[(1000,pB L p sz),(1001,zH),(1002,[I 0]),(1003,[B false])],[],[]⟩
def osV(L:List Pc)(p sz:Nat)(c2:List TV)(c3 c4:TV):List MO:=[.box (pB L p sz),.box c2,.box [c3],.box [c4]]
def eC(e:V):List TV:=[I e.k,I e.n,S (str e.s),.pv (.sl 4 (V.rows e.l))]
section
variable{g:Sh.Glob}{L:List Pc}{sz:Nat}
theorem zqz(hL:L.length≤4611686018427387904){f:Nat}{e:V}{p:Nat}(h:pE L sz f 1 0=some (.ok e p))(hp:¬p<L.length):
  swp Tryz.prog g cWr (PostR [.cell true 4 2,.cell false 1 3,.cell false 1 4] false 4 (.tuple [tv e,I 0,B true]) (osV L p sz (eC e) (I 0) (B true))) (sV L 0 sz):=by
 have HE:=(z8Y (g:=g) hL f).1 1 0 e p (by omega) (by omega) (Nat.zero_le _) h;have d1:¬(p:Int)<(L.length:Int):=by omega
 unfold sV osV zH eC pB pcs B at*;simp only[vW,seval,bmV];(with_reducible apply z3d);simp only[vW,seval,bmV];refine zK HE ?_;simp only[vW,seval,bmV,d1]
def zmU(L:List Pc)(sz p a:Nat):SExit→ES→Prop:=fun e s=>e=.pan (zX a)∧lk s.t 2=some (.ptr 1001 0)∧lk s.t 3=some (.ptr 1002 0)∧lk s.t 4=some (.ptr 1003 0)∧(∃cs,lk s.b 1001=some cs∧cs.length=4)∧(∃c,lk s.b 1002=some [c])∧(∃c,lk s.b 1003=some [c])∧lk s.b 1000=some (pB L p sz)∧s.r=[]
theorem zoq(hL:L.length≤4611686018427387904){f a p:Nat}(h:pE L sz f 1 0=some (.bad a p)):swp Tryz.prog g cWr (zmU L sz p a) (sV L 0 sz):=by
 have HE:=(z8Y (g:=g) hL f).2.1 1 0 a p (by omega) (by omega) (Nat.zero_le _) h;unfold sV zH pB pcs B at*;simp only[vW,seval,bmV];(with_reducible apply z4R);simp only[vW,seval,bmV];(with_reducible apply z2S);(· rfl);(· simp only[vW,seval,bmV];with_reducible rfl);(· exact HE);(· first|rfl|(simp only[vcA,seval];omega));(· simp only[vW,seval,bmV];with_reducible rfl);simp only[vW,seval,bmV];exact⟨rfl,rfl,rfl,rfl,⟨_,rfl,rfl⟩,⟨_,rfl⟩,⟨_,rfl⟩,rfl,rfl⟩
theorem zmb(hL:L.length≤4611686018427387904){f:Nat}{e:V}{p:Nat}(h:pE L sz f 1 0=some (.ok e p))(hp:p<L.length):swp Tryz.prog g cWr (zmU L sz p (pkP L sz p).p) (sV L 0 sz):=by
 have HE:=(z8Y (g:=g) hL f).1 1 0 e p (by omega) (by omega) (Nat.zero_le _) h;have HP:=z55 g L p sz (by unfold maxLen;omega);have d1:(p:Int)<(L.length:Int):=by omega
 unfold sV zH pB pcs B pcT at*;simp only[vW,seval,bmV];(with_reducible apply z3d);simp only[vW,seval,bmV];refine zK HE ?_;simp only[vW,seval,bmV,d1];(with_reducible apply z4R);simp only[vW,seval,bmV];(with_reducible apply zmI);(· simp only[vW,seval,bmV];with_reducible rfl);(· rfl);(· exact HP);(· first|rfl|(simp only[vcA,seval];omega));(· simp only[vW,seval,bmV];with_reducible rfl);simp only[vW,seval,bmV];exact⟨rfl,rfl,rfl,rfl,⟨_,rfl,rfl⟩,⟨_,rfl⟩,⟨_,rfl⟩,rfl,rfl⟩
end
theorem zgi{P:Program}{B:Base}{s:FS}{a:Act}{w:World}{E:Env}(h:Sim B s a w E){d:Nat}{cs xs:List TV}{us:List Value}(hb:s.b d=some cs)(hl:xs.length=us.length)(hle:xs.length≤cs.length)
  (hrel:∀(j:Nat) x v,xs[j]?=some x→us[j]?=some v→RelT w E s.r x v) (ho:∀v∈us,one v) {t:TypeId} {i:TypeInfo} (hi:P.info? t=some i) (hsz:us.length=i.size) {v:Value} (hv:v.cells=us.toArray):
  (storeVar t ⟨E.β d,0,none⟩ v).run P w=.ok () (w.setCells (E.β d) 0 us)∧Sim B (s.setB d (splice cs 0 xs)) a (w.setCells (E.β d) 0 us) E:=by
 obtain⟨hbox,_⟩:=h.mem.box d cs hb;refine⟨z6h (P:=P) (w:=w) (E.β d) 0 t i v us hv hi hsz (fun j hj=>⟨?_,hbox.fz _⟩) ho,h.wr hb xs us hl (by omega) hrel ho⟩;obtain⟨c,hc⟩:∃c,cs[0+j]?=some c:=⟨_,gE (by omega)⟩
 obtain⟨v,h1,_⟩:=hbox.cell _ c hc;rw[h1];rfl
section
variable{P:Program}{ops:Array Oper}{Q:Exit→Act→List Frame→World→Prop}{a:Act}{w w':World}{cs cs':List Frame}{i:Nat}{zy:List Nat}{o:Oper}{v:Value}
theorem zof(ho:ops[i]?=some o)(hg:o.guard=none)(hr:(execOp a.eval o).run P w=.ok .recover w')(hc:recoverD cs=some (v,cs'))(hk:wpOpsS P ops Q zy (a.put o.dst v) cs' w'):wpOpsS P ops Q (i::zy) a cs w:=by
 rw[wpOpsS,ho];simp only;rw[if_pos (by simp[Region.wanted,hg]),hr];simp only[hc];exact hk
theorem zjv(ho:ops[i]?=some o)(hg:o.guard=none)(hr:(execOp a.eval o).run P w=.ok .recover w')(hc:recoverD cs=none)(hk:wpOpsS P ops Q zy (a.put o.dst .nilIface) cs w'):wpOpsS P ops Q (i::zy) a cs w:=by
 rw[wpOpsS,ho];simp only;rw[if_pos (by simp[Region.wanted,hg]),hr];simp only[hc];exact hk
theorem z1b(ho:ops[i]?=some o)(hg:o.guard=none)(hr:(execOp a.eval o).run P w=.ok (.value v) w')(hk:wpOpsS P ops Q zy (a.put o.dst v) cs w'):wpOpsS P ops Q (i::zy) a cs w:=by
 rw[wpOpsS,ho];simp only;rw[if_pos (by simp[Region.wanted,hg]),hr];exact hk
theorem z8U(ho:ops[i]?=some o)(hg:o.guard=none)(hr:(execOp a.eval o).run P w=.ok .skip w')(hk:wpOpsS P ops Q zy (a.put o.dst undef) cs w'):wpOpsS P ops Q (i::zy) a cs w:=by
 rw[wpOpsS,ho];simp only;rw[if_pos (by simp[Region.wanted,hg]),hr];exact hk
end
theorem zj2{c:Frame}{u:FrameMode}(h:c.mode=u):c={ c with mode:=u }:=by subst h;rfl
theorem zoo(v2 v3 v4:Value)(w:World)(R:Ending→FrameMode→World→Prop)(hR:∀v,R (.returned v) .returning w):CallsD Tryz.prog 167 #[v2,v3,v4] .returning w R:=by
 refine callsD_of_wpS Tryz.func167 rfl (fun c0 cs hu=> ?_);show(Code.seq _ _).wpS _ _ { tmps:= #[v2,v3,v4,undef,undef,undef,undef,undef,undef,undef,undef,undef,undef,undef,undef,undef],defers:=[] } _ _;refine wpS_seq (wpS_region ?_);show wpOpsS _ _ _ [0,1] _ _ _;refine zjv rfl rfl (w':=w) rfl (by simp[recoverD,hu]) ?_;refine z1b rfl rfl (v:=.nilIface) (w':=w) rfl ?_;show(Code.seq _ _).wpS _ _ { tmps:= #[v2,v3,v4,.nilIface,undef,undef,.nilIface,undef,undef,undef,undef,undef,undef,undef,undef,undef],defers:=[] } _ _;refine wpS_seq (wpS_region ?_);show wpOpsS _ _ _ [0,1] _ _ _;refine z1b rfl rfl (v:=.nilIface) (w':=w) rfl ?_;refine z1b rfl rfl (v:=.bool false) (w':=w) (by simp[execOp,Act.eval,Act.put,go_sem]) ?_;show(Code.cond _ _ _).wpS _ _ { tmps:= #[v2,v3,v4,.nilIface,undef,undef,.nilIface,.nilIface,.bool false,undef,undef,undef,undef,undef,undef,undef],defers:=[] } _ _;refine wpS_cond (t:=false) rfl (wpS_of_wp (wp_skip ?_));exact⟨rfl,.returning,by rw[←zj2 hu],.tuple #[],by simp[results,Tryz.results167],hR _⟩
theorem zqO:Tryz.prog.underlying 251=some (.int .i64):=by kernel_rfl
theorem zcK{t:TypeId}{n:Nat}(h:(Tryz.prog.info? t).map (·.size)=some n):∃i,Tryz.prog.info? t=some i∧i.size=n:=by
 obtain⟨i,h1,h2⟩:=gO h;exact⟨i,h1,h2⟩
theorem zrw:∃i,Tryz.prog.info? 157=some i∧i.size=4:=zcK (by kernel_rfl)
theorem zsT:∃i,Tryz.prog.info? 3=some i∧i.size=1:=zcK (by kernel_rfl)
theorem zrv:∃i,Tryz.prog.info? 4=some i∧i.size=1:=zcK (by kernel_rfl)
theorem zbb{a:Act}{o:Oper}{w w':World}{t:TypeId}{x y:Operand}{ad:Addr}(ho:o.op=.store t x y)(hx:a.eval x=.pointer (some ad))(hr:(storeVar t ad (a.eval y)).run Tryz.prog w=.ok () w'):(execOp a.eval o).run Tryz.prog w=.ok .skip w':=by
 simp[execOp,ho,hx,Instr.storeAt,Instr.sureAddr,hr,Result.andThen]
theorem zqv{Bs:Base}{s:FS}{a:Act}{w:World}{E:Env}(h:Sim Bs s a w E){c2:List TV}{c3 c4:TV}(h2:s.b 1001=some c2)(l2:c2.length=4)(h3:s.b 1002=some [c3])(h4:s.b 1003=some [c4])(n:Nat)(R:Ending→FrameMode→World→Prop)
  (hR:∀v w',Sim Bs (((s.setB 1001 zH).setB 1002 [I (n:Int)]).setB 1003 [B false]) a w' E→R (.returned v) (.panicking [{ v:=zX n,recovered:=true }]) w'):
  CallsD Tryz.prog 167 #[.pointer (some ⟨E.β 1001,0,none⟩),.pointer (some ⟨E.β 1002,0,none⟩),.pointer (some ⟨E.β 1003,0,none⟩)] (.panicking [{ v:=zX n,recovered:=false }]) w R:=by
 obtain⟨ie,he1,he2⟩:=zrw;obtain⟨ii,hi1,hi2⟩:=zsT;obtain⟨ib,hb1,hb2⟩:=zrv;have st2:=zgi (P:=Tryz.prog) h (xs:=zH) (us:=[.int .i64 0,.int .i64 0,.string ⟨#[]⟩,.slice none 0 0]) h2 rfl (by rw[l2];exact Nat.le_refl _) (fun j x v hx hv=>by
  match j with
  |0|1|2|3=>cases hx;cases hv;exact .pv (.v _)
  |j+4=>cases hx) (by simp[one,Value.oneCell']) he1 (by rw[he2];rfl) (v:=.agg #[.int .i64 0,.int .i64 0,.string ⟨#[]⟩,.slice none 0 0]) rfl
 obtain⟨r2,S2⟩:=st2;have e2:splice c2 0 zH=zH:=by
  match c2,l2 with
  |[x0,x1,x2,x3],_=>rfl
 rw[e2]at S2;have st3:=zgi (P:=Tryz.prog) S2 (d:=1002) (cs:=[c3]) (xs:=[I (n:Int)]) (us:=[.int .i64 (n:Int)]) (by rw[FS.setB];simp[z0I,h3]) rfl (Nat.le_refl _) (fun j x v hx hv=>by
  match j with
  |0=>cases hx;cases hv;exact .pv (.v _)
  |j+1=>cases hx) (by simp[one,Value.oneCell']) hi1 (by rw[hi2];rfl) (v:=.int .i64 (n:Int)) rfl
 obtain⟨r3,S3⟩:=st3;have st4:=zgi (P:=Tryz.prog) S3 (d:=1003) (cs:=[c4]) (xs:=[B false]) (us:=[.bool false]) (by simp[FS.setB,z0I,h4]) rfl (Nat.le_refl _) (fun j x v hx hv=>by
  match j with
  |0=>cases hx;cases hv;exact .pv (.v _)
  |j+1=>cases hx) (by simp[one,Value.oneCell']) hb1 (by rw[hb2];rfl) (v:=.bool false) rfl
 obtain⟨r4,S4⟩:=st4;have hfin:=fun v=>hR v _ S4;clear S2 S3 S4 hR h;generalize E.β 1001=b2 at*;generalize E.β 1002=b3 at*;generalize E.β 1003=b4 at*;refine callsD_of_wpS Tryz.func167 rfl (fun c0 cs hu=> ?_);generalize hp2:Value.pointer (some ⟨b2,0,none⟩)=p2;generalize hp3:Value.pointer (some ⟨b3,0,none⟩)=p3;generalize hp4:Value.pointer (some ⟨b4,0,none⟩)=p4;show(Code.seq _ _).wpS _ _ { tmps:= #[p2,p3,p4,undef,undef,undef,undef,undef,undef,undef,undef,undef,undef,undef,undef,undef],defers:=[] } _ _;refine wpS_seq (wpS_region ?_);show wpOpsS _ _ _ [0,1] _ _ _;refine zof rfl rfl (w':=w) rfl (v:=zX n) (by simp only[recoverD,hu];rfl) ?_;refine z1b rfl rfl (v:=zX n) (w':=w) rfl ?_;show(Code.seq _ _).wpS _ _ { tmps:= #[p2,p3,p4,zX n,undef,undef,zX n,undef,undef,undef,undef,undef,undef,undef,undef,undef],defers:=[] } _ _;refine wpS_seq (wpS_region ?_);show wpOpsS _ _ _ [0,1] _ _ _;refine z1b rfl rfl (v:=zX n) (w':=w) rfl ?_;refine z1b rfl rfl (v:=.bool true) (w':=w) (by simp[execOp,Act.eval,Act.put,go_sem,zX]) ?_;show(Code.cond _ _ _).wpS _ _ { tmps:= #[p2,p3,p4,zX n,undef,undef,zX n,zX n,.bool true,undef,undef,undef,undef,undef,undef,undef],defers:=[] } _ _
 refine wpS_cond (t:=true) rfl ?_;show(Code.seq _ _).wpS _ _ { tmps:= #[p2,p3,p4,zX n,undef,undef,zX n,zX n,.bool true,undef,undef,undef,undef,undef,undef,undef],defers:=[] } _ _;refine wpS_seq (wpS_region ?_);show wpOpsS _ _ _ [0,1,2,3,4,5,6] _ _ _;refine z1b rfl rfl (v:=zX n) (w':=w) rfl ?_;refine z1b rfl rfl (v:=.tuple #[.int .i64 (n:Int),.bool true]) (w':=w) (by simp[execOp,Act.eval,Act.put,Instr.typeAssert,run_underlying zqO,zX,Result.andThen]) ?_;refine z1b rfl rfl (v:=.tuple #[.int .i64 (n:Int),.bool true]) (w':=w) rfl ?_;refine z1b rfl rfl (v:=.int .i64 (n:Int)) (w':=w) rfl ?_;refine z1b rfl rfl (v:=.bool true) (w':=w) rfl ?_;refine z1b rfl rfl (v:=.int .i64 (n:Int)) (w':=w) rfl ?_;refine z1b rfl rfl (v:=.bool true) (w':=w) rfl ?_;show(Code.region _ _ _).wpS _ _ { tmps:= #[p2,p3,p4,zX n,.int .i64 (n:Int),.bool true,zX n,zX n,.bool true,.tuple #[.int .i64 (n:Int),.bool true],zX n,.tuple #[.int .i64 (n:Int),.bool true],.int .i64 (n:Int),.bool true,undef,undef],defers:=[] } _ _;refine wpS_region ?_;show wpOpsS _ _ _ [0,1,2,3,4] _ _ _;refine z1b rfl rfl (v:=.agg #[.int .i64 0,.int .i64 0,.string ⟨#[]⟩,.slice none 0 0]) (w':=w) (by kernel_rfl) ?_
 refine z1b rfl rfl (v:=.int .i64 (n:Int)) (w':=w) rfl ?_;refine z8U rfl rfl (zbb rfl hp2.symm r2) ?_;refine z8U rfl rfl (zbb rfl hp3.symm r3) ?_;refine z8U rfl rfl (zbb rfl hp4.symm r4) ?_;exact⟨rfl,_,rfl,.tuple #[],by simp[results,Tryz.results167],hfin _⟩
end
end Go.Proofs.YtpmlapgbmgbilaaGreatDoor
end
