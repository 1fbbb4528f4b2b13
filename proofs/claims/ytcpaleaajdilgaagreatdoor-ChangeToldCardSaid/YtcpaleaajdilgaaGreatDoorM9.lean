/- Merged texts: Ze6 Ze7 Px4 Ze13 Ze14 Ze8 Ze9 Ze15 Ze16 Ze17 Ze18. No statement of the program is proved here. -/
import Derived.Test.YtcpaleaajdilgaaGreatDoorM1
import Derived.Test.YtcpaleaajdilgaaGreatDoorM2
import Derived.Test.YtcpaleaajdilgaaGreatDoorM3
import Derived.Test.YtcpaleaajdilgaaGreatDoorM4
import Derived.Test.YtcpaleaajdilgaaGreatDoorM5
import Derived.Test.YtcpaleaajdilgaaGreatDoorM6
import Derived.Recover
import Derived.RangeFuncNested
set_option linter.unusedSimpArgs false
set_option linter.unusedVariables false
set_option maxRecDepth 100000
set_option maxHeartbeats 8000000
section
namespace Go.Proofs.YtcpaleaajdilgaaGreatDoor
open Go Go.RowKit Go.Mor Go.Sh Go.Sh.Cd1 Go.Sh.Cd4 Go.Sh.Cd5
def nameP(l:zB):Option (Pc×Nat):=if z11 (l.take (nameZ l))then some (⟨3,0,l.take (nameZ l),0⟩,nameZ l)else none
theorem nameZ_le:∀l:zB,nameZ l≤l.length
 |[]=>Nat.le_refl _
 |b::r=>by
  rw[nameZ];split
  ·have:=nameZ_le r;simp;omega
  ·simp
theorem name_end(g:Sh.Glob)(l:zB)(z:Nat)(hz:z=nameZ l)(hl:l.length<4611686018427387904):zC g 244 [S (str (l.take z))] [] (B (z11 (l.take z))) []:=
 eRightName_ok g _ (by have:=nameZ_le l;rw[List.length_take];omega)
theorem readName_ok(g:Sh.Glob)(l:zB)(hl:l.length<4611686018427387904):zC g 205 [S (str l)] [] (p0T (nameP l)) []:=by
 have hle:=nameZ_le l;have HE:∀z,z=nameZ l→zC g 244 [S (str (l.take z))] [] (B (z11 (l.take z))) []:=fun z hz=>name_end g l z hz hl;unfold nameP;generalize hR:nameZ l=R at*;refine z43 tf_97 ?_;refine v_loop (σ:={ z:Nat // z≤l.length∧z+nameZ (l.drop z)=R })
  (fun q=>⟨[(0,S (str l)),(2,.ptr 2 0),(4,I (q.1:Int))],[(2,[I 0,I 0,S ⟨#[]⟩,I 0])],[],[]⟩) (fun q=>l.length-q.1) ⟨0,Nat.zero_le _,by simpa using hR⟩ ?_ ?_
 ·exact lwA
 rintro⟨z,hz,hd⟩;have w4:=wS z;by_cases hk:z<l.length
 ·have d1:(z:Int)<(l.length:Int):=by omega
  obtain⟨c,ec⟩:∃c,l[z]?=some c:=⟨_,gE hk⟩
  rw[z83 ec,nameZ]at hd;have hc:=c.toNat_lt;have fin:nameB c=true→z+1+nameZ (l.drop (z+1))=R:=fun h=>by rw[h,if_pos rfl]at hd;omega
  by_cases q1:97≤c.toNat
  ·have d2:(97:Int)≤(c.toNat:Int):=by omega
   by_cases q2:c.toNat≤122
   ·have d3:(c.toNat:Int)≤122:=by omega
    have hn:nameB c=true:=by unfold nameB small;simp[q1,q2]
    simp only[vW,seval,d1,d2,d3,ec,w4];refine z13 ⟨z+1,hk,fin hn⟩ (by show l.length-(z+1)<l.length-z;omega) ?_;exact lwA
   ·have d3:¬(c.toNat:Int)≤122:=by omega
    have d4:(48:Int)≤(c.toNat:Int):=by omega
    have d5:¬(c.toNat:Int)≤57:=by omega
    have d6:¬(c.toNat:Int)=95:=by omega
    have hn:nameB c=false:=by unfold nameB small;simp;omega
    rw[hn,if_neg (by simp),Nat.add_zero]at hd;subst hd;have HE:=HE z rfl;unfold B at HE;cases hr:z11 (l.take z)
    ·rw[hr]at HE;simp only[vW,seval,d1,d2,d3,d4,d5,d6,ec];refine⟨⟨by omega,hz⟩,?_⟩;refine z7 HE ?_;simp only[vW,seval,p0T];all_goals(first|done|exact⟨by omega,hz⟩|rfl)
    ·rw[hr]at HE;simp only[vW,seval,d1,d2,d3,d4,d5,d6,ec];refine⟨⟨by omega,hz⟩,?_⟩;refine z7 HE ?_;simp only[vW,seval,p0T];all_goals(first|done|exact⟨by omega,hz⟩|rfl)
  ·have d2:¬(97:Int)≤(c.toNat:Int):=by omega
   by_cases q3:48≤c.toNat
   ·have d4:(48:Int)≤(c.toNat:Int):=by omega
    by_cases q4:c.toNat≤57
    ·have d5:(c.toNat:Int)≤57:=by omega
     have hn:nameB c=true:=by unfold nameB small;simp[q3,q4]
     simp only[vW,seval,d1,d2,d4,d5,ec,w4];refine z13 ⟨z+1,hk,fin hn⟩ (by show l.length-(z+1)<l.length-z;omega) ?_;exact lwA
    ·have d5:¬(c.toNat:Int)≤57:=by omega
     by_cases q5:c.toNat=95
     ·have d6:(c.toNat:Int)=95:=by omega
      have hn:nameB c=true:=by unfold nameB small;simp[q5]
      simp only[vW,seval,d1,d2,d4,d5,d6,ec,w4];refine z13 ⟨z+1,hk,fin hn⟩ (by show l.length-(z+1)<l.length-z;omega) ?_;exact lwA
     ·have d6:¬(c.toNat:Int)=95:=by omega
      have hn:nameB c=false:=by unfold nameB small;simp;omega
      rw[hn,if_neg (by simp),Nat.add_zero]at hd;subst hd;have HE:=HE z rfl;unfold B at HE;cases hr:z11 (l.take z)
      ·rw[hr]at HE;simp only[vW,seval,d1,d2,d4,d5,d6,ec];refine⟨⟨by omega,hz⟩,?_⟩;refine z7 HE ?_;simp only[vW,seval,p0T];all_goals(first|done|exact⟨by omega,hz⟩|rfl)
      ·rw[hr]at HE;simp only[vW,seval,d1,d2,d4,d5,d6,ec];refine⟨⟨by omega,hz⟩,?_⟩;refine z7 HE ?_;simp only[vW,seval,p0T];all_goals(first|done|exact⟨by omega,hz⟩|rfl)
   ·have d4:¬(48:Int)≤(c.toNat:Int):=by omega
    have d6:¬(c.toNat:Int)=95:=by omega
    have hn:nameB c=false:=by unfold nameB small;simp;omega
    rw[hn,if_neg (by simp),Nat.add_zero]at hd;subst hd;have HE:=HE z rfl;unfold B at HE;cases hr:z11 (l.take z)
    ·rw[hr]at HE;simp only[vW,seval,d1,d2,d4,d6,ec];refine⟨⟨by omega,hz⟩,?_⟩;refine z7 HE ?_;simp only[vW,seval,p0T];all_goals(first|done|exact⟨by omega,hz⟩|rfl)
    ·rw[hr]at HE;simp only[vW,seval,d1,d2,d4,d6,ec];refine⟨⟨by omega,hz⟩,?_⟩;refine z7 HE ?_;simp only[vW,seval,p0T];all_goals(first|done|exact⟨by omega,hz⟩|rfl)
 ·have d1:¬(z:Int)<(l.length:Int):=by omega
  rw[List.drop_eq_nil_of_le (by omega),nameZ,Nat.add_zero]at hd;subst hd;have HE:=HE z rfl;unfold B at HE;cases hr:z11 (l.take z)
  ·rw[hr]at HE;simp only[vW,seval,d1];refine⟨⟨by omega,hz⟩,?_⟩;refine z7 HE ?_;simp only[vW,seval,p0T];all_goals(first|done|exact⟨by omega,hz⟩|rfl)
  ·rw[hr]at HE;simp only[vW,seval,d1];refine⟨⟨by omega,hz⟩,?_⟩;refine z7 HE ?_;simp only[vW,seval,p0T];all_goals(first|done|exact⟨by omega,hz⟩|rfl)
theorem hasPrefix_ok(g:Sh.Glob)(l t:zB)(hl:l.length<4611686018427387904):zC g 246 [S (str l),S (str t)] [] (B (t.isPrefixOf l)) []:=by
 have key:zC g 282 [S (str l),S (str t)] [] (B (t.isPrefixOf l)) []:=by
  refine z10 tf_103 ?_;unfold B;by_cases h:t.length≤l.length
  ·have d1:(t.length:Int)≤(l.length:Int):=by omega
   have he:t.isPrefixOf l=(l.take t.length==t):=by
    rw[Bool.eq_iff_iff,List.isPrefixOf_iff_prefix,beq_iff_eq,List.prefix_iff_eq_take];exact⟨fun h=>h.symm,fun h=>h.symm⟩
   rw[he];simp only[vW,seval,d1];all_goals(first|done|exact⟨by omega,h⟩)
  ·have d1:¬(t.length:Int)≤(l.length:Int):=by omega
   have he:t.isPrefixOf l=false:=by
    cases hh:t.isPrefixOf l with
    |false=>rfl
    |true=>exact absurd (List.isPrefixOf_iff_prefix.1 hh).length_le h
   rw[he];simp only[vW,seval,d1]
 refine z10 tf_153 ?_;unfold B at*;simp only[vW,seval];exact z14 key
def longG(l:zB):List (zB)→zB→zB
 |[],best=>best
 |t::r,best=>longG l r (if t.isPrefixOf l=true∧best.length<t.length then t else best)
theorem longest_ok(g:Sh.Glob)(l:zB)(ts:List (zB))(hl:l.length<4611686018427387904)(ht:ts.length<4611686018427387904):zC g 207 [S (str l),.pv (.sl 1 (ts.map fun t=>[.v (.string (str t))]))] [] (S (str (longG l ts []))) []:=by
 refine z10 tf_94 ?_;generalize hR:longG l ts []=R;have e0:=bS [];simp only[vW,seval,e0];refine v_loop (σ:={ q:Nat×zB // q.1≤ts.length∧longG l (ts.drop q.1) q.2=R })
  (fun q=>⟨[(0,S (str l)),(5,S (str q.1.2)),(8,.pv (.sl 1 (ts.map fun t=>[.v (.string (str t))]))),(9,I (ts.length:Int)),(10,I (q.1.1:Int))],[],[],[]⟩) (fun q=>ts.length-q.1.1) ⟨(0,[]),Nat.zero_le _,by simpa using hR⟩ ?_ ?_
 ·exact lwA
 rintro⟨⟨k,best⟩,hk,hd⟩;simp only at hk hd;by_cases hlt:k<ts.length
 ·have d1:(k:Int)<(ts.length:Int):=by omega
  obtain⟨t,et⟩:∃t,ts[k]?=some t:=⟨_,gE hlt⟩
  have hdr:ts.drop k=t::ts.drop (k+1):=by
   obtain⟨_,he⟩:=gJ et;rw[List.drop_eq_getElem_cons hlt,he]
  rw[hdr,longG]at hd;have w4:=wS k;have HP:=hasPrefix_ok g l t hl;unfold B at HP;simp only[vW,seval,d1,et];refine z7 HP ?_;cases hp:t.isPrefixOf l
  ·rw[hp,if_neg (by simp)]at hd;simp only[vW,seval,w4];refine z13 ⟨(k+1,best),hlt,hd⟩ (by show ts.length-(k+1)<ts.length-k;omega) ?_;exact lwA
  ·by_cases hb:best.length<t.length
   ·have d2:(best.length:Int)<(t.length:Int):=by omega
    rw[hp,if_pos ⟨rfl,hb⟩]at hd;simp only[vW,seval,w4,d2];refine z13 ⟨(k+1,t),hlt,hd⟩ (by show ts.length-(k+1)<ts.length-k;omega) ?_;exact lwA
   ·have d2:¬(best.length:Int)<(t.length:Int):=by omega
    rw[hp,if_neg (fun h=>hb h.2)]at hd;simp only[vW,seval,w4,d2];refine z13 ⟨(k+1,best),hlt,hd⟩ (by show ts.length-(k+1)<ts.length-k;omega) ?_;exact lwA
 ·have d1:¬(k:Int)<(ts.length:Int):=by omega
  rw[List.drop_eq_nil_of_le (by omega),longG]at hd;simp only[vW,seval,d1];rw[hd]
def txtP(r:Option (zB×Nat)):Option (Pc×Nat):=r.map fun x=>(⟨2,0,x.1,0⟩,x.2)
theorem by1(acc:zB)(c:UInt8):byR acc++[[.v (.int .u8 (c.toNat:Int))]]=byR (acc++[c]):=by simp[byR]
theorem readText_ok'(m:Nat)(b:UInt8)(r:zB)(hl:r.length<70368744177664):zC (gl0 m) 206 [S (str (b::r))] [] (p0T (txtP (quoG r [] 1))) []:=by
 refine z10 tf_99 ?_;generalize hR:quoG r [] 1=R;have hd0:(b::r).drop 1=r:=rfl;rw[←hd0]at hR;have hl1:1≤(b::r).length:=by simp
 have hll:(b::r).length<70368744177674:=by simp;omega
 generalize b::r=l at*;have hm:maxLen=9223372036854775807:=rfl;simp only[vW,seval];refine v_loop (σ:={ q:Nat×zB // q.1≤l.length∧q.2.length≤q.1∧quoG (l.drop q.1) q.2 q.1=R })
  (fun q=>⟨[(0,S (str l)),(2,.ptr 2 0),(4,.own 3000 1 (byR q.1.2)),(5,I (q.1.1:Int))],[(2,[I 0,I 0,S ⟨#[]⟩,I 0])],[(3000,(5,1,q.1.2.length))],[]⟩) (fun q=>l.length-q.1.1) ⟨(1,[]),hl1,by simp,hR⟩ ?_ ?_
 ·refine ES.Lw.trans ?_ (adT_lw (k:=4) (d:=3000) (e:=5) (W:=1) (.inr (by decide)) rfl);exact lw_eq rfl
 rintro⟨⟨k,acc⟩,hk,ha,hd⟩;simp only at hk ha hd;by_cases hlt:k<l.length
 ·have d1:(k:Int)<(l.length:Int):=by omega
  obtain⟨c,ec⟩:∃c,l[k]?=some c:=⟨_,gE hlt⟩
  have hc:=c.toNat_lt;have w1:=wS k;have w2:IntKind.i64.wrap (((k+1:Nat):Int)+1)=((k+2:Nat):Int):=wG;have HT:=eRightText_ok m acc (by omega);unfold B at HT;by_cases c34:c.toNat=34
  ·obtain rfl:c=34:=UInt8.toNat_inj.1 c34;rw[z83 ec,quoG_34]at hd;simp only[vW,seval,byP,byApp,byLen,bySeq,strMk,d1,ec];(with_reducible apply v_call);simp only[vW,seval,byP,byApp,byLen,bySeq,strMk];rfl;rfl;exact HT;exact km;simp only[vW,seval,byP,byApp,byLen,bySeq,strMk];rfl;cases hr:z18 acc
   ·rw[hr,if_neg (by simp)]at hd;subst hd;simp only[vW,seval,byP,byApp,byLen,bySeq,strMk,p0T,txtP];all_goals(first|done|rfl)
   ·rw[hr,if_pos rfl]at hd;subst hd;simp only[vW,seval,byP,byApp,byLen,bySeq,strMk,p0T,txtP,w1];all_goals(first|done|rfl)
  have d34:¬(c.toNat:Int)=34:=by omega
  have n34:c≠34:=fun h=>c34 (by rw[h];rfl);by_cases c92:c.toNat=92
  ·obtain rfl:c=92:=UInt8.toNat_inj.1 c92;rw[z83 ec]at hd;by_cases hend:k+1=l.length
   ·rw[List.drop_eq_nil_of_le (by omega)]at hd;have hd:none=R:=by rw[←hd,quoG.eq_def];rfl
    subst hd;have d5:((k+1:Nat):Int)=(l.length:Int):=by omega
    simp only[vW,seval,byP,byApp,byLen,bySeq,strMk,d1,ec,w1,d5,p0T,txtP];all_goals(first|done|rfl)
   have d5:¬((k+1:Nat):Int)=(l.length:Int):=by omega
   obtain⟨c2,ec2⟩:∃c,l[k+1]?=some c:=⟨_,gE (by omega)⟩
   have hc2:=c2.toNat_lt;rw[z83 ec2,quoG_92]at hd;by_cases g34:c2.toNat=34
   ·have h2:c2=34∨c2=92:=.inl (UInt8.toNat_inj.1 g34);rw[if_pos h2]at hd;have d6:(c2.toNat:Int)=34:=by omega
    simp only[vW,seval,byP,byApp,byLen,bySeq,strMk,d1,ec,w1,w2,d5,ec2,d6,by1];refine⟨⟨by omega,by omega⟩,z13 ⟨(k+2,acc++[c2]),by show k+2≤l.length;omega,by show(acc++[c2]).length≤k+2;simp;omega,hd⟩ (by show l.length-(k+2)<l.length-k;omega) ?_⟩;apply lw_of<;>simp[leL,lk,sv,Nat.beq,I,S,ES.kill,has,drp,nilT,by1]
    rw[←by1,d6]
   ·have d6:¬(c2.toNat:Int)=34:=by omega
    by_cases g92:c2.toNat=92
    ·have h2:c2=34∨c2=92:=.inr (UInt8.toNat_inj.1 g92);rw[if_pos h2]at hd;have d7:(c2.toNat:Int)=92:=by omega
     simp only[vW,seval,byP,byApp,byLen,bySeq,strMk,d1,ec,w1,w2,d5,ec2,d6,d7,by1];refine⟨⟨by omega,by omega⟩,z13 ⟨(k+2,acc++[c2]),by show k+2≤l.length;omega,by show(acc++[c2]).length≤k+2;simp;omega,hd⟩ (by show l.length-(k+2)<l.length-k;omega) ?_⟩;apply lw_of<;>simp[leL,lk,sv,Nat.beq,I,S,ES.kill,has,drp,nilT,by1]
     rw[←by1,d7]
    ·have d7:¬(c2.toNat:Int)=92:=by omega
     have h2:¬(c2=34∨c2=92):=by rintro(rfl|rfl)<;>simp at g34 g92
     rw[if_neg h2]at hd;subst hd;simp only[vW,seval,byP,byApp,byLen,bySeq,strMk,d1,ec,w1,d5,ec2,d6,d7,p0T,txtP];all_goals(first|done|rfl)
  ·have d92:¬(c.toNat:Int)=92:=by omega
   have n92:c≠92:=fun h=>c92 (by rw[h];rfl);rw[z83 ec,quoG_c n34 n92]at hd;simp only[vW,seval,byP,byApp,byLen,bySeq,strMk,d1,ec,w1,d34,d92,by1];refine⟨⟨by omega,by omega⟩,z13 ⟨(k+1,acc++[c]),by show k+1≤l.length;omega,by show(acc++[c]).length≤k+1;simp;omega,hd⟩ (by show l.length-(k+1)<l.length-k;omega) ?_⟩;apply lw_of<;>simp[leL,lk,sv,Nat.beq,I,S,ES.kill,has,drp,nilT,by1]
 ·have d1:¬(k:Int)<(l.length:Int):=by omega
  rw[List.drop_eq_nil_of_le (by omega)]at hd;have hd:none=R:=by rw[←hd,quoG.eq_def]
  subst hd;simp only[vW,seval,byP,byApp,byLen,bySeq,strMk,d1,p0T,txtP];all_goals(first|done|rfl)
def signL0:List (zB):=[[61],[60,62],[60],[60,61],[62],[62,61],[38],[43],[45],[42],[47],[37],[40],[41],[44]]
theorem longG_sign(b:UInt8)(r:zB):longG (b::r) signL0 []=signP (b::r):=by
 have h2:∀x y:UInt8,[x,y].isPrefixOf (b::r)=(x==b&&decide (r.head?=some y)):=by
  intro x y;cases r with
  |nil=>simp[List.isPrefixOf]
  |cons c r=>rw[Bool.eq_iff_iff];simp[List.isPrefixOf];exact fun _=>eq_comm
 have h1:∀x:UInt8,[x].isPrefixOf (b::r)=(x==b):=by intro x;simp[List.isPrefixOf]
 unfold signL0 signP;simp only[longG,h1,h2];by_cases e60:b=60
 ·subst e60;by_cases g62:r.head?=some 62
  ·have g61:¬r.head?=some 61:=by rw[g62];decide
   simp[g62]
  ·by_cases g61:r.head?=some 61
   ·simp[g61]
   ·simp[g61,g62]
 by_cases e62:b=62
 ·subst e62;by_cases g61:r.head?=some 61
  ·simp[g61]
  ·simp[g61]
 have n:∀x:UInt8,(x==b)=decide (b=x):=fun x=>by rw[Bool.eq_iff_iff];simp;exact eq_comm
 simp only[n];by_cases e1:b=61;· subst e1;simp
 by_cases e2:b=38;· subst e2;simp
 by_cases e3:b=43;· subst e3;simp
 by_cases e4:b=45;· subst e4;simp
 by_cases e5:b=42;· subst e5;simp
 by_cases e6:b=47;· subst e6;simp
 by_cases e7:b=37;· subst e7;simp
 by_cases e8:b=40;· subst e8;simp
 by_cases e9:b=41;· subst e9;simp
 by_cases e10:b=44;· subst e10;simp
 simp[e1,e2,e3,e4,e5,e6,e7,e8,e9,e10,e60,e62]
theorem read_ok(m:Nat)(b:UInt8)(r:zB)(hl:r.length<70368744177664):zC (gl0 m) 130 [S (str (b::r))] [] (p0T (readP (b::r) 0)) []:=by
 have HN:=readNumber_ok (gl0 m) (b::r) (by simp;omega);have HM:=readName_ok (gl0 m) (b::r) (by simp;omega);have HT:=readText_ok' m b r hl;have HL:=longest_ok (gl0 m) (b::r) signL0 (by simp;omega) (by decide);rw[longG_sign]at HL;have hb0:(b::r)[0]?=some b:=rfl;have hbn:=b.toNat_lt;refine z10 tf_96 ?_;unfold readP;simp only;unfold numP at HN;unfold nameP at HM;generalize hL:b::r=l at*;have g0:0<l.length:=by rw[←hL];simp
 have e0:=bS [];have hsg:∀t:zB,(t==([]:zB))=decide (t=[]):=fun t=>by rw[Bool.eq_iff_iff];simp
 by_cases q1:48≤b.toNat
 ·have d1:(48:Int)≤(b.toNat:Int):=by omega
  by_cases q2:b.toNat≤57
  ·have d2:(b.toNat:Int)≤57:=by omega
   rw[if_pos (by unfold digB;simp[q1,q2])];by_cases hn:1000000000000000<(numG l 0 0).1
   ·rw[if_pos hn]at HN ⊢;unfold p0T at*;simp only[vW,seval,hb0,d1,d2];exact z14 HN
   ·rw[if_neg hn]at HN ⊢;unfold p0T at*;simp only[vW,seval,hb0,d1,d2];exact z14 HN
  ·have d2:¬(b.toNat:Int)≤57:=by omega
   rw[if_neg (by unfold digB;simp[q2])];by_cases q3:97≤b.toNat∧b.toNat≤122
   ·have d3:(97:Int)≤(b.toNat:Int):=by omega
    have d4:(b.toNat:Int)≤122:=by omega
    rw[if_pos (by unfold small;simp[q3])];cases hr:z11 (l.take (nameZ l))
    ·rw[hr]at HM;simp only[Bool.false_eq_true,if_false]at HM ⊢;unfold p0T at*;simp only[vW,seval,hb0,d1,d2,d3,d4];exact z14 HM
    ·rw[hr]at HM;simp only[if_true]at HM ⊢;unfold p0T at*;simp only[vW,seval,hb0,d1,d2,d3,d4];exact z14 HM
   rw[if_neg (by unfold small;simp;omega)];by_cases c34:b=34
   ·subst c34;have d5:((34:UInt8).toNat:Int)=34:=rfl;have d3:¬(97:Int)≤((34:UInt8).toNat:Int):=by decide
    rw[if_pos rfl];cases hq:quoG r [] 1 with
    |none=>
     rw[hq]at HT;simp only[txtP,Option.map_none]at HT ⊢;unfold p0T at*;simp only[vW,seval,hb0,d1,d2,d3,d5];exact z14 HT
    |some x=>
     obtain⟨t,k⟩:=x;rw[hq]at HT;simp only[txtP,Option.map_some]at HT ⊢;unfold p0T at*;simp only[vW,seval,hb0,d1,d2,d3,d5];exact z14 HT
   rw[if_neg c34];have n34:¬(b.toNat:Int)=34:=fun h=>c34 (UInt8.toNat_inj.1 (by show b.toNat=34;omega));by_cases q4:97≤b.toNat
   ·have d3:(97:Int)≤(b.toNat:Int):=by omega
    have d4:¬(b.toNat:Int)≤122:=by omega
    by_cases hsn:signP l=[]
    ·rw[if_pos hsn];rw[hsn]at HL;unfold p0T;simp only[vW,seval,hb0,d1,d2,d3,d4,n34];refine z7 HL ?_;simp only[vW,seval,e0,hsg]
    ·rw[if_neg hsn];unfold p0T;simp only[vW,seval,hb0,d1,d2,d3,d4,n34];refine z7 HL ?_;simp only[vW,seval,e0,hsg,hsn]
   ·have d3:¬(97:Int)≤(b.toNat:Int):=by omega
    by_cases hsn:signP l=[]
    ·rw[if_pos hsn];rw[hsn]at HL;unfold p0T;simp only[vW,seval,hb0,d1,d2,d3,n34];refine z7 HL ?_;simp only[vW,seval,e0,hsg]
    ·rw[if_neg hsn];unfold p0T;simp only[vW,seval,hb0,d1,d2,d3,n34];refine z7 HL ?_;simp only[vW,seval,e0,hsg,hsn]
 ·have d1:¬(48:Int)≤(b.toNat:Int):=by omega
  rw[if_neg (by unfold digB;simp[q1])];by_cases q3:97≤b.toNat∧b.toNat≤122
  ·have d3:(97:Int)≤(b.toNat:Int):=by omega
   have d4:(b.toNat:Int)≤122:=by omega
   rw[if_pos (by unfold small;simp[q3])];cases hr:z11 (l.take (nameZ l))
   ·rw[hr]at HM;simp only[Bool.false_eq_true,if_false]at HM ⊢;unfold p0T at*;simp only[vW,seval,hb0,d1,d3,d4];exact z14 HM
   ·rw[hr]at HM;simp only[if_true]at HM ⊢;unfold p0T at*;simp only[vW,seval,hb0,d1,d3,d4];exact z14 HM
  rw[if_neg (by unfold small;simp;omega)];by_cases c34:b=34
  ·subst c34;have d5:((34:UInt8).toNat:Int)=34:=rfl;have d3:¬(97:Int)≤((34:UInt8).toNat:Int):=by decide
   rw[if_pos rfl];cases hq:quoG r [] 1 with
   |none=>
    rw[hq]at HT;simp only[txtP,Option.map_none]at HT ⊢;unfold p0T at*;simp only[vW,seval,hb0,d1,d3,d5];exact z14 HT
   |some x=>
    obtain⟨t,k⟩:=x;rw[hq]at HT;simp only[txtP,Option.map_some]at HT ⊢;unfold p0T at*;simp only[vW,seval,hb0,d1,d3,d5];exact z14 HT
  rw[if_neg c34];have n34:¬(b.toNat:Int)=34:=fun h=>c34 (UInt8.toNat_inj.1 (by show b.toNat=34;omega));by_cases q4:97≤b.toNat
  ·have d3:(97:Int)≤(b.toNat:Int):=by omega
   have d4:¬(b.toNat:Int)≤122:=by omega
   by_cases hsn:signP l=[]
   ·rw[if_pos hsn];rw[hsn]at HL;unfold p0T;simp only[vW,seval,hb0,d1,d3,d4,n34];refine z7 HL ?_;simp only[vW,seval,e0,hsg]
   ·rw[if_neg hsn];unfold p0T;simp only[vW,seval,hb0,d1,d3,d4,n34];refine z7 HL ?_;simp only[vW,seval,e0,hsg,hsn]
  ·have d3:¬(97:Int)≤(b.toNat:Int):=by omega
   by_cases hsn:signP l=[]
   ·rw[if_pos hsn];rw[hsn]at HL;unfold p0T;simp only[vW,seval,hb0,d1,d3,n34];refine z7 HL ?_;simp only[vW,seval,e0,hsg]
   ·rw[if_neg hsn];unfold p0T;simp only[vW,seval,hb0,d1,d3,n34];refine z7 HL ?_;simp only[vW,seval,e0,hsg,hsn]
end Go.Proofs.YtcpaleaajdilgaaGreatDoor
end

section
namespace Go.Mor
open Go
theorem numG_len:∀(l:zB) (n:Int) (z:Nat),z≤(numG l n z).2∧(numG l n z).2≤z+l.length
 |[],n,z=>by simp[numG]
 |b::r,n,z=>by
  unfold numG;split
  ·have:=numG_len r (min (10*n+((b.toNat:Int) - 48)) 1000000000000001) (z+1)
   grind
  ·simp
theorem nameZ_len:∀(l:zB),nameZ l≤l.length
 |[]=>by simp[nameZ]
 |b::r=>by
  unfold nameZ;split
  ·have:=nameZ_len r;simp;omega
  ·omega
theorem quoG_len:∀(l acc:zB) (k:Nat) (t:zB) (z:Nat),quoG l acc k=some (t,z)→k≤z∧z≤k+l.length
 |[],acc,k,t,z,h=>by simp[quoG]at h
 |b::r,acc,k,t,z,h=>by
  unfold quoG at h;split at h
  ·grind
  ·split at h
   ·split at h
    ·cases h
    ·rename_i c r';split at h
     ·have:=quoG_len r' _ _ _ _ h;simp;omega
     ·cases h
   ·have:=quoG_len r _ _ _ _ h;simp;omega
theorem signP_len(l:zB):(signP l).length≤l.length:=by
 cases l with
 |nil=>simp[signP]
 |cons b r=>
  unfold signP;cases r<;>grind
theorem readP_pos{b:UInt8}{r:zB}{p:Nat}{q:Pc}{z:Nat}(h:readP (b::r) p=some (q,z)):1≤z∧z≤(b::r).length∧q.k≠0∧q.p=p:=by
 unfold readP at h;simp at h;split at h
 ·grind [numG,numG_len]
 ·split at h
  ·grind [nameZ_len,nameZ,nameB]
  ·split at h
   ·split at h
    ·rename_i t k hq;have:=quoG_len _ _ _ _ _ hq
     grind
    ·cases h
   ·grind [signP_len,signP]
theorem readP_at(l:zB)(p:Nat):readP l p=(readP l 0).map fun x=>(⟨x.1.k,x.1.n,x.1.s,p⟩,x.2):=by
 cases l with
 |nil=>rfl
 |cons b r=>
  unfold readP
  repeat' split
  all_goals first|rfl|simp_all
end Go.Mor
end

section
namespace Go.Proofs.YtcpaleaajdilgaaGreatDoor
open Go Go.RowKit Go.Mor Go.Sh Go.Sh.Cd1 Go.Sh.Cd5
section
def iH:Nat→Option Nat→Nat:=hintT [(26,0),(33,1)]
def iF:Nat→List (Nat→Option Nat):=fpT []
def iK:Nat→List Nat:=killT [(1,[6,7,8,9,10,11,12,13,14]),(2,[15,16,17]),(3,[18,19,20]),(4,[21,22,23,24,25,26,27,28]),(5,[29,30]),(6,[4,31,32,33,34,35,36,37]),(7,[5,38,39,40,41])]
def c7o:List SOper:=[⟨some 31,none,none,.mov (.tmp 0)⟩,⟨some 32,none,none,.ld true 4 (.tmp 4)⟩,⟨some 33,none,none,.callv (.tmp 31) 1 [.tmp 32]⟩,⟨some 34,none,none,.un .not (.tmp 33)⟩,⟨some 35,none,none,.mov (.tmp 34)⟩,⟨some 36,some (35,false),none,.mov (.tmp 5)⟩,⟨some 37,some (35,false),none,.bin .eql 3 (.tmp 36) (.val (.int .i64 0))⟩,⟨some 38,none,none,.pick (.tmp 35) (.val (.bool true)) (.tmp 37)⟩]
theorem codeI_eq:∃c0 cA cB cC cD id ops cE cF,Tryz.f129.body=some (.seq c0 (.block 0 (.loop (.block 1 (.seq cA (.seq cB (.seq cC (.seq cD (.seq (.seq (.region id ops false) cE) cF)))))))))
  ∧z15 Tryz.prog 42 iH iF iK c0=some c_expr_pieces_1_0∧z15 Tryz.prog 42 iH iF iK cA=some (.block 2 (.loop c_expr_pieces_1_3))∧z15 Tryz.prog 42 iH iF iK cB=some (.seq c_expr_pieces_1_4 (.cond (.tmp 21) .ret .skip))
  ∧(∃sc,z15 Tryz.prog 42 iH iF iK cC=some sc∧sc=c_expr_pieces_1_5)∧z15 Tryz.prog 42 iH iF iK cD=some c_expr_pieces_1_6
  ∧(z44 Tryz.prog 42 (iH 6) (fun _=>none) ops false=some c7o∧∃o aT,ops[2]?=some o∧o.guard=none∧o.dst=some 33∧o.op=Op.call { callee:=.value (.tmp 31),args:= #[.tmp 32],argTypes:=aT })∧z15 Tryz.prog 42 iH iF iK cE=some (.cond (.tmp 38) .ret .skip)∧z15 Tryz.prog 42 iH iF iK cF=some c_expr_pieces_1_8:=by
 refine⟨_,_,_,_,_,_,_,_,_,rfl,?_,?_,?_,⟨_,?_,rfl⟩,?_,⟨?_,_,_,rfl,rfl,rfl,rfl⟩,?_,?_⟩
 ·kernel_rfl
 ·kernel_rfl
 ·kernel_rfl
 ·kernel_rfl
 ·kernel_rfl
 ·kernel_rfl
 ·kernel_rfl
 ·kernel_rfl
def encP(q:Pc):Array Value:= #[.agg #[.int .i64 q.k,.int .i64 q.n,.string (str q.s),.int .i64 (q.p:Int)]]
section
variable(g:Sh.Glob)(s:zB)(O:List Nat)(β:Nat)(J:List Pc→World→Prop)(R:Lx)
structure PW(b off:Nat)(pre:List Pc)(W:World):Prop where
 cell:W.cell? ⟨b,off,none⟩=some (.string (str s))
 nO:b∉O
 nrb:¬rbOf β W b
 rlt:∀j,rbOf β W j→j<W.heap.size
 Olt:∀x∈O,x<W.heap.size
 βO:β∈O
 G:g.G W
 j:J pre W
structure PI(fv:Value)(k:Nat)(pre:List Pc)(a:Act)(W:World):Prop where
 size:a.tmps.size=42
 defs:a.defers=[]
 t0:a.tmps.getD 0 undef=fv
 t3:a.tmps.getD 3 undef=.int .i64 (k:Int)
 w:∃b off,a.tmps.getD 1 undef=.pointer (some ⟨b,off,none⟩)∧PW g s O β J b off pre W
 lex:∃f,lexG f (s.drop k) k pre=some R
 le:k≤s.length
 pk:pre.length≤k
variable{g s O β J R}
def elS(s:zB):TV:=.pv (.el [.v (.string (str s))])
theorem PW.grown{b off:Nat}{pre:List Pc}{W W':World}(hJ:∀pre W W',J pre W→W.grownBy W' none→J pre W')(h:PW g s O β J b off pre W)(hg:W.grownBy W' none):PW g s O β J b off pre W':=by
 have hs:∀k,k<W.heap.size→W'.heap[k]?=W.heap[k]?:=fun k hk=>hg.block k hk (by simp);have hb:b<W.heap.size:=by
  obtain⟨o,ho,_⟩:=z96 h.cell;exact(gA ho).1
 have hβ:=h.Olt β h.βO;have hr:=fun k=>z128 (β:=β) (hs β hβ) k;have hn:=g.le _ h.G;exact⟨(World.cell?_of_block (w:=W) (a:=⟨b,off,none⟩) (hs b hb)).trans h.cell,h.nO,fun h1=>h.nrb ((hr _).1 h1),fun j hj=>Nat.lt_of_lt_of_le (h.rlt j ((hr _).1 hj)) hg.size,fun x hx=>Nat.lt_of_lt_of_le (h.Olt x hx) hg.size,h.βO,g.st _ _ h.G (fun k hk=>hs k (by omega)),hJ _ _ _ h.j hg⟩
theorem PW.moved{b off b' off':Nat}{pre:List Pc}{W W':World}(hJ:∀pre W W',J pre W→W.grownBy W' none→J pre W')(h:PW g s O β J b off pre W)(hg:W.grownBy W' none)(hc:W'.cell? ⟨b',off',none⟩=some (.string (str s)))(hb:(b'=b∧off'=off)∨W.heap.size≤b'):PW g s O β J b' off' pre W':=by
 have h1:=h.grown hJ hg;rcases hb with⟨rfl,rfl⟩|hb
 ·exact h1
 have hβ:=h.Olt β h.βO;refine⟨hc,fun hx=> ?_,fun hx=> ?_,h1.rlt,h1.Olt,h1.βO,h1.G,h1.j⟩
 ·have:=h.Olt _ hx;omega
 ·have:=h.rlt _ ((z128 (hg.block β hβ (by simp)) b').1 hx);omega
theorem PW.kept{b off:Nat}{pre pre':List Pc}{W W':World}(h:PW g s O β J b off pre W)(hk:Kp O β g.n W W')(hj:J pre' W'):PW g s O β J b off pre' W':=by
 obtain⟨o,ho,hc⟩:=z96 h.cell;have hb:=(gA ho).1;have hs:=(hk.same b o ho hc h.nO h.nrb).trans ho.symm;refine⟨(World.cell?_of_block (w:=W) (a:=⟨b,off,none⟩) hs).trans h.cell,h.nO,fun h1=> ?_,hk.lt h.rlt,fun x hx=>Nat.lt_of_lt_of_le (h.Olt x hx) hk.size,h.βO,g.st _ _ h.G hk.glob,hj⟩;rcases hk.rb b h1 with h2|h2
 ·exact h.nrb h2
 ·omega
theorem PW.el{b off:Nat}{pre:List Pc}{W:World}{K:Nat→Nat→Prop}(h:PW g s O β J b off pre W)(hK:K b off):RelT W (EK K) (fun _=>none) (elS s) (.pointer (some ⟨b,off,none⟩)):=by
 refine .pv (.el _ b off (fun _=> .string (str s)) (fun j c hj=> ?_) (fun j c hj=> ?_))
 ·match j,hj with
  |0,_=>exact⟨hK,h.cell,rfl⟩
  |j+1,hj=>simp at hj
 ·match j,hj with
  |0,hj=>cases hj;exact .v _
  |j+1,hj=>simp at hj
theorem el_inv{W:World}{E:Env}{r:Sh.Rows}{v:Value}(h:RelT W E r (elS s) v):∃b off,v=.pointer (some ⟨b,off,none⟩)∧E.K b off∧W.cell? ⟨b,off,none⟩=some (.string (str s)):=by
 cases h with
 |pv h=>
  cases h with
  |el _ b off f hc hs=>
   obtain⟨h1,h2,_⟩:=hc 0 _ rfl;have h3:=hs 0 _ rfl;generalize f 0=u at h2 h3;cases h3;exact⟨b,off,rfl,h1,h2⟩
variable{fv:Value}
abbrev sI(s:zB)(fv:Value)(k:Nat):ES:=⟨[(0,.pv (.v fv)),(1,elS s),(3,I (k:Int))],[],[],[]⟩
theorem PI.sim{k:Nat}{pre:List Pc}{a:Act}{W:World}(h:PI g s O β J R fv k pre a W):∃b off,PW g s O β J b off pre W∧Sim (Sh.start W (EK fun j o=>j=b∧o=off) [] 42) (sI s fv k).fs a W (EK fun j o=>j=b∧o=off):=by
 obtain⟨b,off,h1,hw⟩:=h.w;refine⟨b,off,hw,simT (fun j o hj=> ?_) h.size h.defs _ (fun j x hx=> ?_)⟩
 ·obtain⟨o',ho,_⟩:=z96 hw.cell;rw[hj.1];exact(gA ho).1
 ·simp only[List.mem_cons,List.not_mem_nil,or_false,Prod.mk.injEq]at hx;rcases hx with⟨rfl,rfl⟩|⟨rfl,rfl⟩|⟨rfl,rfl⟩
  ·rw[h.t0];exact⟨by decide,.pv (.v _)⟩
  ·rw[h1];exact⟨by decide,hw.el ⟨rfl,rfl⟩⟩
  ·rw[h.t3];exact⟨by decide,.pv (.v _)⟩
theorem PW.back(hJ:∀pre W W',J pre W→W.grownBy W' none→J pre W'){b off:Nat}{pre:List Pc}{W W':World}(hw:PW g s O β J b off pre W){s':FS}{a':Act}{E':Env}(hS:Sim (Sh.start W (EK fun j o=>j=b∧o=off) [] 42) s' a' W' E')(h1:s'.t 1=some (elS s)):
  ∃b' off',a'.tmps.getD 1 undef=.pointer (some ⟨b',off',none⟩)∧PW g s O β J b' off' pre W':=by
 have hg:=grown_of hS;obtain⟨b',off',e1,e2,e3⟩:=el_inv (hS.tmp 1 _ h1).2;refine⟨b',off',e1,hw.moved hJ hg e3 ?_⟩;rcases hS.mem.knew _ _ e2 with h2|h2|⟨d,h2⟩
 ·exact .inl h2
 ·exact .inr h2
 ·exact absurd (startX (n:=b'+1) d b' h2) (by omega)
theorem val_v{W:World}{E:Env}{r:Sh.Rows}{x v:Value}(h:RelT W E r (.pv (.v x)) v):v=x:=by
 cases h with|pv h=>cases h;rfl
theorem PI.back(hJ:∀pre W W',J pre W→W.grownBy W' none→J pre W'){b off k':Nat}{pre:List Pc}{W W':World}(hw:PW g s O β J b off pre W){s':FS}{a':Act}{E':Env}(hS:Sim (Sh.start W (EK fun j o=>j=b∧o=off) [] 42) s' a' W' E')(h0:s'.t 0=some (.pv (.v fv)))(h1:s'.t 1=some (elS s))(h3:s'.t 3=some (I (k':Int)))
  (hx:∃f,lexG f (s.drop k') k' pre=some R) (hle:k'≤s.length) (hpk:pre.length≤k'):PI g s O β J R fv k' pre a' W':=
 ⟨hS.size,hS.defers,val_v (hS.tmp 0 _ h0).2,val_v (hS.tmp 3 _ h3).2,hw.back hJ hS h1,hx,hle,hpk⟩
theorem stA_w(g:Sh.Glob)(hs:s.length<70368744177664)(k:Nat)(hk:k≤s.length){pre:List Pc}(hx:∃f,lexG f (s.drop k) k pre=some R):
  swp Tryz.prog g (.block 2 (.loop c_expr_pieces_1_3)) (fun e s'=>e=.normal∧∃k',k≤k'∧k'≤s.length∧(∃f,lexG f (s.drop k') k' pre=some R)∧(∀x,s[k']?=some x→x≠32)∧lk s'.t 0=some (.pv (.v fv))∧lk s'.t 1=some (elS s)∧lk s'.t 3=some (I (k':Int))) (sI s fv k):=by
 unfold sI elS;simp only[vW,seval];refine v_loop (σ:={z:Nat // k≤z∧z≤s.length∧∃f,lexG f (s.drop z) z pre=some R}) (fun z=>sI s fv z.1) (fun z=>s.length-z.1) ⟨k,Nat.le_refl _,hk,hx⟩ ?_ ?_
 ·unfold sI elS;exact lwA
 rintro⟨z,hz,hzl,f,hf⟩;unfold sI elS;by_cases hlt:z<s.length
 ·have d1:(z:Int)<(s.length:Int):=by omega
  obtain⟨x,ex⟩:∃x,s[z]?=some x:=⟨_,gE hlt⟩
  have w1:=wS z;simp only[vW,seval,d1,ex,w1];have hdr:s.drop z=x::s.drop (z+1):=by rw[List.drop_eq_getElem_cons hlt];congr 1;exact(gJ ex).2
  refine⟨fun h=> ?_,fun h=>⟨z,hz,hzl,⟨f,hf⟩,fun y ey he=> ?_,rfl⟩⟩
  ·have hx32:x=32:=UInt8.toNat_inj.1 (by show x.toNat=32;omega);rw[hdr]at hf;cases f with
   |zero=>simp[lexG]at hf
   |succ f=>
    simp only[lexG,hx32,if_true]at hf;refine z13 ⟨z+1,by omega,by omega,f,hf⟩ (by show s.length-(z+1)<s.length-z;omega) ?_;exact lwA
  ·rw[ex]at ey;cases ey;subst he;exact h rfl
 ·have d1:¬(z:Int)<(s.length:Int):=by omega
  simp only[vW,seval,d1];exact⟨z,hz,hzl,⟨f,hf⟩,fun y ey=>absurd (gJ ey).1 hlt,rfl⟩
theorem stB_w(g:Sh.Glob)(k:Nat)(hk:k≤s.length):
  swp Tryz.prog g (.seq c_expr_pieces_1_4 (.cond (.tmp 21) .ret .skip)) (fun e s'=>(e=.ret∧k=s.length)∨(e=.normal∧k<s.length∧lk s'.t 0=some (.pv (.v fv))∧lk s'.t 1=some (elS s)∧lk s'.t 3=some (I (k:Int)))) (sI s fv k):=by
 unfold sI elS;by_cases h:k=s.length
 ·have d1:(k:Int)=(s.length:Int):=by omega
  simp only[vW,seval,d1];exact h
 ·have d1:¬(k:Int)=(s.length:Int):=by omega
  simp only[vW,seval,d1];omega
def pcAt(r:Option (Pc×Nat))(k:Nat):Pc×Nat:=match r with
 |some (q,z)=>(q,z)
 |none=>(⟨0,0,[],k⟩,0)
theorem p0T_at(l:zB)(k:Nat):p0T (readP l 0)=.tuple [.agg [I (pcAt (readP l k) k).1.k,I (pcAt (readP l k) k).1.n,S (str (pcAt (readP l k) k).1.s),I 0],I ((pcAt (readP l k) k).2:Int)]:=by
 rw[readP_at l k];cases h:readP l 0 with
 |none=>rfl
 |some x=>
  obtain⟨q,z⟩:=x;have hq:q.p=0:=by
   cases l with
   |nil=>simp[readP]at h
   |cons b r=>exact(readP_pos h).2.2.2
  simp[p0T,pcAt,Option.map]
theorem pcAt_p(b:UInt8)(r:zB)(k:Nat):(pcAt (readP (b::r) k) k).1.p=k:=by
 cases h:readP (b::r) k with
 |none=>rfl
 |some x=>obtain⟨q,z⟩:=x;exact(readP_pos h).2.2.2
abbrev sC(s:zB)(fv:Value)(k:Nat)(q:Pc)(z:Nat)(p:Nat):ES:=⟨[(0,.pv (.v fv)),(1,elS s),(3,I (k:Int)),(4,.ptr 4 0),(5,I (z:Int))],[(4,[I q.k,I q.n,S (str q.s),I (p:Int)])],[],[]⟩
theorem stC_w(m:Nat)(hs:s.length<70368744177664)(k:Nat){b:UInt8}{r:zB}(hd:s.drop k=b::r):
  swp Tryz.prog (gl0 m) c_expr_pieces_1_5 (fun e s'=>e=.normal∧s'=sC s fv k (pcAt (readP (b::r) k) k).1 (pcAt (readP (b::r) k) k).2 0) (sI s fv k):=by
 have hlen:k<s.length:=by
  rcases Nat.lt_or_ge k s.length with h|h
  ·exact h
  ·rw[List.drop_eq_nil_of_le h]at hd;cases hd
 have hr:r.length<70368744177664:=by have:=congrArg List.length hd;rw[List.length_drop,List.length_cons]at this;omega
 have HR:=read_ok m b r hr;rw[p0T_at _ k,←hd]at HR;rw[←hd];unfold sC sI elS;have ht:List.take (s.length-k) (s.drop k)=s.drop k:=List.take_of_length_le (by rw[List.length_drop];exact Nat.le_refl _);simp only[vW,seval,ht];refine⟨by omega,?_⟩;exact z14 HR
theorem stD_w(g:Sh.Glob)(k:Nat)(q:Pc)(z:Nat):swp Tryz.prog g c_expr_pieces_1_6 (fun e s'=>e=.normal∧s'=sC s fv k q z k) (sC s fv k q z 0):=by
 unfold sC elS;simp only[vW,seval]
abbrev sE(s:zB)(fv:Value)(k:Nat)(q:Pc)(z:Nat):ES:=⟨[(0,.pv (.v fv)),(1,elS s),(3,I (k:Int)),(4,.ptr 4 0),(5,I (z:Int)),(31,.pv (.v fv)),(32,.agg [I q.k,I q.n,S (str q.s),I (k:Int)])],[(4,[I q.k,I q.n,S (str q.s),I (k:Int)])],[],[]⟩
theorem stE_w(g:Sh.Glob)(k:Nat)(q:Pc)(z:Nat):opsW Tryz.prog g (c7o.take 2) (fun s'=>s'=sE s fv k q z) ((sC s fv k q z k).fgt [2132,2133,2134,2135]):=by
 unfold sC sE elS c7o;simp only[vW,seval]
abbrev sF(fv:Value)(v1:Value)(k z:Nat)(t:Bool):ES:=⟨[(0,.pv (.v fv)),(1,.pv (.v v1)),(3,I (k:Int)),(5,I (z:Int)),(33,B t)],[],[],[]⟩
theorem stF_w(g:Sh.Glob)(v1:Value)(k z:Nat)(t:Bool):opsW Tryz.prog g (c7o.drop 3) (fun s'=>lk s'.t 0=some (.pv (.v fv))∧lk s'.t 1=some (.pv (.v v1))∧lk s'.t 3=some (I (k:Int))∧lk s'.t 5=some (I (z:Int))∧lk s'.t 38=some (B (!t||z==0))) ((sF fv v1 k z t).fgt [2132,2133,2134,2135]):=by
 unfold sF c7o B;cases t
 ·simp only[vW,seval];rfl
 ·by_cases hz:z=0
  ·have d1:(z:Int)=0:=by omega
   simp only[vW,seval,d1];subst hz;rfl
  ·have d1:¬(z:Int)=0:=by omega
   simp only[vW,seval,d1];rw[beq_eq_false_iff_ne.2 hz]
end
def SP(R:Lx)(xs:List Pc):Prop:=R=.ok xs∨∃a pre,R=.bad a∧xs=pre++[⟨0,0,[],a⟩]
def SpP(R:Lx)(xs:List Pc):Prop:=∃pre q,xs=pre++[q]∧(q.k≠0∨R=.bad q.p)
def kOf(a:Act):Nat:=match a.tmps.getD 3 undef with| .int _ k=>k.toNat|_=>0
theorem z90{a:Act}{k j:Nat}{v:Value}(h:k≠j):(a.put (some j) v).tmps.getD k undef=a.tmps.getD k undef:=by
 show(a.tmps.setIfInBounds j v).getD k undef=_;rw[Array.getD_eq_getD_getElem?,Array.getElem?_setIfInBounds_ne (Ne.symm h),←Array.getD_eq_getD_getElem?]
theorem put_self{a:Act}{j:Nat}{v:Value}(h:j<a.tmps.size):(a.put (some j) v).tmps.getD j undef=v:=by
 show(a.tmps.setIfInBounds j v).getD j undef=_;simp[Array.getD,h]
theorem agg4_inv{W:World}{E:Env}{r:Sh.Rows}{x1 x2 x3 x4 v:Value}(h:RelT W E r (.agg [.pv (.v x1),.pv (.v x2),.pv (.v x3),.pv (.v x4)]) v):v=.agg #[x1,x2,x3,x4]:=by
 cases h with
 |agg _ vs hl h ho=>
  match vs,hl with
  |[a,b,c,d],_=>
   rw[val_v (h 0 _ a rfl rfl),val_v (h 1 _ b rfl rfl),val_v (h 2 _ c rfl rfl),val_v (h 3 _ d rfl rfl)]
end
theorem pieces1_in(m n l:Nat){s:zB}(hs:s.length<70368744177664){O:List Nat}{β:Nat}{J Jx:List Pc→World→Prop}
  (hJ:∀pre W W',J pre W→W.grownBy W' none→J pre W') (hJx:∀pre W W',Jx pre W→W.grownBy W' none→Jx pre W')
  (hY:∀pre q W,J pre W→pre.length<s.length+1→YieldAt Fence.wide (n-1) Tryz.prog l (encP q) W fun e W'=>(e=.returned (.bool true)∧J (pre++[q]) W'∧Kp O β (gl0 m).n W W')∨(e=.returned (.bool false)∧Jx (pre++[q]) W'))
  {b off:Nat} {W:World} (hW:PW (gl0 m) s O β J b off [] W) {R:Lx} (hR:∃f,lexG f s 0 []=some R):
  CallsIn Fence.wide n Tryz.prog 129 #[.func (.yield l) #[] #[],.pointer (some ⟨b,off,none⟩)] W fun e W'=>(∃v,e=.returned v)∧((∃xs,SP R xs∧J xs W')∨∃pre,SpP R pre∧Jx pre W'):=by
 obtain⟨c0,cA,cB,cC,cD,id,ops,cE,cF,hb,t0,tA,tB,⟨sc,tC,rfl⟩,tD,tR,tE,tF⟩:=codeI_eq;refine callsIn_of_wp Tryz.func129 hb trivial ?_ rfl;generalize hfv:Value.func (.yield l) #[] #[]=fv;have hret:∀(a':Act) W',a'.defers=[]→((∃xs,SP R xs∧J xs W')∨∃pre,SpP R pre∧Jx pre W')→bodyPost Tryz.prog Tryz.f129 (fun e W'=>(∃v,e=.returned v)∧((∃xs,SP R xs∧J xs W')∨∃pre,SpP R pre∧Jx pre W')) .ret a' W':=by
  intro a' W' hd h;exact bodyPost_ret (results_none rfl _ _ _) hd ⟨⟨_,rfl⟩,h⟩
 have hbK:∀(K:Nat→Nat→Prop),(∀j o,K j o→j=b∧o=off)→∀j o,K j o→j<W.heap.size:=fun K h j o hj=>by
  obtain⟨o',ho,_⟩:=z96 hW.cell;rw[(h j o hj).1];exact(gA ho).1
 rw[Tryz.ntmps129];obtain⟨a0,ha0,h00,h01,h0s,h0d⟩:∃a0:Act,a0={ tmps:= #[fv,.pointer (some ⟨b,off,none⟩)]++Array.replicate (42-(#[fv,Value.pointer (some ⟨b,off,none⟩)]:Array Value).size) undef,defers:=[] }∧a0.tmps.getD 0 undef=fv∧a0.tmps.getD 1 undef=.pointer (some ⟨b,off,none⟩)∧a0.tmps.size=42∧a0.defers=[]:=by
  refine⟨_,rfl,?_,?_,?_,rfl⟩
  ·simp[Array.getD]
  ·simp[Array.getD]
  ·simp
 rw[←ha0];clear ha0;have hS0:Sim (Sh.start W (EK fun j o=>j=b∧o=off) [] 42) (ES.fs ⟨[(0,.pv (.v fv)),(1,elS s)],[],[],[]⟩) a0 W (EK fun j o=>j=b∧o=off):=by
  refine simT (hbK _ fun j o h=>h) h0s h0d _ (fun j x hx=> ?_);simp only[List.mem_cons,List.not_mem_nil,or_false,Prod.mk.injEq]at hx;rcases hx with⟨rfl,rfl⟩|⟨rfl,rfl⟩
  ·rw[h00];exact⟨by decide,.pv (.v _)⟩
  ·rw[h01];exact⟨by decide,hW.el ⟨rfl,rfl⟩⟩
 have hw0:swp Tryz.prog (gl0 m) c_expr_pieces_1_0 (fun e s'=>e=.normal∧s'=sI s fv 0) ⟨[(0,.pv (.v fv)),(1,elS s)],[],[],[]⟩:=by
  unfold sI elS;simp only[vW,seval]
  trace_state
 have hX0:∀d b',(Sh.start W (EK fun j o=>j=b∧o=off) [] 42).X d b'→(gl0 m).n≤b':=startX;have h0:=z48 (B:=Sh.start W (EK fun j o=>j=b∧o=off) [] 42) (H:=iH) (Fp:=iF) (K:=iK) hmix (by show 0≤1000;decide) (by show 42≤1000;decide) (g:=gl0 m) hW.G hX0 (c:=c0) (sc:=c_expr_pieces_1_0) t0 hw0 hS0;refine wpIn_seq (wpIn_mono (wpIn_wide.2 h0) ?_);clear h0 hw0 hS0;rintro x a1 W1 ⟨e,s1,E1,rfl,⟨rfl,rfl⟩,hS1⟩;have hP1:PI (gl0 m) s O β J R fv 0 [] a1 W1:=PI.back hJ hW hS1 rfl rfl rfl (by simpa using hR) (Nat.zero_le _) (Nat.le_refl _);clear hS1;refine wpIn_block (wpIn_loop (fun a W=>∃k pre,PI (gl0 m) s O β J R fv k pre a W) (fun a _=>s.length-kOf a) ⟨0,[],hP1⟩ ?_);rintro a W ⟨k,pre,hP⟩;obtain⟨b,off,hw,hS⟩:=hP.sim;have hA:=z48 (H:=iH) (Fp:=iF) (K:=iK) hmix (by show 0≤1000;decide) (by show 42≤1000;decide) (g:=gl0 m) hw.G startX (c:=cA) (sc:=.block 2 (.loop c_expr_pieces_1_3)) tA (stA_w (fv:=fv) (gl0 m) hs k hP.le hP.lex) hS;refine wpIn_block (wpIn_seq (wpIn_mono (wpIn_wide.2 hA) ?_));rintro x a1 W1 ⟨e,s1,E1,rfl,⟨rfl,k1,hk1,hk1l,hx1,hne,l0,l1,l3⟩,hS1⟩;have hP1:PI (gl0 m) s O β J R fv k1 pre a1 W1:=PI.back hJ hw hS1 l0 l1 l3 hx1 hk1l (Nat.le_trans hP.pk hk1)
 have hkOf:kOf a=k:=by unfold kOf;rw[hP.t3];simp
 clear hS hA hS1 hw b off hP;obtain⟨b,off,hw,hS⟩:=hP1.sim;have hB:=z48 (H:=iH) (Fp:=iF) (K:=iK) hmix (by show 0≤1000;decide) (by show 42≤1000;decide) (g:=gl0 m) hw.G startX (c:=cB) (sc:=.seq c_expr_pieces_1_4 (.cond (.tmp 21) .ret .skip)) tB (stB_w (s:=s) (fv:=fv) (gl0 m) k1 hk1l) hS;refine wpIn_seq (wpIn_mono (wpIn_wide.2 hB) ?_);rintro x a2 W2 ⟨e,s2,E2,rfl,(⟨rfl,rfl⟩|⟨rfl,hlt,l0,l1,l3⟩),hS2⟩
 ·refine hret a2 W2 hS2.defers (.inl ⟨pre,.inl ?_,hJ _ _ _ hw.j (grown_of hS2)⟩);obtain⟨f,hf⟩:=hx1;rw[List.drop_length]at hf;cases f with
  |zero=>simp[lexG]at hf
  |succ f=>simp only[lexG,Option.some.injEq]at hf;exact hf.symm
 have hP2:PI (gl0 m) s O β J R fv k1 pre a2 W2:=PI.back hJ hw hS2 l0 l1 l3 hx1 hk1l hP1.pk;clear hS hB hS2 hw b off hP1;obtain⟨b,off,hw,hS⟩:=hP2.sim;obtain⟨bb,r,hd⟩:∃bb r,s.drop k1=bb::r:=by
  cases hd:s.drop k1 with
  |nil=>have:=congrArg List.length hd;rw[List.length_drop]at this;simp at this;omega
  |cons x y=>exact⟨x,y,rfl⟩
 have hC:=z48 (H:=iH) (Fp:=iF) (K:=iK) hmix (by show 0≤1000;decide) (by show 42≤1000;decide) (g:=gl0 m) hw.G startX (c:=cC) (sc:=c_expr_pieces_1_5) tC (stC_w (fv:=fv) m hs k1 hd) hS;refine wpIn_seq (wpIn_mono (wpIn_wide.2 hC) ?_);have hq1:=pcAt_p bb r k1;obtain⟨q,z,hqz⟩:∃q z,pcAt (readP (bb::r) k1) k1=(q,z):=⟨_,_,rfl⟩
 rw[hqz]at hq1 ⊢;simp only[]at hq1 ⊢;rintro x a3 W3 ⟨e,s3,E3,rfl,⟨rfl,rfl⟩,hS3⟩;have hD:=z48 (H:=iH) (Fp:=iF) (K:=iK) hmix (by show 0≤1000;decide) (by show 42≤1000;decide) (g:=gl0 m) hw.G startX (c:=cD) (sc:=c_expr_pieces_1_6) tD (stD_w (gl0 m) k1 q z) hS3;refine wpIn_seq (wpIn_mono (wpIn_wide.2 hD) ?_);rintro x a4 W4 ⟨e,s4,E4,rfl,⟨rfl,rfl⟩,hS4⟩;clear hC hD hS3 hS;have hnw:c7o.flatMap SOper.news=[2132,2133,2134,2135]:=rfl;have hfr:∀(s:ES),∀d∈c7o.flatMap SOper.news,Fresh (s.fgt [2132,2133,2134,2135]).fs d:=fun s d hd=>z64 s (by rw[←hnw];exact hd);obtain⟨tR,o,aT,ho2,hog,hod,hop⟩:=tR;let K2:Act→World→Prop:=fun a W=>∃t v1,a.tmps.size=42∧a.defers=[]∧a.tmps.getD 0 undef=fv∧a.tmps.getD 1 undef=v1∧a.tmps.getD 3 undef=.int .i64 (k1:Int)∧a.tmps.getD 5 undef=.int .i64 (z:Int)∧a.tmps.getD 33 undef=.bool t
  ∧(t=true→∃b off,v1=.pointer (some ⟨b,off,none⟩)∧PW (gl0 m) s O β J b off (pre++[q]) W)∧(t=false→Jx (pre++[q]) W)
 let QF:Act→World→Prop:=fun a W=>∃t v1,a.tmps.size=42∧a.defers=[]∧a.tmps.getD 0 undef=fv∧a.tmps.getD 1 undef=v1∧a.tmps.getD 3 undef=.int .i64 (k1:Int)∧a.tmps.getD 5 undef=.int .i64 (z:Int)∧a.tmps.getD 38 undef=.bool (!t||z==0)
  ∧(t=true→∃b off,v1=.pointer (some ⟨b,off,none⟩)∧PW (gl0 m) s O β J b off (pre++[q]) W)∧(t=false→Jx (pre++[q]) W)
 have hRg:(Code.region id ops false).wpIn Fence.wide n Tryz.prog (fun x a W=>x=.normal∧QF a W) a4 W4:=by
  refine region_yield (ro:=none) (g:=gl0 m) (g2:=g00) tR 2 (by decide) (by show 0≤1000;decide) rfl (by decide) hw.G startX (hfr (sC s fv k1 q z k1)) (stE_w (fv:=fv) (gl0 m) k1 q z) (z84 hS4 _) (by rintro⟨_,_,h,_⟩;cases h) K2 ?_ ?_
  ·rintro s5 a5 W5 E5 rfl hS5;have hw5:=hw.back hJ hS5 rfl;obtain⟨b5,off5,hv1,hw5⟩:=hw5;have e0:=val_v (hS5.tmp 0 _ rfl).2;have e3:=val_v (hS5.tmp 3 _ rfl).2;have e5:=val_v (hS5.tmp 5 _ rfl).2;have e31:a5.eval (.tmp 31)=fv:=val_v (hS5.tmp 31 _ rfl).2;have e32:a5.eval (.tmp 32)=.agg #[.int .i64 q.k,.int .i64 q.n,.string (str q.s),.int .i64 (k1:Int)]:=agg4_inv (hS5.tmp 32 _ rfl).2;have hsz5:a5.tmps.size=42:=hS5.size;have hdf5:=hS5.defers;clear hS5;obtain⟨fn,tmps,assign,body,hy,hRo⟩:=hY pre q W5 hw5.j (by have:=hP2.pk;omega);unfold wpOpIn;rw[ho2];simp only[];rw[if_pos (by simp[Region.wanted,hog])];refine⟨fun _ _=>trivial,?_⟩;have hrun:(o.semAt none a5.eval).run Tryz.prog W5=.ok (.round l fn tmps assign body) W5:=by
    rw[Oper.semAt_none];unfold encP at hy;rw[hq1]at hy;rw[←hfv]at e31;obtain⟨dst,op,ty,pos,after,gd⟩:=o;simp only[]at hop;subst hop;simp[execOp,resolve,e31,e32,invoke];exact hy
   rw[hrun];refine⟨fun h=>(by cases h),hRo.mono ?_⟩;rintro e W6 (⟨rfl,hj,hk⟩|⟨rfl,hjx⟩)
   ·show K2 (a5.put o.dst (.bool true)) W6;rw[hod];exact⟨true,_,by rw[←hsz5];simp[Act.put],hdf5,(z90 (by decide)).trans e0,(z90 (by decide)).trans hv1,(z90 (by decide)).trans e3,(z90 (by decide)).trans e5,put_self (by rw[hsz5];decide),fun _=>⟨b5,off5,rfl,hw5.kept hk hj⟩,fun h=>(by cases h)⟩
   ·show K2 (a5.put o.dst (.bool false)) W6;rw[hod];exact⟨false,_,by rw[←hsz5];simp[Act.put],hdf5,(z90 (by decide)).trans e0,(z90 (by decide)).trans hv1,(z90 (by decide)).trans e3,(z90 (by decide)).trans e5,put_self (by rw[hsz5];decide),fun h=>(by cases h),fun _=>hjx⟩
  ·rintro a5 W5 ⟨t,v1,x1,x2,x3,x4,x5,x6,x7,x8,x9⟩;have hS5:Sim (Sh.start W5 (EK fun _ _=>False) [] 42) (sF fv v1 k1 z t).fs a5 W5 (EK fun _ _=>False):=by
    refine simT (fun _ _ h=>h.elim) x1 x2 _ (fun j x hx=> ?_);simp only[List.mem_cons,List.not_mem_nil,or_false,Prod.mk.injEq]at hx;rcases hx with⟨rfl,rfl⟩|⟨rfl,rfl⟩|⟨rfl,rfl⟩|⟨rfl,rfl⟩|⟨rfl,rfl⟩
    ·rw[x3];exact⟨by decide,.pv (.v _)⟩
    ·rw[x4];exact⟨by decide,.pv (.v _)⟩
    ·rw[x5];exact⟨by decide,.pv (.v _)⟩
    ·rw[x6];exact⟨by decide,.pv (.v _)⟩
    ·rw[x7];exact⟨by decide,.pv (.v _)⟩
   refine⟨_,_,_,_,by show 0≤1000;decide,rfl,trivial,startX,z84 hS5 _,hfr _,stF_w (fv:=fv) g00 v1 k1 z t,?_⟩;rintro s6 a6 W6 E6 ⟨l0,l1,l3,l5,l38⟩ hS6;have hg:=grown_of hS6;refine⟨rfl,t,v1,hS6.size,hS6.defers,val_v (hS6.tmp 0 _ l0).2,val_v (hS6.tmp 1 _ l1).2,val_v (hS6.tmp 3 _ l3).2,val_v (hS6.tmp 5 _ l5).2,val_v (hS6.tmp 38 _ l38).2,fun ht=> ?_,fun ht=>hJx _ _ _ (x9 ht) hg⟩;obtain⟨b7,off7,e7,hw7⟩:=x8 ht;exact⟨b7,off7,e7,hw7.grown hJ hg⟩
 have hfact:(1≤z∧k1+z≤s.length∧q.k≠0∧∃f,lexG f (s.drop (k1+z)) (k1+z) (pre++[q])=some R)∨(q=⟨0,0,[],k1⟩∧z=0∧R=.bad k1):=by
  obtain⟨f,hf⟩:=hx1;rw[hd]at hf;have hb32:bb≠32:=hne bb (by have:=congrArg (·[0]?) hd;simpa using this);have hlen:(bb::r).length=s.length-k1:=by rw[←hd,List.length_drop]
  cases f with
  |zero=>simp[lexG]at hf
  |succ f=>
   simp only[lexG,hb32,if_false]at hf;cases hr:readP (bb::r) k1 with
   |none=>
    rw[hr]at hf hqz;simp only[Option.some.injEq]at hf;cases hqz;exact .inr ⟨rfl,rfl,hf.symm⟩
   |some y=>
    obtain⟨q',z'⟩:=y;rw[hr]at hf hqz;cases hqz;obtain⟨p1,p2,p3,_⟩:=readP_pos hr;refine .inl ⟨p1,by omega,p3,f,?_⟩;simp only[]at hf;rw[←hf,←hd,List.drop_drop]
 refine wpIn_seq (wpIn_seq (wpIn_mono hRg ?_));rintro x a5 W5 ⟨rfl,t,v1,x1,x2,x3,x4,x5,x6,x7,x8,x9⟩;have hS5:Sim (Sh.start W5 (EK fun _ _=>False) [] 42) (ES.fs ⟨[(0,.pv (.v fv)),(1,.pv (.v v1)),(3,I (k1:Int)),(5,I (z:Int)),(38,B (!t||z==0))],[],[],[]⟩) a5 W5 (EK fun _ _=>False):=by
  refine simT (fun _ _ h=>h.elim) x1 x2 _ (fun j x hx=> ?_);simp only[List.mem_cons,List.not_mem_nil,or_false,Prod.mk.injEq]at hx;rcases hx with⟨rfl,rfl⟩|⟨rfl,rfl⟩|⟨rfl,rfl⟩|⟨rfl,rfl⟩|⟨rfl,rfl⟩
  ·rw[x3];exact⟨by decide,.pv (.v _)⟩
  ·rw[x4];exact⟨by decide,.pv (.v _)⟩
  ·rw[x5];exact⟨by decide,.pv (.v _)⟩
  ·rw[x6];exact⟨by decide,.pv (.v _)⟩
  ·rw[x7];exact⟨by decide,.pv (.v _)⟩
 have hE:=z48 (H:=iH) (Fp:=iF) (K:=iK) hmix (by show 0≤1000;decide) (by show 42≤1000;decide) (g:=g00) trivial startX (c:=cE) (sc:=.cond (.tmp 38) .ret .skip) tE (Q:=fun e s'=>(e=.ret∧(!t||z==0)=true)∨(e=.normal∧(!t||z==0)=false∧s'=⟨[(0,.pv (.v fv)),(1,.pv (.v v1)),(3,I (k1:Int)),(5,I (z:Int)),(38,B (!t||z==0))],[],[],[]⟩)) (by
   generalize(!t||z==0)=u;unfold B;cases u
   ·simp only[vW,seval]
   ·simp only[vW,seval]) hS5
 refine wpIn_mono (wpIn_wide.2 hE) ?_;rintro x a6 W6 ⟨e,s6,E6,rfl,(⟨rfl,hu⟩|⟨rfl,hu,rfl⟩),hS6⟩
 ·
  refine hret a6 W6 hS6.defers ?_;have hg:=grown_of hS6;cases t with
  |false=>
   refine .inr ⟨_,⟨pre,q,rfl,?_⟩,hJx _ _ _ (x9 rfl) hg⟩;rcases hfact with⟨_,_,h3,_⟩|⟨_,_,h3⟩
   ·exact .inl h3
   ·exact .inr (by rw[h3,hq1])
  |true=>
   obtain⟨b7,off7,e7,hw7⟩:=x8 rfl;have hz:z=0:=by simpa using hu
   rcases hfact with⟨h1,_⟩|⟨h1,_,h3⟩
   ·omega
   ·exact .inl ⟨_,.inr ⟨k1,pre,h3,by rw[h1]⟩,hJ _ _ _ hw7.j hg⟩
 ·
  have hg:=grown_of hS6;have ht:t=true:=by cases t<;>simp_all
  subst ht;have hz:z≠0:=by simpa using hu
  obtain⟨b7,off7,e7,hw7⟩:=x8 rfl;rcases hfact with⟨h1,h2,h3,h4⟩|⟨_,h1,_⟩
  ·have w1:IntKind.i64.wrap ((k1:Int)+(z:Int))=((k1+z:Nat):Int):=wG;have hF:=z48 (H:=iH) (Fp:=iF) (K:=iK) hmix (by show 0≤1000;decide) (by show 42≤1000;decide) (g:=g00) trivial startX (c:=cF) (sc:=c_expr_pieces_1_8) tF (Q:=fun e s'=>e=.normal∧lk s'.t 0=some (.pv (.v fv))∧lk s'.t 1=some (.pv (.v v1))∧lk s'.t 3=some (I ((k1+z:Nat):Int))) (by
    generalize(!true||z==0)=u;unfold B;simp only[vW,seval,w1]) hS6
   refine wpIn_mono (wpIn_wide.2 hF) ?_;rintro x a7 W7 ⟨e,s7,E7,rfl,⟨rfl,l0,l1,l3⟩,hS7⟩;have hg7:=grown_of hS7;have e3:=val_v (hS7.tmp 3 _ l3).2;refine⟨⟨k1+z,pre++[q],⟨hS7.size,hS7.defers,val_v (hS7.tmp 0 _ l0).2,e3,⟨b7,off7,(val_v (hS7.tmp 1 _ l1).2).trans e7,(hw7.grown hJ hg7)⟩,h4,h2,?_⟩⟩,?_⟩
   ·have:=hP2.pk;rw[List.length_append,List.length_singleton];omega
   ·rw[hkOf];have:kOf a7=k1+z:=by unfold kOf;rw[e3];simp only[];omega
    rw[this];omega
  ·exact absurd h1 hz
section
abbrev cW0:SCode:=.reg [([2,3,4],[⟨some 2,none,none,.new [.int .i64 0,.int .i64 0,.string ⟨#[]⟩,.slice none 0 0]⟩,⟨some 3,none,none,.new [.int .i64 0]⟩,⟨some 4,none,none,.new [.bool false]⟩])] []
abbrev cW2:SCode:=.regq [([newId 7 0,newId 7 1,newId 7 2,newId 7 3],[⟨some 6,none,none,.mov (.tmp 0)⟩,⟨some 7,none,none,.call 132 3 [.tmp 6,.val (.int .i64 1)]⟩,⟨none,none,none,.st 4 (.tmp 2) (.tmp 7)⟩])] [9999]
abbrev cW3:SCode:=.reg [([],[⟨some 8,none,none,.mov (.tmp 0)⟩,⟨some 9,none,none,.nchk (.tmp 8)⟩,⟨some 10,none,none,.fldA 0 (.tmp 9)⟩,⟨some 11,none,none,.fldA 1 (.tmp 10)⟩,⟨some 12,none,none,.ld false 1 (.tmp 11)⟩,⟨some 13,none,none,.mov (.tmp 0)⟩,⟨some 14,none,none,.nchk (.tmp 13)⟩,⟨some 15,none,none,.fldA 0 (.tmp 14)⟩,⟨some 16,none,none,.fldA 0 (.tmp 15)⟩,⟨some 17,none,none,.ld false 1 (.tmp 16)⟩,⟨some 18,none,none,.len (.tmp 17)⟩,⟨some 19,none,none,.bin .lss 3 (.tmp 12) (.tmp 18)⟩])] []
abbrev cW4:SCode:=.regq [([newId 23 0,newId 23 1,newId 23 2,newId 23 3],[⟨some 20,none,none,.mov (.tmp 0)⟩,⟨some 21,none,none,.nchk (.tmp 20)⟩,⟨some 22,none,none,.fldA 0 (.tmp 21)⟩,⟨some 23,none,none,.call 133 1 [.tmp 22]⟩,⟨some 24,none,none,.fld false 3 1 (.tmp 23)⟩,⟨some 25,none,none,.mkI 212 (.tmp 24)⟩,⟨none,none,none,.pan (.tmp 25)⟩])] [9999]
abbrev cW5:SCode:=.reg [([],[⟨some 26,none,none,.ld true 4 (.tmp 2)⟩,⟨none,none,none,.st 4 (.tmp 2) (.tmp 26)⟩,⟨none,none,none,.st 1 (.tmp 3) (.val (.int .i64 0))⟩,⟨none,none,none,.st 1 (.tmp 4) (.val (.bool true))⟩])] []
abbrev cWr:SCode:=.seq cW2 (.seq (.seq cW3 (.cond (.tmp 19) cW4 .skip)) (.seq cW5 .ret))
def wH:Nat→Option Nat→Nat:=hintT [(7,3),(23,1)]
def wF:Nat→List (Nat→Option Nat):=fpT []
def wK:Nat→List Nat:=killT [(2,[9999]),(4,[9999])]
def zeroE:List TV:=[I 0,I 0,S ⟨#[]⟩,.pv (.v (.slice none 0 0))]
def sW(L:List Pc)(p sz:Nat):ES:=⟨[(0,.ptr 1000 0),(2,.ptr 2 0),(3,.ptr 3 0),(4,.ptr 4 0)],[(1000,pB L p sz),(2,zeroE),(3,[I 0]),(4,[B false])],[],[]⟩
def sV(L:List Pc)(p sz:Nat):ES:=⟨[(0,.ptr 1000 0),(2,.ptr 1001 0),(3,.ptr 1002 0),(4,.ptr 1003 0)],[(1000,pB L p sz),(1001,zeroE),(1002,[I 0]),(1003,[B false])],[],[]⟩
def osV(L:List Pc)(p sz:Nat)(c2:List TV)(c3 c4:TV):List MO:=[.box (pB L p sz),.box c2,.box [c3],.box [c4]]
def eC(e:V):List TV:=[I e.k,I e.n,S (str e.s),.pv (.sl 4 (V.rows e.l))]
section
variable{g:Sh.Glob}{L:List Pc}{sz:Nat}
theorem rest_ok(hL:L.length≤4611686018427387904){f:Nat}{e:V}{p:Nat}(h:pE L sz f 1 0=some (.ok e p))(hp:¬p<L.length):
  swp Tryz.prog g cWr (PostR [.cell true 4 2,.cell false 1 3,.cell false 1 4] false 4 (.tuple [tv e,I 0,B true]) (osV L p sz (eC e) (I 0) (B true))) (sV L 0 sz):=by
 have HE:=(parser_ok (g:=g) hL f).1 1 0 e p (by omega) (by omega) (Nat.zero_le _) h;have d1:¬(p:Int)<(L.length:Int):=by omega
 unfold sV osV zeroE eC pB pcs B at*;simp only[vW,seval,bmV];(with_reducible apply vq_n);simp only[vW,seval,bmV];refine z27 HE ?_;simp only[vW,seval,bmV,d1]
def QPan(L:List Pc)(sz p a:Nat):SExit→ES→Prop:=fun e s=>e=.pan (wrongV a)∧lk s.t 2=some (.ptr 1001 0)∧lk s.t 3=some (.ptr 1002 0)∧lk s.t 4=some (.ptr 1003 0)∧(∃cs,lk s.b 1001=some cs∧cs.length=4)∧(∃c,lk s.b 1002=some [c])∧(∃c,lk s.b 1003=some [c])∧lk s.b 1000=some (pB L p sz)∧s.r=[]
theorem rest_pan(hL:L.length≤4611686018427387904){f a p:Nat}(h:pE L sz f 1 0=some (.bad a p)):swp Tryz.prog g cWr (QPan L sz p a) (sV L 0 sz):=by
 have HE:=(parser_ok (g:=g) hL f).2.1 1 0 a p (by omega) (by omega) (Nat.zero_le _) h;unfold sV zeroE pB pcs B at*;simp only[vW,seval,bmV];(with_reducible apply vq_p);simp only[vW,seval,bmV];(with_reducible apply z111);(· rfl);(· simp only[vW,seval,bmV];with_reducible rfl);(· exact HE);(· first|rfl|(simp only[vcA,seval];omega));(· simp only[vW,seval,bmV];with_reducible rfl);simp only[vW,seval,bmV];exact⟨rfl,rfl,rfl,rfl,⟨_,rfl,rfl⟩,⟨_,rfl⟩,⟨_,rfl⟩,rfl,rfl⟩
theorem rest_more(hL:L.length≤4611686018427387904){f:Nat}{e:V}{p:Nat}(h:pE L sz f 1 0=some (.ok e p))(hp:p<L.length):swp Tryz.prog g cWr (QPan L sz p (pkP L sz p).p) (sV L 0 sz):=by
 have HE:=(parser_ok (g:=g) hL f).1 1 0 e p (by omega) (by omega) (Nat.zero_le _) h;have HP:=peek_ok g L p sz (by unfold maxLen;omega);have d1:(p:Int)<(L.length:Int):=by omega
 unfold sV zeroE pB pcs B pcT at*;simp only[vW,seval,bmV];(with_reducible apply vq_n);simp only[vW,seval,bmV];refine z27 HE ?_;simp only[vW,seval,bmV,d1];(with_reducible apply vq_p);simp only[vW,seval,bmV];(with_reducible apply vp_ret);(· simp only[vW,seval,bmV];with_reducible rfl);(· rfl);(· exact HP);(· first|rfl|(simp only[vcA,seval];omega));(· simp only[vW,seval,bmV];with_reducible rfl);simp only[vW,seval,bmV];exact⟨rfl,rfl,rfl,rfl,⟨_,rfl,rfl⟩,⟨_,rfl⟩,⟨_,rfl⟩,rfl,rfl⟩
end
theorem st_run{P:Program}{B:Base}{s:FS}{a:Act}{w:World}{E:Env}(h:Sim B s a w E){d:Nat}{cs xs:List TV}{us:List Value}(hb:s.b d=some cs)(hl:xs.length=us.length)(hle:xs.length≤cs.length)
  (hrel:∀(j:Nat) x v,xs[j]?=some x→us[j]?=some v→RelT w E s.r x v) (ho:∀v∈us,one v) {t:TypeId} {i:TypeInfo} (hi:P.info? t=some i) (hsz:us.length=i.size) {v:Value} (hv:v.cells=us.toArray):
  (storeVar t ⟨E.β d,0,none⟩ v).run P w=.ok () (w.setCells (E.β d) 0 us)∧Sim B (s.setB d (splice cs 0 xs)) a (w.setCells (E.β d) 0 us) E:=by
 obtain⟨hbox,_⟩:=h.mem.box d cs hb;refine⟨z192 (P:=P) (w:=w) (E.β d) 0 t i v us hv hi hsz (fun j hj=>⟨?_,hbox.fz _⟩) ho,h.wr hb xs us hl (by omega) hrel ho⟩;obtain⟨c,hc⟩:∃c,cs[0+j]?=some c:=⟨_,gE (by omega)⟩
 obtain⟨v,h1,_⟩:=hbox.cell _ c hc;rw[h1];rfl
section
variable{P:Program}{ops:Array Oper}{Q:Exit→Act→List Frame→World→Prop}{a:Act}{w w':World}{cs cs':List Frame}{i:Nat}{rest:List Nat}{o:Oper}{v:Value}
theorem opsS_rec(ho:ops[i]?=some o)(hg:o.guard=none)(hr:(execOp a.eval o).run P w=.ok .recover w')(hc:recoverD cs=some (v,cs'))(hk:wpOpsS P ops Q rest (a.put o.dst v) cs' w'):wpOpsS P ops Q (i::rest) a cs w:=by
 rw[wpOpsS,ho];simp only;rw[if_pos (by simp[Region.wanted,hg]),hr];simp only[hc];exact hk
theorem opsS_norec(ho:ops[i]?=some o)(hg:o.guard=none)(hr:(execOp a.eval o).run P w=.ok .recover w')(hc:recoverD cs=none)(hk:wpOpsS P ops Q rest (a.put o.dst .nilIface) cs w'):wpOpsS P ops Q (i::rest) a cs w:=by
 rw[wpOpsS,ho];simp only;rw[if_pos (by simp[Region.wanted,hg]),hr];simp only[hc];exact hk
theorem z62(ho:ops[i]?=some o)(hg:o.guard=none)(hr:(execOp a.eval o).run P w=.ok (.value v) w')(hk:wpOpsS P ops Q rest (a.put o.dst v) cs w'):wpOpsS P ops Q (i::rest) a cs w:=by
 rw[wpOpsS,ho];simp only;rw[if_pos (by simp[Region.wanted,hg]),hr];exact hk
theorem opsS_skip(ho:ops[i]?=some o)(hg:o.guard=none)(hr:(execOp a.eval o).run P w=.ok .skip w')(hk:wpOpsS P ops Q rest (a.put o.dst undef) cs w'):wpOpsS P ops Q (i::rest) a cs w:=by
 rw[wpOpsS,ho];simp only;rw[if_pos (by simp[Region.wanted,hg]),hr];exact hk
end
theorem frame_same{c:Frame}{u:FrameMode}(h:c.mode=u):c={ c with mode:=u }:=by subst h;rfl
theorem rec_none(v2 v3 v4:Value)(w:World)(R:Ending→FrameMode→World→Prop)(hR:∀v,R (.returned v) .returning w):CallsD Tryz.prog 131 #[v2,v3,v4] .returning w R:=by
 refine callsD_of_wpS Tryz.func131 rfl (fun c0 cs hu=> ?_);show(Code.seq _ _).wpS _ _ { tmps:= #[v2,v3,v4,undef,undef,undef,undef,undef,undef,undef,undef,undef,undef,undef,undef,undef],defers:=[] } _ _;refine wpS_seq (wpS_region ?_);show wpOpsS _ _ _ [0,1] _ _ _;refine opsS_norec rfl rfl (w':=w) rfl (by simp[recoverD,hu]) ?_;refine z62 rfl rfl (v:=.nilIface) (w':=w) rfl ?_;show(Code.seq _ _).wpS _ _ { tmps:= #[v2,v3,v4,.nilIface,undef,undef,.nilIface,undef,undef,undef,undef,undef,undef,undef,undef,undef],defers:=[] } _ _;refine wpS_seq (wpS_region ?_);show wpOpsS _ _ _ [0,1] _ _ _;refine z62 rfl rfl (v:=.nilIface) (w':=w) rfl ?_;refine z62 rfl rfl (v:=.bool false) (w':=w) (by simp[execOp,Act.eval,Act.put,go_sem]) ?_;show(Code.cond _ _ _).wpS _ _ { tmps:= #[v2,v3,v4,.nilIface,undef,undef,.nilIface,.nilIface,.bool false,undef,undef,undef,undef,undef,undef,undef],defers:=[] } _ _;refine wpS_cond (t:=false) rfl (wpS_of_wp (wp_skip ?_));exact⟨rfl,.returning,by rw[←frame_same hu],.tuple #[],by simp[results,Tryz.results131],hR _⟩
theorem u_wrong:Tryz.prog.underlying 212=some (.int .i64):=by kernel_rfl
theorem info_of{t:TypeId}{n:Nat}(h:(Tryz.prog.info? t).map (·.size)=some n):∃i,Tryz.prog.info? t=some i∧i.size=n:=by
 obtain⟨i,h1,h2⟩:=gO h;exact⟨i,h1,h2⟩
theorem i_expr:∃i,Tryz.prog.info? 76=some i∧i.size=4:=info_of (by kernel_rfl)
theorem i_int:∃i,Tryz.prog.info? 3=some i∧i.size=1:=info_of (by kernel_rfl)
theorem i_bool:∃i,Tryz.prog.info? 4=some i∧i.size=1:=info_of (by kernel_rfl)
theorem store_ex{a:Act}{o:Oper}{w w':World}{t:TypeId}{x y:Operand}{ad:Addr}(ho:o.op=.store t x y)(hx:a.eval x=.pointer (some ad))(hr:(storeVar t ad (a.eval y)).run Tryz.prog w=.ok () w'):(execOp a.eval o).run Tryz.prog w=.ok .skip w':=by
 simp[execOp,ho,hx,Instr.storeAt,Instr.sureAddr,hr,Result.andThen]
theorem rec_pan{Bs:Base}{s:FS}{a:Act}{w:World}{E:Env}(h:Sim Bs s a w E){c2:List TV}{c3 c4:TV}(h2:s.b 1001=some c2)(l2:c2.length=4)(h3:s.b 1002=some [c3])(h4:s.b 1003=some [c4])(n:Nat)(R:Ending→FrameMode→World→Prop)
  (hR:∀v w',Sim Bs (((s.setB 1001 zeroE).setB 1002 [I (n:Int)]).setB 1003 [B false]) a w' E→R (.returned v) (.panicking [{ v:=wrongV n,recovered:=true }]) w'):
  CallsD Tryz.prog 131 #[.pointer (some ⟨E.β 1001,0,none⟩),.pointer (some ⟨E.β 1002,0,none⟩),.pointer (some ⟨E.β 1003,0,none⟩)] (.panicking [{ v:=wrongV n,recovered:=false }]) w R:=by
 obtain⟨ie,he1,he2⟩:=i_expr;obtain⟨ii,hi1,hi2⟩:=i_int;obtain⟨ib,hb1,hb2⟩:=i_bool;have st2:=st_run (P:=Tryz.prog) h (xs:=zeroE) (us:=[.int .i64 0,.int .i64 0,.string ⟨#[]⟩,.slice none 0 0]) h2 rfl (by rw[l2];exact Nat.le_refl _) (fun j x v hx hv=>by
  match j with
  |0|1|2|3=>cases hx;cases hv;exact .pv (.v _)
  |j+4=>cases hx) (by simp[one,Value.oneCell']) he1 (by rw[he2];rfl) (v:=.agg #[.int .i64 0,.int .i64 0,.string ⟨#[]⟩,.slice none 0 0]) rfl
 obtain⟨r2,S2⟩:=st2;have e2:splice c2 0 zeroE=zeroE:=by
  match c2,l2 with
  |[x0,x1,x2,x3],_=>rfl
 rw[e2]at S2;have st3:=st_run (P:=Tryz.prog) S2 (d:=1002) (cs:=[c3]) (xs:=[I (n:Int)]) (us:=[.int .i64 (n:Int)]) (by rw[FS.setB];simp[setF,h3]) rfl (Nat.le_refl _) (fun j x v hx hv=>by
  match j with
  |0=>cases hx;cases hv;exact .pv (.v _)
  |j+1=>cases hx) (by simp[one,Value.oneCell']) hi1 (by rw[hi2];rfl) (v:=.int .i64 (n:Int)) rfl
 obtain⟨r3,S3⟩:=st3;have st4:=st_run (P:=Tryz.prog) S3 (d:=1003) (cs:=[c4]) (xs:=[B false]) (us:=[.bool false]) (by simp[FS.setB,setF,h4]) rfl (Nat.le_refl _) (fun j x v hx hv=>by
  match j with
  |0=>cases hx;cases hv;exact .pv (.v _)
  |j+1=>cases hx) (by simp[one,Value.oneCell']) hb1 (by rw[hb2];rfl) (v:=.bool false) rfl
 obtain⟨r4,S4⟩:=st4;have hfin:=fun v=>hR v _ S4;clear S2 S3 S4 hR h;generalize E.β 1001=b2 at*;generalize E.β 1002=b3 at*;generalize E.β 1003=b4 at*;refine callsD_of_wpS Tryz.func131 rfl (fun c0 cs hu=> ?_);generalize hp2:Value.pointer (some ⟨b2,0,none⟩)=p2;generalize hp3:Value.pointer (some ⟨b3,0,none⟩)=p3;generalize hp4:Value.pointer (some ⟨b4,0,none⟩)=p4;show(Code.seq _ _).wpS _ _ { tmps:= #[p2,p3,p4,undef,undef,undef,undef,undef,undef,undef,undef,undef,undef,undef,undef,undef],defers:=[] } _ _;refine wpS_seq (wpS_region ?_);show wpOpsS _ _ _ [0,1] _ _ _;refine opsS_rec rfl rfl (w':=w) rfl (v:=wrongV n) (by simp only[recoverD,hu];rfl) ?_;refine z62 rfl rfl (v:=wrongV n) (w':=w) rfl ?_;show(Code.seq _ _).wpS _ _ { tmps:= #[p2,p3,p4,wrongV n,undef,undef,wrongV n,undef,undef,undef,undef,undef,undef,undef,undef,undef],defers:=[] } _ _;refine wpS_seq (wpS_region ?_);show wpOpsS _ _ _ [0,1] _ _ _;refine z62 rfl rfl (v:=wrongV n) (w':=w) rfl ?_;refine z62 rfl rfl (v:=.bool true) (w':=w) (by simp[execOp,Act.eval,Act.put,go_sem,wrongV]) ?_
 show(Code.cond _ _ _).wpS _ _ { tmps:= #[p2,p3,p4,wrongV n,undef,undef,wrongV n,wrongV n,.bool true,undef,undef,undef,undef,undef,undef,undef],defers:=[] } _ _;refine wpS_cond (t:=true) rfl ?_;show(Code.seq _ _).wpS _ _ { tmps:= #[p2,p3,p4,wrongV n,undef,undef,wrongV n,wrongV n,.bool true,undef,undef,undef,undef,undef,undef,undef],defers:=[] } _ _;refine wpS_seq (wpS_region ?_);show wpOpsS _ _ _ [0,1,2,3,4,5,6] _ _ _;refine z62 rfl rfl (v:=wrongV n) (w':=w) rfl ?_;refine z62 rfl rfl (v:=.tuple #[.int .i64 (n:Int),.bool true]) (w':=w) (by simp[execOp,Act.eval,Act.put,Instr.typeAssert,run_underlying u_wrong,wrongV,Result.andThen]) ?_;refine z62 rfl rfl (v:=.tuple #[.int .i64 (n:Int),.bool true]) (w':=w) rfl ?_;refine z62 rfl rfl (v:=.int .i64 (n:Int)) (w':=w) rfl ?_;refine z62 rfl rfl (v:=.bool true) (w':=w) rfl ?_;refine z62 rfl rfl (v:=.int .i64 (n:Int)) (w':=w) rfl ?_;refine z62 rfl rfl (v:=.bool true) (w':=w) rfl ?_;show(Code.region _ _ _).wpS _ _ { tmps:= #[p2,p3,p4,wrongV n,.int .i64 (n:Int),.bool true,wrongV n,wrongV n,.bool true,.tuple #[.int .i64 (n:Int),.bool true],wrongV n,.tuple #[.int .i64 (n:Int),.bool true],.int .i64 (n:Int),.bool true,undef,undef],defers:=[] } _ _
 refine wpS_region ?_;show wpOpsS _ _ _ [0,1,2,3,4] _ _ _;refine z62 rfl rfl (v:=.agg #[.int .i64 0,.int .i64 0,.string ⟨#[]⟩,.slice none 0 0]) (w':=w) (by kernel_rfl) ?_;refine z62 rfl rfl (v:=.int .i64 (n:Int)) (w':=w) rfl ?_;refine opsS_skip rfl rfl (store_ex rfl hp2.symm r2) ?_;refine opsS_skip rfl rfl (store_ex rfl hp3.symm r3) ?_;refine opsS_skip rfl rfl (store_ex rfl hp4.symm r4) ?_;exact⟨rfl,_,rfl,.tuple #[],by simp[results,Tryz.results131],hfin _⟩
end
section
theorem wp_defer{P:Program}{ops:Array Oper}{Q:Exit→Act→World→Prop}{a:Act}{w:World}{i:Nat}{o:Oper}{d:Deferred}{K:Act→World→Prop}(ho:ops[i]?=some o)(hg:o.guard=none)(hr:(execOp a.eval o).run P w=.ok (.defer d) w)(hk:K ({ a with defers:=d::a.defers }.put o.dst undef) w):wpOp P ops Q i K a w:=by
 unfold wpOp;simp only[ho];rw[if_pos (by simp[Region.wanted,hg])];refine .inl ?_;unfold Oper.wp;rw[hr];exact hk
def QN(s0:ES):SExit→ES→Prop:=fun e s=>e=.normal∧s=s0
section
variable{g:Sh.Glob}{L:List Pc}{sz:Nat}
theorem w0_ok:swp Tryz.prog g cW0 (QN (sW L 0 sz)) (startE [.ptr 1000 0] [.box (pB L 0 sz)]):=by
 unfold pB pcs sW zeroE;simp only[vW,seval,bmV];exact⟨rfl,rfl⟩
theorem ptr_val{w:World}{E:Env}{r:Sh.Rows}{d:Nat}{v:Value}(h:RelT w E r (.ptr d 0) v):v=.pointer (some ⟨E.β d,0,none⟩):=by cases h;rfl
def QW(L:List Pc)(sz:Nat)(y:TV)(os':List MO)(p a:Nat):SExit→ES→Prop:=fun e s=>
 PostR [.cell true 4 2,.cell false 1 3,.cell false 1 4] false 4 y os' e s∨(QPan L sz p a e s∧y=.tuple [.agg zeroE,I (a:Int),B false]∧os'=osV L p sz zeroE (I (a:Int)) (B false))
theorem lk_mem{α:Type}:∀{l:List (Nat×α)} {k:Nat} {x:α},lk l k=some x→(k,x)∈l
 |[],_,_,h=>by simp[lk]at h
 |(j,y)::l,k,x,h=>by
  simp only[lk]at h;split at h
  ·rename_i hb;rw[Nat.eq_of_beq_eq_true hb]at*;cases h;exact List.mem_cons_self ..
  ·exact List.mem_cons_of_mem _ (lk_mem h)
def uW(L:List Pc)(p sz:Nat)(c2:List TV)(c3 c4:TV):List (Nat×MO):=[(1000,.box (pB L p sz)),(2,.box c2),(3,.box [c3]),(4,.box [c4])]
theorem outs_W(p:Nat)(c2:List TV)(c3 c4:TV)(h2:∀ρ,seqO (TV.ren1 ρ) c2=some c2)(h3:∀ρ,TV.ren1 ρ c3=some c3)(h4:∀ρ,TV.ren1 ρ c4=some c4):outs (rhoOut [1000,2,3,4] 900) 0 (osV L p sz c2 c3 c4)=some (uW L p sz c2 c3 c4):=by
 have hp:∀ρ,seqO (TV.ren1 ρ) (pB L p sz)=some (pB L p sz):=fun ρ=>rfl;have h3':∀ρ,seqO (TV.ren1 ρ) [c3]=some [c3]:=fun ρ=>by simp[seqO,h3]
 have h4':∀ρ,seqO (TV.ren1 ρ) [c4]=some [c4]:=fun ρ=>by simp[seqO,h4]
 have r0:rhoOut [1000,2,3,4] 900 (1000+0)=some 1000:=rfl;have r1:rhoOut [1000,2,3,4] 900 (1000+(0+1))=some 2:=rfl;have r2:rhoOut [1000,2,3,4] 900 (1000+(0+1+1))=some 3:=rfl;have r3:rhoOut [1000,2,3,4] 900 (1000+(0+1+1+1))=some 4:=rfl;simp only[osV,outs,MO.ren,hp,h2,h3',h4',Option.map_some,r0,r1,r2,r3,uW]
theorem exit_W(p:Nat)(c2:List TV)(c3 c4:TV){y:TV}(hy:∀ρ,y.ren3 ρ=some y)(hy2:y.ids3=[]):exitY y false 1 ((sW L 0 sz).upd none (.mem (uW L p sz c2 c3 c4)))=some (y,[.box (pB L p sz)]):=by
 unfold exitY;simp only[hy2,hy,List.nil_append];rfl
theorem ment_W:∀i∈[1000,2,3,4],(sW L 0 sz).fs.ment i:=by
 intro i hi;simp only[List.mem_cons,List.not_mem_nil,or_false]at hi;rcases hi with rfl|rfl|rfl|rfl
 ·exact .inl ⟨0,_,rfl,.ptr _⟩
 ·exact .inl ⟨2,_,rfl,.ptr _⟩
 ·exact .inl ⟨3,_,rfl,.ptr _⟩
 ·exact .inl ⟨4,_,rfl,.ptr _⟩
theorem fresh_W:∀q<4,Fresh (sW L 0 sz).fs (newId 900 q):=by
 intro q hq;have hf:(sW L 0 sz).fgt [5600,5601,5602,5603]=sW L 0 sz:=rfl;rw[←hf];exact z64 _ (by unfold newId;match q,hq with|0,_|1,_|2,_|3,_=>simp)
theorem whole_gen(p a:Nat)(y:TV)(c2:List TV)(c3 c4:TV)(hy:∀ρ,y.ren3 ρ=some y)(hy2:y.ids3=[])(h2:∀ρ,seqO (TV.ren1 ρ) c2=some c2)(h3:∀ρ,TV.ren1 ρ c3=some c3)(h4:∀ρ,TV.ren1 ρ c4=some c4)
  (hsw:swp Tryz.prog g cWr (QW L sz y (osV L p sz c2 c3 c4) p a) (sV L 0 sz)):
  zC g 76 [.ptr 1000 0] [.box (pB L 0 sz)] y [.box (pB L p sz)]:=by
 refine⟨z56 (by kernel_rfl),fun w E vs hG hm hX hl hr=> ?_⟩;have hS0:=start_sim (N:=27) (xs:=[.ptr 1000 0]) (by decide) hm hl hr;refine calls_of_wp_defers Tryz.func76 rfl ?_;refine wp_seq (wp_mono (z48 (B:=Sh.start w E [.box (pB L 0 sz)] 27) (H:=wH) (Fp:=wF) (K:=wK) hmix (by show 1≤1000;decide) (by show 27≤1000;decide) hG hX (sc:=cW0) (by kernel_rfl) (w0_ok (g:=g)) hS0) ?_);rintro x a1 w1 ⟨e,s1,E1,rfl,⟨rfl,rfl⟩,hS1⟩;show(Code.seq _ _).wp _ _ a1 w1;refine wp_seq (wp_region ?_);show wpOps _ _ _ [0,1] a1 w1;have v2:=ptr_val (hS1.tmp 2 (.ptr 2 0) rfl).2;have v3:=ptr_val (hS1.tmp 3 (.ptr 3 0) rfl).2;have v4:=ptr_val (hS1.tmp 4 (.ptr 4 0) rfl).2;have v0:=ptr_val (hS1.tmp 0 (.ptr 1000 0) rfl).2;have hsz:=hS1.size;have hos:seqO (fun d=>((sW L 0 sz).fs.mo d).bind (MO.ren (rhoIn [1000,2,3,4]))) [1000,2,3,4]=some (osV L 0 sz zeroE (I 0) (B false)):=rfl;have hMp:=z114 (I:=[1000,2,3,4]) hS1 (by decide) hos;generalize hfv:Value.func (.func 131) #[] #[a1.eval (.tmp 2),a1.eval (.tmp 3),a1.eval (.tmp 4)]=fv;generalize hd:({ target:=.fn (.func 131) #[a1.eval (.tmp 2),a1.eval (.tmp 3),a1.eval (.tmp 4)],args:= #[] }:Deferred)=d;rw[wpOps_cons]
 refine z102 rfl rfl (v:=fv) (w':=w1) (by rw[←hfv];simp[execOp,Instr.makeFunc,Result.andThen]) ?_;rw[wpOps_cons];have e5:(a1.put (some 5) fv).eval (.tmp 5)=fv:=by
  show(a1.tmps.setIfInBounds 5 fv).getD 5 undef=fv;have:5<a1.tmps.size:=by rw[hsz];show 5<27;decide
  simp[Array.getD,this]
 refine wp_defer (d:=d) rfl rfl (by
  have e5':(a1.put (some 5) fv).eval (.tmp 5)=.func (.func 131) #[] #[a1.eval (.tmp 2),a1.eval (.tmp 3),a1.eval (.tmp 4)]:=e5.trans hfv.symm;rw[←hd];show(execOp (a1.put (some 5) fv).eval _).run _ _=_;simp[execOp,resolve,Deferred.ofValue,e5',Result.andThen]) ?_
 show(Code.seq _ _).wp Tryz.prog _ { tmps:=a1.tmps.setIfInBounds 5 fv,defers:=d::a1.defers } w1;rw[show a1.defers=[] from hS1.defers];have hS2:Sim { Sh.start w1 (envIn E1 [1000,2,3,4]) (osV L 0 sz zeroE (I 0) (B false)) 27 with ds:=[d] } (sV L 0 sz).fs { tmps:=a1.tmps.setIfInBounds 5 fv,defers:=[d] } w1 (envIn E1 [1000,2,3,4]):=by
  have hb:(sV L 0 sz).fs.b=objB (osV L 0 sz zeroE (I 0) (B false)):=by funext d;show lk (numB 1000 (osV L 0 sz zeroE (I 0) (B false))) d=_;rw[lk_numB];rfl
  have hr':(sV L 0 sz).fs.r=objR (osV L 0 sz zeroE (I 0) (B false)):=by funext d;show lk (numR 1000 (osV L 0 sz zeroE (I 0) (B false))) d=_;rw[lk_numR];rfl
  have hset:∀k,k≠5→(a1.tmps.setIfInBounds 5 fv).getD k undef=a1.tmps.getD k undef:=fun k hk=>by
   rw[Array.getD_eq_getD_getElem?,Array.getElem?_setIfInBounds_ne (Ne.symm hk),←Array.getD_eq_getD_getElem?]
  refine⟨rfl,by rw[Array.size_setIfInBounds];exact hsz,fun k x hx=> ?_,?_,fun d z p hd=>(by cases hd),fun d d' q q' hd=>(by cases hd)⟩
  ·have hm:(k,x)∈[(0,TV.ptr 1000 0),(2,TV.ptr 1001 0),(3,TV.ptr 1002 0),(4,TV.ptr 1003 0)]:=lk_mem hx;simp only[List.mem_cons,List.not_mem_nil,or_false,Prod.mk.injEq]at hm;rcases hm with⟨rfl,rfl⟩|⟨rfl,rfl⟩|⟨rfl,rfl⟩|⟨rfl,rfl⟩
   ·refine⟨by show 0<27;decide,?_⟩;show RelT _ _ _ _ ((a1.tmps.setIfInBounds 5 fv).getD 0 undef);rw[hset 0 (by decide),v0];exact .ptr 1000 0
   ·refine⟨by show 2<27;decide,?_⟩;show RelT _ _ _ _ ((a1.tmps.setIfInBounds 5 fv).getD 2 undef);rw[hset 2 (by decide),v2];exact .ptr 1001 0
   ·refine⟨by show 3<27;decide,?_⟩;show RelT _ _ _ _ ((a1.tmps.setIfInBounds 5 fv).getD 3 undef);rw[hset 3 (by decide),v3];exact .ptr 1002 0
   ·refine⟨by show 4<27;decide,?_⟩;show RelT _ _ _ _ ((a1.tmps.setIfInBounds 5 fv).getD 4 undef);rw[hset 4 (by decide),v4];exact .ptr 1003 0
  ·rw[hb,hr'];exact⟨hMp.box,hMp.row,hMp.bb,hMp.br,hMp.rr,hMp.lt,hMp.low,hMp.keep,hMp.knew,⟨hMp.pas.β,hMp.pas.γ,hMp.pas.row⟩⟩
 have hn0:=g.le _ hG;have hw0:=hS1.mem.low.size;have hG1:g.G w1:=g.st _ _ hG (fun k hk=>hS1.mem.low.block k (Nat.lt_of_lt_of_le hk hn0) (fun d hd=>by have:=hX d k hd;omega));have hX1:∀d b,objX (envIn E1 [1000,2,3,4]) (osV L 0 sz zeroE (I 0) (B false)) d b→g.n≤b:=by
  intro d b hx;obtain⟨hlen,hB,hR⟩:=handed hos;rcases hx with⟨cs,e1,e2⟩|⟨⟨e,W,n⟩,cap,e1,e2⟩
  ·obtain⟨j,rfl,hj⟩:=z49 e1;obtain⟨i,c,b1,b2,_⟩:=hB j cs hj;have e3:E1.β i=b:=by rw[←e2];simp only[envIn];rw[getD_of b1]
   rcases(hS1.mem.box i c b2).2 with e4|e4
   ·rw[e3]at e4;exact Nat.le_trans hn0 e4
   ·rw[e3]at e4;exact hX _ _ e4
  ·obtain⟨j,rfl,hj⟩:=z30 e1;obtain⟨i,b1,b2,b3⟩:=hR j e W n hj;cases b3
 refine wp_mono (z48 (B:={ Sh.start w1 (envIn E1 [1000,2,3,4]) (osV L 0 sz zeroE (I 0) (B false)) 27 with ds:=[d] }) (H:=wH) (Fp:=wF) (K:=wK) hmix (by show 4≤1000;decide) (by show 27≤1000;decide) hG1 hX1 (sc:=cWr) (by kernel_rfl) hsw hS2) ?_;have hhrs:seqO (z70 Tryz.prog) Tryz.f76.results.toList=some [.cell true 4 2,.cell false 1 3,.cell false 1 4]:=by kernel_rfl
 have FIN:∀(s3:ES) (a3:Act) (w3:World) (E3:Env),Sim { Sh.start w1 (envIn E1 [1000,2,3,4]) (osV L 0 sz zeroE (I 0) (B false)) 27 with ds:=[d] } s3.fs a3 w3 E3→exitR [.cell true 4 2,.cell false 1 3,.cell false 1 4] false 4 s3=some (y,osV L p sz c2 c3 c4)→
   ∃v,(results Tryz.f76 a3.tmps).run Tryz.prog w3=.ok v w3∧∃v_1 E'_1,Ending.returned v=Ending.returned v_1∧MSim (Sh.start w E [.box (pB L 0 sz)] 0) (objB [.box (pB L p sz)]) (objR [.box (pB L p sz)]) w3 E'_1∧RelT w3 E'_1 (objR [.box (pB L p sz)]) y v_1∧Sh.Left E [.box (pB L 0 sz)] E'_1 [.box (pB L p sz)]:=by
  intro s3 a3 w3 E3 hS3 hex;obtain⟨v,hrun,v',E4,hv,hm4,hr4,hl4⟩:=fin_of (F:=⟨0,.skip,[.cell true 4 2,.cell false 1 3,.cell false 1 4],false⟩) rfl rfl hhrs (os:=osV L 0 sz zeroE (I 0) (B false)) (os':=osV L p sz c2 c3 c4) rfl hS3 hex;cases hv;obtain⟨hS5,hren⟩:=z174 hS1 (by decide) ment_W (by show 1≤1000;decide) fresh_W hos rfl (outs_W p c2 c3 c4 h2 h3 h4) hm4 hl4 none;rw[←ES.upd_fs]at hS5;have hrel:=z153 hren (fun _ _ _ h _=>h) hr4 (hy _);rw[←ES.upd_fs]at hrel;obtain⟨E6,m6,r6,l6⟩:=fin_y (ds:=[]) (os:=[.box (pB L 0 sz)]) (os':=[.box (pB L p sz)]) rfl hS5 hrel (exit_W p c2 c3 c4 hy hy2);exact⟨v,hrun,v,E6,rfl,m6,r6,l6⟩
 rintro x a3 w3 ⟨e,s3,E3,rfl,hQ,hS3⟩;have hdf:a3.defers=[d]:=hS3.defers;have hinv:(invoke d.target d.args).run Tryz.prog w3=.ok (.enter 131 #[a1.eval (.tmp 2),a1.eval (.tmp 3),a1.eval (.tmp 4)]) w3:=by
  rw[←hd];exact enters_mk Tryz.func131 rfl rfl _ w3
 have htar:d.target=.fn (.func 131) #[a1.eval (.tmp 2),a1.eval (.tmp 3),a1.eval (.tmp 4)]:=by rw[←hd]
 rcases hQ with hQ|⟨hQ,hya,hosa⟩
 ·have hfin:exitR [.cell true 4 2,.cell false 1 3,.cell false 1 4] false 4 s3=some (y,osV L p sz c2 c3 c4)→Leaves Tryz.prog Tryz.f76 a3.tmps (fun e w'=>∃v E',e=.returned v∧MSim (Sh.start w E [.box (pB L 0 sz)] 0) (objB [.box (pB L p sz)]) (objR [.box (pB L p sz)]) w' E'∧RelT w' E' (objR [.box (pB L p sz)]) y v∧Sh.Left E [.box (pB L 0 sz)] E' [.box (pB L p sz)]) a3.defers .returning w3:=by
   intro hex;rw[hdf];refine⟨by simp,_,_,_,_,htar,hinv,rec_none _ _ _ _ _ (fun v=> ?_)⟩;exact FIN s3 a3 w3 E3 hS3 hex
  cases e with
  |ret=>exact hfin hQ
  |normal=>exact hfin hQ
  |exit id=>exact hQ.elim
  |pan z=>exact hQ.elim
 ·obtain⟨rfl,q2,q3,q4,⟨cs2,b2,l2⟩,⟨cs3,b3⟩,⟨cs4,b4⟩,b0,hr0⟩:=hQ;show Leaves Tryz.prog Tryz.f76 a3.tmps _ a3.defers (.panicking [{ v:=wrongV a,recovered:=false }]) w3;rw[hdf];have ebt:∀d,1000≤d→d<1004→E3.β d=(envIn E1 [1000,2,3,4]).β d:=fun d h1 h2=>hS3.mem.pas.β d ⟨h1,h2⟩;have w2:a1.eval (.tmp 2)=.pointer (some ⟨E3.β 1001,0,none⟩):=by rw[ebt 1001 (by decide) (by decide)];exact v2
  have w3':a1.eval (.tmp 3)=.pointer (some ⟨E3.β 1002,0,none⟩):=by rw[ebt 1002 (by decide) (by decide)];exact v3
  have w4:a1.eval (.tmp 4)=.pointer (some ⟨E3.β 1003,0,none⟩):=by rw[ebt 1003 (by decide) (by decide)];exact v4
  rw[w2,w3',w4]at hinv htar;refine⟨by simp,_,_,_,_,htar,hinv,rec_pan hS3 b2 l2 b3 b4 a _ (fun v w4 hS4=> ?_)⟩;let s5:ES:=⟨s3.t,sv (sv (sv s3.b 1001 zeroE) 1002 [I (a:Int)]) 1003 [B false],s3.r,s3.i⟩
  have e5:s5.fs=((s3.fs.setB 1001 zeroE).setB 1002 [I (a:Int)]).setB 1003 [B false]:=by simp only[s5,ES.fs,FS.setB,lk_sv]
  rw[←e5]at hS4;refine FIN s5 a3 w4 E3 hS4 ?_;rw[hya,hosa];have t2:s5.fs.t 2=some (.ptr 1001 0):=q2;have t3:s5.fs.t 3=some (.ptr 1002 0):=q3;have t4:s5.fs.t 4=some (.ptr 1003 0):=q4;have B0:s5.fs.b 1000=some (pB L p sz):=by rw[e5];show lk s3.b 1000=_;exact b0
  have B1:s5.fs.b 1001=some zeroE:=by rw[e5];simp[FS.setB,setF]
  have B2:s5.fs.b 1002=some [I (a:Int)]:=by rw[e5];simp[FS.setB,setF]
  have B3:s5.fs.b 1003=some [B false]:=by rw[e5];simp[FS.setB,setF]
  have R0:∀d,s5.fs.r d=none:=fun d=>by show lk s3.r d=none;rw[hr0];rfl
  have hres:resT s5.fs [.cell true 4 2,.cell false 1 3,.cell false 1 4]=some (.tuple [.agg zeroE,I (a:Int),B false]):=by
   simp[resT,seqO,SRes.get,t2,t3,t4,B1,B2,B3,zeroE]
  generalize s5=s6 at*;rw[exitR_B hres];have m0:s6.fs.mo 1000=some (.box (pB L p sz)):=by simp[FS.mo,B0,R0]
  have m1:s6.fs.mo 1001=some (.box zeroE):=by simp[FS.mo,B1,R0]
  have m2:s6.fs.mo 1002=some (.box [I (a:Int)]):=by simp[FS.mo,B2,R0]
  have m3:s6.fs.mo 1003=some (.box [B false]):=by simp[FS.mo,B3,R0]
  have hfl:(idsFrom 1000 4).flatMap (boxIds s6.fs)=[]:=by
   simp only[idsFrom,List.flatMap_cons,List.flatMap_nil,boxIds,B0,B1,B2,B3];rfl
  have hal:reach s6.fs false 64 ((TV.tuple [.agg zeroE,I (a:Int),B false]).ids3++(idsFrom 1000 4).flatMap (boxIds s6.fs)) (idsFrom 1000 4)=[1000,1001,1002,1003]:=by
   rw[hfl];rfl
  unfold exitB;rw[hal];unfold backB;simp only[seqO,m0,m1,m2,m3,Option.bind_some];rfl
theorem whole_ok(hL:L.length≤4611686018427387904){f:Nat}{e:V}{p:Nat}(h:pE L sz f 1 0=some (.ok e p))(hp:¬p<L.length):
  zC g 76 [.ptr 1000 0] [.box (pB L 0 sz)] (.tuple [tv e,I 0,B true]) [.box (pB L p sz)]:=
 whole_gen p 0 _ (eC e) (I 0) (B true) (fun _=>rfl) rfl (fun _=>rfl) (fun _=>rfl) (fun _=>rfl) (z63 (rest_ok hL h hp) fun _ _ h=> .inl h)
theorem whole_bad(hL:L.length≤4611686018427387904){f a p:Nat}(h:pE L sz f 1 0=some (.bad a p)):
  zC g 76 [.ptr 1000 0] [.box (pB L 0 sz)] (.tuple [.agg zeroE,I (a:Int),B false]) [.box (pB L p sz)]:=
 whole_gen p a _ zeroE (I (a:Int)) (B false) (fun _=>rfl) rfl (fun _=>rfl) (fun _=>rfl) (fun _=>rfl) (z63 (rest_pan hL h) fun _ _ h=> .inr ⟨h,rfl,rfl⟩)
theorem whole_more(hL:L.length≤4611686018427387904){f:Nat}{e:V}{p:Nat}(h:pE L sz f 1 0=some (.ok e p))(hp:p<L.length):
  zC g 76 [.ptr 1000 0] [.box (pB L 0 sz)] (.tuple [.agg zeroE,I ((pkP L sz p).p:Int),B false]) [.box (pB L p sz)]:=
 whole_gen p (pkP L sz p).p _ zeroE (I ((pkP L sz p).p:Int)) (B false) (fun _=>rfl) rfl (fun _=>rfl) (fun _=>rfl) (fun _=>rfl) (z63 (rest_more hL h hp) fun _ _ h=> .inr ⟨h,rfl,rfl⟩)
end
end
theorem pieces_ok(g:Sh.Glob)(s:zB):zC g 75 [S (str s)] [] (.fn (.func 129) [] [.ptr 1000 0]) [.box [S (str s)]]:=by
 refine z22 tf_95 ?_;simp only[vW,seval]
def rH:Nat→Option Nat→Nat:=hintT [(17,0),(20,0),(32,0),(37,1),(46,0)]
def rF:Nat→List (Nat→Option Nat):=fpT [(7,[[(2,1005),(3,1001),(4,1002),(5,1003)]])]
def rK:Nat→List Nat:=killT []
abbrev cR0:SCode:=.reg [([6],[⟨some 6,none,none,.new [.int .i64 0,.int .i64 0,.string ⟨#[]⟩,.int .i64 0]⟩,⟨none,none,none,.st 4 (.tmp 6) (.tmp 21)⟩])] []
abbrev cR1:SCode:=.reg [([],[⟨some 22,none,none,.fldA 0 (.tmp 6)⟩,⟨some 23,none,none,.ld false 1 (.tmp 22)⟩,⟨some 24,none,none,.bin .eql 3 (.tmp 23) (.val (.int .i64 0))⟩])] []
abbrev cR2:SCode:=.reg [([],[⟨some 25,none,none,.build [.int .i64 0,.int .i64 0,.string ⟨#[]⟩,.slice none 0 0] []⟩,⟨some 26,none,none,.fldA 3 (.tmp 6)⟩,⟨some 27,none,some 1005,.ld false 1 (.tmp 26)⟩,⟨none,none,some 1001,.st 4 (.tmp 2) (.tmp 25)⟩,⟨none,none,some 1002,.st 1 (.tmp 3) (.tmp 27)⟩,⟨none,none,some 1003,.st 1 (.tmp 4) (.val (.int .i64 50))⟩])] []
abbrev cRo(b:Bool):List SOper:=[⟨some 28,none,none,.fldA 0 (.tmp 5)⟩,⟨some 29,none,none,.fldA 0 (.tmp 28)⟩,⟨some 30,none,none,.ld false 1 (.tmp 29)⟩,⟨some 31,none,none,.ld true 4 (.tmp 6)⟩,⟨some 32,none,none,.bsl 4 [.tmp 31]⟩,⟨some 33,none,none,if b then .appN 141 4 40 (.tmp 30) (.tmp 32)else .app 141 4 40 (.tmp 30) (.tmp 32)⟩,⟨some 34,none,none,.fldA 0 (.tmp 5)⟩,⟨some 35,none,none,.fldA 0 (.tmp 34)⟩,⟨none,none,none,.st 1 (.tmp 35) (.tmp 33)⟩]
abbrev cR3:SCode:=.reg [([],cRo false),([33],cRo true)] []
abbrev cRB:SCode:=.block 1 (.seq (.seq cR1 (.cond (.tmp 24) (.seq cR2 .ret) .skip)) cR3)
theorem codeR_eq:∃a b,rawOf Tryz.prog 36 0=.rangeFunc (.tmp 20) #[21] a b∧z15 Tryz.prog 50 rH rF rK a=some cR0∧z15 Tryz.prog 50 rH rF rK b=some cRB:=by
 refine⟨_,_,rfl,?_,?_⟩
 ·kernel_rfl
 ·kernel_rfl
def osB(L:List Pc)(sz:Nat)(mv:Value)(at_ er:Int)(q:Pc):List MO:=[.box [.own 1004 4 (L.map pcR),I 0,I (sz:Int),.pv (.v mv)],.box zeroE,.box [I at_],.box [I er],.row 141 4 L.length,.box [I q.k,I q.n,S (str q.s),I (q.p:Int)]]
abbrev slB:List (Nat×TV):=[(2,.ptr 1001 0),(3,.ptr 1002 0),(4,.ptr 1003 0),(5,.ptr 1000 0),(6,.ptr 1005 0)]
def sinB(L:List Pc)(sz:Nat)(mv:Value)(q:Pc):ES:=⟨slB,numB 1000 (osB L sz mv 0 0 q),numR 1000 (osB L sz mv 0 0 q),[]⟩
def osA(L:List Pc)(sz:Nat)(mv:Value):List MO:=[.box [.own 1004 4 (L.map pcR),I 0,I (sz:Int),.pv (.v mv)],.box zeroE,.box [I 0],.box [I 0],.row 141 4 L.length]
abbrev slA(q:Pc):List (Nat×TV):=[(2,.ptr 1001 0),(3,.ptr 1002 0),(4,.ptr 1003 0),(5,.ptr 1000 0),(6,.pv (.el (pcR q)))]
def sinA(L:List Pc)(sz:Nat)(mv:Value)(q:Pc):ES:=⟨slA q,numB 1000 (osA L sz mv),numR 1000 (osA L sz mv),[]⟩
theorem body_more(g:Sh.Glob)(L:List Pc)(sz:Nat)(mv:Value)(q:Pc)(hq:q.k≠0)(hL:L.length<1000000):
  swp Tryz.prog g cRB (fun e s'=>e=.normal∧lk s'.b 1000=some [.own 1004 4 ((L++[q]).map pcR),I 0,I (sz:Int),.pv (.v mv)]∧lk s'.r 1004=some (141,4,L.length+1)∧exitY (.tuple []) false 5 s'=some (.tuple [],osA (L++[q]) sz mv)) (sinA L sz mv q):=by
 unfold sinA osA zeroE slA pcR;simp only[numB,numR];simp only[vW,seval,hq];rw[List.map_append];exact⟨⟨by omega,by unfold maxLen;omega⟩,rfl,rfl⟩
theorem body_stop(g:Sh.Glob)(L:List Pc)(sz:Nat)(mv:Value)(q:Pc)(hq:q.k=0):
  swp Tryz.prog g cRB (fun e s'=>e=.ret∧exitY (.tuple []) false 6 s'=some (.tuple [],osB L sz mv (q.p:Int) 50 q)) (sinB L sz mv q):=by
 unfold sinB osB zeroE;simp only[numB,numR];simp only[vW,seval,hq];rfl
section
def sPx(L:List Pc)(sz:Nat)(mv:Value)(at_ er:Int):ES:=⟨[(2,.ptr 2 0),(3,.ptr 3 0),(4,.ptr 4 0),(5,.ptr 5 0)],[(5,[.own 3000 4 (L.map pcR),I 0,I (sz:Int),.pv (.v mv)]),(2,zeroE),(3,[I at_]),(4,[I er])],[(3000,(141,4,L.length))],[]⟩
def sQx(L:List Pc)(sz:Nat)(mv:Value)(q:Pc):ES:=⟨[(2,.ptr 2 0),(3,.ptr 3 0),(4,.ptr 4 0),(5,.ptr 5 0)],[(5,[.own 3000 4 (L.map pcR),I 0,I (sz:Int),.pv (.v mv)]),(2,zeroE),(3,[I 0]),(4,[I 0]),(2024,(pcR q).map TV.pv)],[(3000,(141,4,L.length))],[]⟩
def sameS(a a':Act):Prop:=∀k,k=2∨k=3∨k=4∨k=5→a'.tmps.getD k undef=a.tmps.getD k undef
section
variable{g:Sh.Glob}{B:Base}{a:Act}{W:World}{E:Env}{L:List Pc}{sz:Nat}{mv:Value}{q:Pc}{l n:Nat}
theorem fresh_P(L:List Pc)(sz:Nat)(mv:Value):∀k<4,Fresh (sPx L sz mv 0 0).fs (newId 6 k):=by
 intro k hk;have hf:(sPx L sz mv 0 0).fgt [2024,2025,2026,2027]=sPx L sz mv 0 0:=rfl;rw[←hf];exact z64 _ (by unfold newId;match k,hk with|0,_|1,_|2,_|3,_=>simp)
theorem rel_pcT{W:World}{E:Env}{r:Sh.Rows}:RelT W E r (pcT q) (.agg #[.int .i64 q.k,.int .i64 q.n,.string (str q.s),.int .i64 (q.p:Int)]):=by
 refine .agg _ [.int .i64 q.k,.int .i64 q.n,.string (str q.s),.int .i64 (q.p:Int)] rfl (fun j c v hc hv=> ?_) (fun v hv=> ?_)
 ·match j,hc,hv with
  |0,hc,hv=>cases hc;cases hv;exact .pv (.v _)
  |1,hc,hv=>cases hc;cases hv;exact .pv (.v _)
  |2,hc,hv=>cases hc;cases hv;exact .pv (.v _)
  |3,hc,hv=>cases hc;cases hv;exact .pv (.v _)
  |j+4,hc,hv=>simp at hc
 ·simp only[List.mem_cons,List.not_mem_nil,or_false]at hv;rcases hv with rfl|rfl|rfl|rfl<;>rfl
theorem startX0{W:World}{E0:Env}{N n:Nat}:∀d b,(Sh.start W E0 [] N).X d b→n≤b:=by
 intro d b hx;rcases hx with⟨cs,h1,_⟩|⟨q,cap,h1,_⟩
 ·simp[objB]at h1
 ·simp[objR]at h1
theorem assign_in{cA:Code}(tA:z15 Tryz.prog 50 rH rF rK cA=some cR0)(hm0:B.m≤1000)(hG:g.G W)(hS:Sim B (sPx L sz mv 0 0).fs a W E){ar:Act}(hsz:ar.tmps.size=50)(hd:ar.defers=[])(hsm:sameS a ar)(h21:ar.tmps.getD 21 undef=.agg #[.int .i64 q.k,.int .i64 q.n,.string (str q.s),.int .i64 (q.p:Int)]):
  cA.wpIn (Fw (some l)) n Tryz.prog (fun x a' W'=>x=.normal∧a'.tmps.size=50∧a'.defers=[]∧sameS a a'∧W.grownBy W' none∧∃E',Sim B (sQx L sz mv q).fs a W' E'∧a'.tmps.getD 6 undef=.pointer (some ⟨E'.β 2024,0,none⟩)) ar W:=by
 let ts:List (Nat×TV):=[(21,pcT q),(2,.pv (.v (ar.tmps.getD 2 undef))),(3,.pv (.v (ar.tmps.getD 3 undef))),(4,.pv (.v (ar.tmps.getD 4 undef))),(5,.pv (.v (ar.tmps.getD 5 undef)))]
 have hos:seqO (fun d=>((sPx L sz mv 0 0).fs.mo d).bind (MO.ren (rhoIn []))) []=some ([]:List MO):=rfl;have hi:=inner_sim (ds:=[]) hS List.nodup_nil hos hsz hd ts (fun k x hx=>by
  simp only[ts,List.mem_cons,List.not_mem_nil,or_false,Prod.mk.injEq]at hx;rcases hx with⟨rfl,rfl⟩|⟨rfl,rfl⟩|⟨rfl,rfl⟩|⟨rfl,rfl⟩|⟨rfl,rfl⟩
  ·refine⟨by decide,.inr fun W E r=> ?_⟩;rw[h21];exact rel_pcT
  ·exact⟨by decide,.inr fun W E r=> .pv (.v _)⟩
  ·exact⟨by decide,.inr fun W E r=> .pv (.v _)⟩
  ·exact⟨by decide,.inr fun W E r=> .pv (.v _)⟩
  ·exact⟨by decide,.inr fun W E r=> .pv (.v _)⟩)
 have hsw:swp Tryz.prog g cR0 (fun e s'=>e=.normal∧s'=⟨ts++[(6,.ptr 6 0)],[(6,(pcR q).map TV.pv)],[],[]⟩) ⟨ts,numB 1000 [],numR 1000 [],[]⟩:=by
  simp only[ts,pcT,pcR,numB,numR];generalize ar.tmps.getD 2 undef=v2;generalize ar.tmps.getD 3 undef=v3;generalize ar.tmps.getD 4 undef=v4;generalize ar.tmps.getD 5 undef=v5;simp only[vW,seval]
 have hx0:∀d b,(Sh.start W (envIn E []) [] 50).X d b→g.n≤b:=startX0;have hr:=swpIn_sound (ro:=some l) (n:=n) (B:={ Sh.start W (envIn E []) [] 50 with ds:=[] }) (H:=rH) (Fp:=rF) (K:=rK) hmix (by show 0≤1000;decide) (by show 50≤1000;decide) hG hx0 (c:=cA) tA rfl hsw hi;refine wpIn_mono hr ?_;rintro x a' W' ⟨e,s',E',rfl,⟨rfl,rfl⟩,hS'⟩;have h6:=(hS'.tmp 6 (.ptr 6 0) rfl)
 obtain⟨E2,hS2,hr2⟩:=inner_back (k:=6) (us:=[(2024,.box ((pcR q).map TV.pv))]) hS List.nodup_nil (by simp) hm0 (fresh_P L sz mv) hos rfl rfl hS' h6.2 (y:=.ptr 1000 0) (os':=[.box ((pcR q).map TV.pv)]) rfl (y2:=.ptr 2024 0) rfl;rw[←ES.upd_fs]at hS2;have hlow:=hS'.mem.low;refine⟨rfl,hS'.size,hS'.defers,fun k hk=> ?_,⟨hlow.os,hlow.tape,hlow.output,hlow.size,fun k hk _=>hlow.block k hk fun d hx=> ?_⟩,E2,hS2,?_⟩
 ·rw[←hsm k hk];rcases hk with rfl|rfl|rfl|rfl
  ·exact val_v (hS'.tmp 2 _ rfl).2
  ·exact val_v (hS'.tmp 3 _ rfl).2
  ·exact val_v (hS'.tmp 4 _ rfl).2
  ·exact val_v (hS'.tmp 5 _ rfl).2
 ·have:=startX0 (W:=W) (E0:=envIn E []) (N:=50) (n:=k+1) d k hx;omega
 ·exact ptr_val hr2
def sQ6(L:List Pc)(sz:Nat)(mv:Value)(q:Pc):ES:=⟨[(2,.ptr 2 0),(3,.ptr 3 0),(4,.ptr 4 0),(5,.ptr 5 0),(6,.ptr 2024 0)],(sQx L sz mv q).b,(sQx L sz mv q).r,[]⟩
theorem to_Q6(hN:B.N=50)(hS:Sim B (sQx L sz mv q).fs a W E):Sim B (sQ6 L sz mv q).fs (a.put (some 6) (.pointer (some ⟨E.β 2024,0,none⟩))) W E:=by
 have hsz:=hS.size;refine⟨hS.defers,by rw[←hsz];simp[Act.put],fun k x hx=> ?_,hS.mem,hS.itr,hS.ii⟩;have hm:(k,x)∈[(2,TV.ptr 2 0),(3,TV.ptr 3 0),(4,TV.ptr 4 0),(5,TV.ptr 5 0),(6,TV.ptr 2024 0)]:=lk_mem hx;simp only[List.mem_cons,List.not_mem_nil,or_false,Prod.mk.injEq]at hm;rcases hm with⟨rfl,rfl⟩|⟨rfl,rfl⟩|⟨rfl,rfl⟩|⟨rfl,rfl⟩|⟨rfl,rfl⟩
 ·rw[z90 (by decide)];exact hS.tmp 2 _ rfl
 ·rw[z90 (by decide)];exact hS.tmp 3 _ rfl
 ·rw[z90 (by decide)];exact hS.tmp 4 _ rfl
 ·rw[z90 (by decide)];exact hS.tmp 5 _ rfl
 ·rw[put_self (by rw[hsz,hN];decide)];exact⟨by rw[hN];decide,.ptr 2024 0⟩
theorem of_P6(hsz:a.tmps.size=B.N)(hd:a.defers=B.ds){W':World}{E':Env}{v:Value}{L':List Pc}{x y:Int}(hS:Sim B (sPx L' sz mv x y).fs (a.put (some 6) v) W' E'):Sim B (sPx L' sz mv x y).fs a W' E':=by
 refine hS.act hsz hd fun k z hz=> ?_;have h1:=(hS.tmp k z hz).2;have hm:(k,z)∈[(2,TV.ptr 2 0),(3,TV.ptr 3 0),(4,TV.ptr 4 0),(5,TV.ptr 5 0)]:=lk_mem hz;have hk:k≠6:=by
  simp only[List.mem_cons,List.not_mem_nil,or_false,Prod.mk.injEq]at hm;omega
 rwa [z90 hk]at h1
theorem fresh_Q(L:List Pc)(sz:Nat)(mv:Value)(q:Pc):∀k<4,Fresh (sQ6 L sz mv q).fs (newId 7 k):=by
 intro k hk;have hf:(sQ6 L sz mv q).fgt [2028,2029,2030,2031]=sQ6 L sz mv q:=rfl;rw[←hf];exact z64 _ (by unfold newId;match k,hk with|0,_|1,_|2,_|3,_=>simp)
theorem ment_Q6:∀i∈[5,2,3,4,3000,2024],(sQ6 L sz mv q).fs.ment i:=by
 intro i hi;simp only[List.mem_cons,List.not_mem_nil,or_false]at hi;rcases hi with rfl|rfl|rfl|rfl|rfl|rfl
 ·exact .inl ⟨5,_,rfl,.ptr _⟩
 ·exact .inl ⟨2,_,rfl,.ptr _⟩
 ·exact .inl ⟨3,_,rfl,.ptr _⟩
 ·exact .inl ⟨4,_,rfl,.ptr _⟩
 ·exact .inr ⟨5,_,_,rfl,List.mem_cons_self ..,.own _ _⟩
 ·exact .inl ⟨6,_,rfl,.ptr _⟩
theorem stop_in{cB:Code}(tB:z15 Tryz.prog 50 rH rF rK cB=some cRB)(hN:B.N=50)(hm0:B.m≤1000)(hG:g.G W)(hn:g.n≤B.w0.heap.size)(hX:∀d b,B.X d b→g.n≤b)(hS0:Sim B (sQx L sz mv q).fs a W E)(hq:q.k=0){a':Act}(hsz:a'.tmps.size=50)(hd:a'.defers=[])(hsm:sameS a a')(h6:a'.tmps.getD 6 undef=.pointer (some ⟨E.β 2024,0,none⟩)):
  cB.wpIn (Fw (some l)) n Tryz.prog (fun x _ W'=>x=.ret∧(∃E',Sim B (sPx L sz mv (q.p:Int) 50).fs a W' E')∧W.heap.size≤W'.heap.size∧∀(k:Nat) (o:Obj),W.heap[k]?=some o→o.isCells=false→W'.heap[k]?=some o) a' W:=by
 have hS:=to_Q6 hN hS0;have hos:seqO (fun d=>((sQ6 L sz mv q).fs.mo d).bind (MO.ren (rhoIn [5,2,3,4,3000,2024]))) [5,2,3,4,3000,2024]=some (osB L sz mv 0 0 q):=rfl;have hnd:[5,2,3,4,3000,2024].Nodup:=by decide
 have hp:∀k d x',(sQx L sz mv q).fs.t k=some (.ptr d 0)→TV.ren3 (rhoIn [5,2,3,4,3000,2024]) (.ptr d 0)=some x'→(k=2∨k=3∨k=4∨k=5)→∃x,TV.ren3 (rhoIn [5,2,3,4,3000,2024]) x=some x'∧RelT W E (sQ6 L sz mv q).fs.r x (a'.tmps.getD k undef):=fun k d x' h1 h2 h3=>by
  refine⟨.ptr d 0,h2,?_⟩;rw[hsm k h3];exact(hS0.tmp k _ h1).2
 have hi:=inner_sim (ds:=[]) hS hnd hos hsz hd slB (fun k x hx=>by
  simp only[slB,List.mem_cons,List.not_mem_nil,or_false,Prod.mk.injEq]at hx;rcases hx with⟨rfl,rfl⟩|⟨rfl,rfl⟩|⟨rfl,rfl⟩|⟨rfl,rfl⟩|⟨rfl,rfl⟩
  ·exact⟨by decide,.inl (hp 2 2 _ rfl rfl (by simp))⟩
  ·exact⟨by decide,.inl (hp 3 3 _ rfl rfl (by simp))⟩
  ·exact⟨by decide,.inl (hp 4 4 _ rfl rfl (by simp))⟩
  ·exact⟨by decide,.inl (hp 5 5 _ rfl rfl (by simp))⟩
  ·refine⟨by decide,.inl ⟨.ptr 2024 0,rfl,?_⟩⟩;rw[h6];exact .ptr 2024 0)
 have hr:=swpIn_sound (ro:=some l) (n:=n) (B:={ Sh.start W (envIn E [5,2,3,4,3000,2024]) (osB L sz mv 0 0 q) 50 with ds:=[] }) (H:=rH) (Fp:=rF) (K:=rK) hmix (by show 6≤1000;decide) (by show 50≤1000;decide) hG (inner_X hS hos hn hX) (c:=cB) tB rfl (body_stop g L sz mv q hq) hi;refine wpIn_mono hr ?_;rintro x a2 W' ⟨e,s',E',rfl,⟨rfl,hex⟩,hS'⟩;refine⟨rfl,?_,hS'.mem.low.size,inner_keeps hS hnd hos hS'⟩;obtain⟨E2,hS2,_⟩:=inner_back (k:=7) (us:=[(5,.box [.own 3000 4 (L.map pcR),I 0,I (sz:Int),.pv (.v mv)]),(2,.box zeroE),(3,.box [I (q.p:Int)]),(4,.box [I 50]),(3000,.row 141 4 L.length),(2024,.box [I q.k,I q.n,S (str q.s),I (q.p:Int)])]) (v:=.tuple #[]) hS hnd ment_Q6 hm0 (fresh_Q L sz mv q) hos (by unfold osB;simp[moOk]) (by rfl) hS' (y0:=.tuple []) (.tuple [] [] rfl (fun j c v h=>by simp at h)) hex (y2:=.tuple []) rfl;rw[←ES.upd_fs]at hS2;exact⟨E2,of_P6 (hS0.size) (hS0.defers) (z186 (z84 hS2 [2024]) [6])⟩
theorem own_rb{B':Base}{b:Nat→Option (List TV)}{r:Sh.Rows}{w:World}{E:Env}(h:MSim B' b r w E){d c e m:Nat}{es:List (List PV)}{cs:List TV}(h1:b d=some (.own c 4 es::cs))(h2:r c=some (e,4,m))(hm:es.length=m)(k:Nat):rbOf (E.β d) w k ↔ ∃cap,E.γ c=some (k,cap):=by
 obtain⟨v,c1,_,c3⟩:=(h.box d _ h1).1.cell 0 _ rfl;have hv:v=hdr (E.γ c) m:=by
  cases c3 with
  |own _ _ _ _ hh hr=>exact((hr e 4 m h2).2 hm).2
 unfold rbOf;rw[c1,hv];cases hg:E.γ c with
 |none=>simp[hdr]
 |some x=>
  obtain⟨j,cap⟩:=x;simp only[hdr,Option.some.injEq,Value.slice.injEq,Prod.mk.injEq];constructor
  ·rintro⟨p,n,c',⟨h3,_,_⟩,h4⟩;subst h3;exact⟨cap,h4,rfl⟩
  ·rintro⟨cap',h3,_⟩;exact⟨_,_,_,⟨rfl,rfl,rfl⟩,h3⟩
theorem to_el(hS:Sim B (sQx L sz mv q).fs a W E):∃K',Sim B (sPx L sz mv 0 0).fs a W { E with K:=K' }∧RelT W { E with K:=K' } (sPx L sz mv 0 0).fs.r (.pv (.el (pcR q))) (.pointer (some ⟨E.β 2024,0,none⟩)):=by
 obtain⟨K',h1,h2,_⟩:=hS.freeze (fun _ _=>trivial) (d:=2024) (ps:=pcR q) rfl (fun k x hx hm=>by
   have hh:(k,x)∈[(2,TV.ptr 2 0),(3,TV.ptr 3 0),(4,TV.ptr 4 0),(5,TV.ptr 5 0)]:=lk_mem hx;simp only[List.mem_cons,List.not_mem_nil,or_false,Prod.mk.injEq]at hh;rcases hh with⟨_,rfl⟩|⟨_,rfl⟩|⟨_,rfl⟩|⟨_,rfl⟩<;>cases hm) (fun e cs x he hne hx hm=>by
   have hh:(e,cs)∈(sQx L sz mv q).b:=lk_mem he;simp only[sQx,List.mem_cons,List.not_mem_nil,or_false,Prod.mk.injEq]at hh;rcases hh with⟨_,rfl⟩|⟨_,rfl⟩|⟨_,rfl⟩|⟨_,rfl⟩|⟨h,_⟩
   ·simp only[List.mem_cons,List.not_mem_nil,or_false]at hx;rcases hx with rfl|rfl|rfl|rfl<;>cases hm
   ·simp only[zeroE,List.mem_cons,List.not_mem_nil,or_false]at hx;rcases hx with rfl|rfl|rfl|rfl<;>cases hm
   ·simp only[List.mem_cons,List.not_mem_nil,or_false]at hx;subst hx;cases hm
   ·simp only[List.mem_cons,List.not_mem_nil,or_false]at hx;subst hx;cases hm
   ·exact hne h)
 refine⟨K',h1.less (fun k x hx=> .inl hx) (fun d cs hd=> ?_) (fun d q hd=>hd) (fun d q hd=>hd),h2⟩;have hh:(d,cs)∈(sPx L sz mv 0 0).b:=lk_mem hd;refine⟨cs,?_,fun j c h=> .inl h⟩;simp only[sPx,List.mem_cons,List.not_mem_nil,or_false,Prod.mk.injEq]at hh;rcases hh with⟨rfl,rfl⟩|⟨rfl,rfl⟩|⟨rfl,rfl⟩|⟨rfl,rfl⟩<;>rfl
theorem more_in{cB:Code}(tB:z15 Tryz.prog 50 rH rF rK cB=some cRB)(hm0:B.m≤1000)(hG:g.G W)(hn:g.n≤B.w0.heap.size)(hX:∀d b,B.X d b→g.n≤b)(hS0:Sim B (sQx L sz mv q).fs a W E)(hq:q.k≠0)(hL:L.length<1000000){a':Act}(hsz:a'.tmps.size=50)(hd:a'.defers=[])(hsm:sameS a a')(h6:a'.tmps.getD 6 undef=.pointer (some ⟨E.β 2024,0,none⟩)):
  cB.wpIn (Fw (some l)) n Tryz.prog (fun x _ W'=>x=.normal∧(∃E',Sim B (sPx (L++[q]) sz mv 0 0).fs a W' E')∧W.heap.size≤W'.heap.size∧(∀(k:Nat) (o:Obj),W.heap[k]?=some o→o.isCells=false→W'.heap[k]?=some o)∧∀O:List Nat,(∀i,i=5∨i=2∨i=3∨i=4→E.β i∈O)→Kp O (E.β 5) g.n W W') a' W:=by
 obtain⟨K',hS,hel⟩:=to_el hS0;rw[←h6]at hel;have hos:seqO (fun d=>((sPx L sz mv 0 0).fs.mo d).bind (MO.ren (rhoIn [5,2,3,4,3000]))) [5,2,3,4,3000]=some (osA L sz mv):=rfl;have hnd:[5,2,3,4,3000].Nodup:=by decide
 have hp:∀k d x',(sPx L sz mv 0 0).fs.t k=some (.ptr d 0)→TV.ren3 (rhoIn [5,2,3,4,3000]) (.ptr d 0)=some x'→(k=2∨k=3∨k=4∨k=5)→∃x,TV.ren3 (rhoIn [5,2,3,4,3000]) x=some x'∧RelT W { E with K:=K' } (sPx L sz mv 0 0).fs.r x (a'.tmps.getD k undef):=fun k d x' h1 h2 h3=>by
  refine⟨.ptr d 0,h2,?_⟩;rw[hsm k h3];exact(hS.tmp k _ h1).2
 have hi:=inner_sim (ds:=[]) hS hnd hos hsz hd (slA q) (fun k x hx=>by
  simp only[slA,List.mem_cons,List.not_mem_nil,or_false,Prod.mk.injEq]at hx;rcases hx with⟨rfl,rfl⟩|⟨rfl,rfl⟩|⟨rfl,rfl⟩|⟨rfl,rfl⟩|⟨rfl,rfl⟩
  ·exact⟨by decide,.inl (hp 2 2 _ rfl rfl (by simp))⟩
  ·exact⟨by decide,.inl (hp 3 3 _ rfl rfl (by simp))⟩
  ·exact⟨by decide,.inl (hp 4 4 _ rfl rfl (by simp))⟩
  ·exact⟨by decide,.inl (hp 5 5 _ rfl rfl (by simp))⟩
  ·exact⟨by decide,.inl ⟨_,rfl,hel⟩⟩)
 have hIX:=inner_X hS hos hn hX;have hr:=swpIn_sound (ro:=some l) (n:=n) (B:={ Sh.start W (envIn { E with K:=K' } [5,2,3,4,3000]) (osA L sz mv) 50 with ds:=[] }) (H:=rH) (Fp:=rF) (K:=rK) hmix (by show 5≤1000;decide) (by show 50≤1000;decide) hG hIX (c:=cB) tB rfl (body_more g L sz mv q hq hL) hi;refine wpIn_mono hr ?_;rintro x a2 W' ⟨e,s',E',rfl,⟨rfl,hb1,hr1,hex⟩,hS'⟩;refine⟨rfl,?_,hS'.mem.low.size,inner_keeps hS hnd hos hS',fun O hO=> ?_⟩
 ·obtain⟨E2,hS2,_⟩:=inner_back (k:=7) (us:=[(5,.box [.own 3000 4 ((L++[q]).map pcR),I 0,I (sz:Int),.pv (.v mv)]),(2,.box zeroE),(3,.box [I 0]),(4,.box [I 0]),(3000,.row 141 4 (L++[q]).length)]) (v:=.tuple #[]) hS hnd (fun i hi=>by
   simp only[List.mem_cons,List.not_mem_nil,or_false]at hi;rcases hi with rfl|rfl|rfl|rfl|rfl
   ·exact .inl ⟨5,_,rfl,.ptr _⟩
   ·exact .inl ⟨2,_,rfl,.ptr _⟩
   ·exact .inl ⟨3,_,rfl,.ptr _⟩
   ·exact .inl ⟨4,_,rfl,.ptr _⟩
   ·exact .inr ⟨5,_,_,rfl,List.mem_cons_self ..,.own _ _⟩) hm0 (fun k hk=>by
   have hf:(sPx L sz mv 0 0).fgt [2028,2029,2030,2031]=sPx L sz mv 0 0:=rfl;rw[←hf];exact z64 _ (by unfold newId;match k,hk with|0,_|1,_|2,_|3,_=>simp)) hos (by unfold osA;simp[moOk]) (by rfl) hS' (y0:=.tuple []) (.tuple [] [] rfl (fun j c v h=>by simp at h)) hex (y2:=.tuple []) rfl
  rw[←ES.upd_fs]at hS2;exact⟨E2,hS2⟩
 ·have hlow:=hS'.mem.low;have hrbW:=own_rb hS.mem (d:=5) (c:=3000) (e:=141) (m:=L.length) (es:=L.map pcR) (cs:=[I 0,I (sz:Int),.pv (.v mv)]) rfl rfl (by simp);have hrbW':=own_rb hS'.mem (d:=1000) (c:=1004) (e:=141) (m:=L.length+1) (es:=(L++[q]).map pcR) (cs:=[I 0,I (sz:Int),.pv (.v mv)]) hb1 hr1 (by simp);have hβ:E'.β 1000=E.β 5:=hS'.mem.pas.β 1000 ⟨by decide,by show 1000<1000+5;decide⟩;rw[hβ]at hrbW';have hrow:∀k cap,E'.γ 1004=some (k,cap)→(rbOf (E.β 5) W k∨W.heap.size≤k)∧k<W'.heap.size:=fun k cap hg=>by
   rcases hS'.mem.row 1004 _ _ _ hr1 with⟨h1,_⟩|⟨k',cap',h1,h2,h3⟩
   ·rw[h1]at hg;cases hg
   ·rw[h1]at hg;cases hg;obtain⟨cur,h4,_⟩:=h3.cells;refine⟨?_,(gA h4).1⟩;rcases h2 with h2|h2
    ·exact .inr h2
    ·refine .inl ((hrbW k).2 ?_);rcases h2 with⟨cs,h5,_⟩|⟨q',cap',h5,h6⟩
     ·cases h5
     ·exact⟨cap',h6⟩
  refine⟨hlow.size,fun k o hk hc hkO hkr=> ?_,fun k hk=> ?_,fun _ k hk=> ?_,fun k hk=> ?_⟩
  ·refine(hlow.block k (gA hk).1 fun d hx=> ?_).trans hk;rcases hx with⟨cs,h1,h2⟩|⟨q',cap,h1,h2⟩
   ·obtain⟨j,rfl,hj⟩:=z49 h1;have h3:E.β ([5,2,3,4,3000].getD (1000+j-1000) 0)=k:=h2;rw[Nat.add_sub_cancel_left]at h3;unfold osA at hj;rcases j with _|_|_|_|_|j
    ·exact hkO (by rw[←h3];exact hO 5 (by simp))
    ·exact hkO (by rw[←h3];exact hO 2 (by simp))
    ·exact hkO (by rw[←h3];exact hO 3 (by simp))
    ·exact hkO (by rw[←h3];exact hO 4 (by simp))
    ·simp at hj
    ·simp at hj
   ·obtain⟨j,rfl,hj⟩:=z30 h1;have h3:E.γ ([5,2,3,4,3000].getD (1000+j-1000) 0)=some (k,cap):=h2;rw[Nat.add_sub_cancel_left]at h3;unfold osA at hj;rcases j with _|_|_|_|_|j
    ·simp at hj
    ·simp at hj
    ·simp at hj
    ·simp at hj
    ·exact hkr ((hrbW k).2 ⟨cap,h3⟩)
    ·simp at hj
  ·obtain⟨cap,hg⟩:=(hrbW' k).1 hk;exact(hrow k cap hg).1
  ·obtain⟨cap,hg⟩:=(hrbW' k).1 hk;exact(hrow k cap hg).2
  ·exact hlow.block k (Nat.lt_of_lt_of_le hk (g.le _ hG)) fun d hx=>by have:=hIX d k hx;omega
end
end
section
theorem pcR_inj{q q':Pc}(h:pcR q=pcR q'):q=q':=by
 obtain⟨k,n,s,p⟩:=q;obtain⟨k',n',s',p'⟩:=q';simp only[pcR,List.cons.injEq,PV.v.injEq,Value.int.injEq,Value.string.injEq,true_and,and_true]at h;obtain⟨h1,h2,h3,h4⟩:=h;have h3':s=s':=by have:=congrArg (fun b:ByteArray=>b.toList) h3;simpa using this
 subst h1 h2 h3';have:p=p':=by omega
 rw[this]
theorem sl_link{W:World}{K K':Nat→Nat→Prop}{L L':List Pc}{v:Value}(h:RelV W K (.sl 4 (L.map pcR)) v)(h':RelV W K' (.sl 4 (L'.map pcR)) v):L=L':=by
 cases h with
 |sl _ _ b off cap p f hp hcap hmax hW hc hs=>
  generalize hv:Value.slice p (L.map pcR).length cap=v at h';cases h' with
  |sl _ _ b' off' cap' p' f' hp' hcap' hmax' hW' hc' hs'=>
   simp only[Value.slice.injEq,List.length_map]at hv;obtain⟨hpp,hlen,_⟩:=hv;apply List.ext_getElem?;intro i;rcases Nat.lt_or_ge i L.length with hi|hi
   ·have hi':i<L'.length:=by omega
    have hne:L.map pcR≠[]:=by intro h0;have:=congrArg List.length h0;simp at this;rw[this]at hi;simp at hi
    have hne':L'.map pcR≠[]:=by intro h0;have:=congrArg List.length h0;simp at this;rw[this]at hi';simp at hi'
    have e1:=hp hne;have e2:=hp' hne';rw[hpp,e2]at e1;cases e1;have g1:(L.map pcR)[i]?=some (pcR L[i]):=by simp[hi]
    have g2:(L'.map pcR)[i]?=some (pcR L'[i]):=by simp[hi']
    rw[gE hi,gE hi'];congr 1;refine pcR_inj (List.ext_getElem? fun j=> ?_);have hl:∀q:Pc,(pcR q).length=4:=fun _=>rfl;have hx:∀(q:Pc) (j:Nat) c,(pcR q)[j]?=some c→∃x,c=.v x:=fun q j c hc=>by
     match j,hc with
     |0,hc=>cases hc;exact⟨_,rfl⟩
     |1,hc=>cases hc;exact⟨_,rfl⟩
     |2,hc=>cases hc;exact⟨_,rfl⟩
     |3,hc=>cases hc;exact⟨_,rfl⟩
     |j+4,hc=>simp[pcR]at hc
    rcases Nat.lt_or_ge j 4 with hj|hj
    ·have k1:(pcR L[i])[j]?=some (pcR L[i])[j]:=gE (by rw[hl];exact hj);have k2:(pcR L'[i])[j]?=some (pcR L'[i])[j]:=gE (by rw[hl];exact hj);have c1:=(hc i j _ _ g1 k1).2.1;have c2:=(hc' i j _ _ g2 k2).2.1;rw[c1]at c2;have r1:=hs i j _ _ g1 k1;have r2:=hs' i j _ _ g2 k2;obtain⟨x,hx1⟩:=hx _ _ _ k1;obtain⟨y,hy1⟩:=hx _ _ _ k2;rw[k1,k2,hx1,hy1];rw[hx1]at r1;rw[hy1]at r2;have e:f i j=f' i j:=Option.some.inj c2;generalize f i j=u at r1 e;generalize f' i j=u' at r2 e;cases r1;cases r2;rw[e]
    ·rw[List.getElem?_eq_none (by rw[hl];exact hj),List.getElem?_eq_none (by rw[hl];exact hj)]
   ·rw[List.getElem?_eq_none hi,List.getElem?_eq_none (by omega)]
section
variable{g:Sh.Glob}{B:Base}{a:Act}{W:World}{E E':Env}{L L':List Pc}{sz:Nat}{mv:Value}{q:Pc}
theorem z94{s:FS}(hS:Sim B s a W E){k d:Nat}(h:s.t k=some (.ptr d 0)):a.tmps.getD k undef=.pointer (some ⟨E.β d,0,none⟩):=ptr_val (hS.tmp k _ h).2
theorem own0{s:FS}(hS:Sim B s a W E){d c:Nat}{es:List (List PV)}{cs:List TV}(h:s.b d=some (.own c 4 es::cs)):∃v,W.cell? ⟨E.β d,0,none⟩=some v∧RelV W E.K (.sl 4 es) v:=by
 obtain⟨v,c1,_,c3⟩:=(hS.mem.box d _ h).1.cell 0 _ rfl;cases c3 with
 |own _ _ _ _ hh _=>exact⟨v,c1,hh⟩
theorem link_P(hS:Sim B (sPx L sz mv 0 0).fs a W E)(hS':Sim B (sQx L' sz mv q).fs a W E'):L=L':=by
 have e1:=z94 hS (k:=5) (d:=5) rfl;have e2:=z94 hS' (k:=5) (d:=5) rfl;obtain⟨v,c1,h1⟩:=own0 hS (d:=5) rfl;obtain⟨v',c2,h2⟩:=own0 hS' (d:=5) rfl;have eb:E.β 5=E'.β 5:=by rw[e1]at e2;simpa using e2
 rw[eb,c2]at c1;cases c1;exact sl_link h1 h2
theorem flat_P{x y:Int}:∀d cs,(sPx L sz mv x y).fs.b d=some cs→∀c∈cs,c.flat:=by
 intro d cs hd c hc;have hh:(d,cs)∈(sPx L sz mv x y).b:=lk_mem hd;simp only[sPx,zeroE,List.mem_cons,List.not_mem_nil,or_false,Prod.mk.injEq]at hh;rcases hh with⟨_,rfl⟩|⟨_,rfl⟩|⟨_,rfl⟩|⟨_,rfl⟩<;>simp only[List.mem_cons,List.not_mem_nil,or_false]at hc
 ·rcases hc with rfl|rfl|rfl|rfl
  ·exact .inr ⟨_,_,_,rfl⟩
  ·exact .inl ⟨_,rfl⟩
  ·exact .inl ⟨_,rfl⟩
  ·exact .inl ⟨_,rfl⟩
 ·rcases hc with rfl|rfl|rfl|rfl<;>exact .inl ⟨_,rfl⟩
 ·subst hc;exact .inl ⟨_,rfl⟩
 ·subst hc;exact .inl ⟨_,rfl⟩
theorem flat_Q:∀d cs,(sQx L sz mv q).fs.b d=some cs→∀c∈cs,c.flat:=by
 intro d cs hd c hc;have hh:(d,cs)∈(sQx L sz mv q).b:=lk_mem hd;simp only[sQx,zeroE,pcR,List.map_cons,List.map_nil,List.mem_cons,List.not_mem_nil,or_false,Prod.mk.injEq]at hh;rcases hh with⟨_,rfl⟩|⟨_,rfl⟩|⟨_,rfl⟩|⟨_,rfl⟩|⟨_,rfl⟩<;>simp only[List.mem_cons,List.not_mem_nil,or_false]at hc
 ·rcases hc with rfl|rfl|rfl|rfl
  ·exact .inr ⟨_,_,_,rfl⟩
  ·exact .inl ⟨_,rfl⟩
  ·exact .inl ⟨_,rfl⟩
  ·exact .inl ⟨_,rfl⟩
 ·rcases hc with rfl|rfl|rfl|rfl<;>exact .inl ⟨_,rfl⟩
 ·subst hc;exact .inl ⟨_,rfl⟩
 ·subst hc;exact .inl ⟨_,rfl⟩
 ·rcases hc with rfl|rfl|rfl|rfl<;>exact .inl ⟨_,rfl⟩
theorem slots_P{k:Nat}{x:TV}(h:lk [(2,TV.ptr 2 0),(3,TV.ptr 3 0),(4,TV.ptr 4 0),(5,TV.ptr 5 0)] k=some x):x.flat∨∃d o,x=.ptr d o:=by
 have hm:=lk_mem h;simp only[List.mem_cons,List.not_mem_nil,or_false,Prod.mk.injEq]at hm;rcases hm with⟨_,rfl⟩|⟨_,rfl⟩|⟨_,rfl⟩|⟨_,rfl⟩<;>exact .inr ⟨_,_,rfl⟩
structure IP(g:Sh.Glob)(B:Base)(a:Act)(sz:Nat)(mv:Value)(bm:Nat)(om:Obj)(L:List Pc)(W:World):Prop where
 sim:∃E,Sim B (sPx L sz mv 0 0).fs a W E
 nz:∀x∈L,x.k≠0
 G:g.G W
 map:W.heap[bm]?=some om
structure IX(g:Sh.Glob)(B:Base)(a:Act)(sz:Nat)(mv:Value)(c:Code)(L:List Pc)(W:World):Prop where
 ret:c=.ret
 sim:∃E L' q,L=L'++[q]∧q.k=0∧Sim B (sPx L' sz mv (q.p:Int) 50).fs a W E
structure AX(B:Base)(a:Act)(sz:Nat)(mv:Value)(q:Pc)(a':Act)(W:World):Prop where
 size:a'.tmps.size=50
 defs:a'.defers=[]
 same:sameS a a'
 sim:∃L E,Sim B (sQx L sz mv q).fs a W E∧a'.tmps.getD 6 undef=.pointer (some ⟨E.β 2024,0,none⟩)
variable{bm:Nat}{om:Obj}{w1:World}
theorem IP.grown(hB:B.w0.heap.size≤w1.heap.size)(hn:g.n≤w1.heap.size)(hbm:bm<w1.heap.size):OwnFrom w1.heap.size (IP g B a sz mv bm om):=by
 intro L W W' row h hg hr;obtain⟨E,hS⟩:=h.sim;have hr':∀k,row=some k→B.w0.heap.size≤k∧∃o:Obj,W.heap[k]?=some o∧o.isCells=false:=fun k hk=>⟨Nat.le_trans hB (hr k hk).1,(hr k hk).2⟩
 refine⟨⟨E,hS.grown (fun k x hx=>slots_P hx) (fun _=>rfl) flat_P hg hr'⟩,h.nz,g.st _ _ h.G fun k hk=> ?_,?_⟩
 ·refine hg.block k (Nat.lt_of_lt_of_le hk (g.le _ h.G)) fun he=> ?_;have:=(hr k he.symm).1;omega
 ·rw[←h.map];refine hg.block bm (gA h.map).1 fun he=> ?_;have:=(hr bm he.symm).1;omega
theorem IX.grown(hB:B.w0.heap.size≤w1.heap.size)(c:Code):OwnFrom w1.heap.size (IX g B a sz mv c):=by
 intro L W W' row h hg hr;obtain⟨E,L',q,h1,h2,hS⟩:=h.sim;have hr':∀k,row=some k→B.w0.heap.size≤k∧∃o:Obj,W.heap[k]?=some o∧o.isCells=false:=fun k hk=>⟨Nat.le_trans hB (hr k hk).1,(hr k hk).2⟩
 exact⟨h.ret,E,L',q,h1,h2,hS.grown (fun k x hx=>slots_P hx) (fun _=>rfl) flat_P hg hr'⟩
theorem AX.grown(hB:B.w0.heap.size≤w1.heap.size)(q:Pc)(a':Act):OwnFrom w1.heap.size (fun(_:Unit) W=>AX B a sz mv q a' W):=by
 intro _ W W' row h hg hr;obtain⟨L,E,hS,h6⟩:=h.sim;have hr':∀k,row=some k→B.w0.heap.size≤k∧∃o:Obj,W.heap[k]?=some o∧o.isCells=false:=fun k hk=>⟨Nat.le_trans hB (hr k hk).1,(hr k hk).2⟩
 exact⟨h.size,h.defs,h.same,L,E,hS.grown (fun k x hx=>slots_P hx) (fun _=>rfl) flat_Q hg hr',h6⟩
end
end
section
section
variable{B:Base}{a:Act}{W1:World}{E1:Env}{s:zB}{mv:Value}{bm Bs:Nat}{om:Obj}{R:Lx}
theorem kp_grown{O:List Nat}{β n:Nat}{W W':World}(hβ:β<W.heap.size)(hn:n≤W.heap.size)(hg:W.grownBy W' none):Kp O β n W W':=by
 have hs:∀k,k<W.heap.size→W'.heap[k]?=W.heap[k]?:=fun k hk=>hg.block k hk (by simp);exact⟨hg.size,fun k o hk _ _ _=>(hs k (gA hk).1).trans hk,fun k h=> .inl ((z128 (hs β hβ) k).1 h),fun h k hk=>Nat.lt_of_lt_of_le (h k ((z128 (hs β hβ) k).1 hk)) hg.size,fun k hk=>hs k (by omega)⟩
theorem loop_in(m:Nat)(hN:B.N=50)(hm0:B.m≤1000)(hG:(gl0 m).G W1)(hn:(gl0 m).n≤B.w0.heap.size)(hX:∀d b,B.X d b→(gl0 m).n≤b)(hS1:Sim B (sPx [] s.length mv 0 0).fs a W1 E1)
  (h20:a.eval (.tmp 20)=.func (.func 129) #[] #[.pointer (some ⟨Bs,0,none⟩)]) (hBs:W1.cell? ⟨Bs,0,none⟩=some (.string (str s))) (hBn:∀i,i=5∨i=2∨i=3∨i=4→Bs≠E1.β i) (hmap:W1.heap[bm]?=some om) (hom:om.isCells=false) (hs:s.length≤200) (hR:∃f,lexG f s 0 []=some R)
  (hrb0:∀k,¬rbOf (E1.β 5) W1 k)
  {Q:Exit→Act→World→Prop}
  (hdone:∀D xs W,W1.heap.size≤D→R=.ok xs→IP (gl0 m) B a s.length mv bm om xs W→W.heap[D]?=some (.deferred (some []))→Q .normal { a with defers:={ target:=.collected D,args:= #[] }::a.defers } W)
  (hstop:∀D (q:Pc) L W,W1.heap.size≤D→R=.bad q.p→(∃E,Sim B (sPx L s.length mv (q.p:Int) 50).fs a W E)→W.heap[D]?=some (.deferred (some []))→Q .ret { a with defers:={ target:=.collected D,args:= #[] }::a.defers } W):
  (rawOf Tryz.prog 36 0).wpIn Fence.wide 9 Tryz.prog Q a W1:=by
 obtain⟨cA,cB,hraw,tA,tB⟩:=codeR_eq;rw[hraw];have hB:B.w0.heap.size≤W1.heap.size:=hS1.mem.low.size;have hn1:(gl0 m).n≤W1.heap.size:=Nat.le_trans hn hB;have hbm:bm<W1.heap.size:=(gA hmap).1;have hlt:∀i cs,(sPx [] s.length mv 0 0).fs.b i=some cs→E1.β i<W1.heap.size:=fun i cs h=>(hS1.mem.box i cs h).1.lt;have hβ5:=hlt 5 _ rfl;let O:List Nat:=[E1.β 5,E1.β 2,E1.β 3,E1.β 4]
 have hO:∀i,i=5∨i=2∨i=3∨i=4→E1.β i∈O:=fun i hi=>by rcases hi with rfl|rfl|rfl|rfl<;>simp[O]
 have hβ:∀{t:ES} {W:World} {E:Env},Sim B t.fs a W E→(∀i,i=5∨i=2∨i=3∨i=4→t.fs.t i=some (.ptr i 0))→∀i,i=5∨i=2∨i=3∨i=4→E.β i=E1.β i:=fun {t W E} hS ht i hi=>by
  have e1:=z94 hS (ht i hi);have e2:=z94 hS1 (k:=i) (d:=i) (by rcases hi with rfl|rfl|rfl|rfl<;>rfl);rw[e1]at e2;simpa using e2
 have hseq:SeqStopsK Fence.wide 8 Tryz.prog 129 #[.pointer (some ⟨Bs,0,none⟩)] encP (Kp O (E1.β 5) (gl0 m).n) (SP R) (SpP R) (s.length+1) W1:=by
  intro l J Jx W hb hJ hJx hY h0;have hab:∀{J:List Pc→World→Prop},AbidesFrom W.heap.size J→∀pre W W',J pre W→W.grownBy W' none→J pre W':=fun h pre W W' hj hg=>h pre W W' none hj hg (fun r e=>by cases e);have hsm:∀k,k<W1.heap.size→W.heap[k]?=W1.heap[k]?:=hb.block;have hBl:Bs<W1.heap.size:=by obtain⟨o,ho,_⟩:=z96 hBs;exact(gA ho).1
  have hrbW:∀k,¬rbOf (E1.β 5) W k:=fun k h=>hrb0 k ((z128 (hsm _ hβ5) k).1 h);refine pieces1_in m 8 l (by omega) (hab hJ) (hab hJx) hY (b:=Bs) (off:=0) ⟨(World.cell?_of_block (w:=W1) (a:=⟨Bs,0,none⟩) (hsm _ hBl)).trans hBs,?_,hrbW _,fun j hj=>absurd hj (hrbW j),?_,hO 5 (by simp),(gl0 m).st _ _ hG (fun k hk=>hsm k (by omega)),h0⟩ hR
  ·intro hx;simp only[O,List.mem_cons,List.not_mem_nil,or_false]at hx;rcases hx with hx|hx|hx|hx
   ·exact hBn 5 (by simp) hx
   ·exact hBn 2 (by simp) hx
   ·exact hBn 3 (by simp) hx
   ·exact hBn 4 (by simp) hx
  ·intro x hx;have:x<W1.heap.size:=by
    simp only[O,List.mem_cons,List.not_mem_nil,or_false]at hx;rcases hx with rfl|rfl|rfl|rfl
    ·exact hβ5
    ·exact hlt 2 _ rfl
    ·exact hlt 3 _ rfl
    ·exact hlt 4 _ rfl
   exact Nat.lt_of_lt_of_le this hb.size
 refine wpIn_rangeFunc_ownH (F:=Fence.wide) (n:=9) (w0:=W1) rfl (by omega) (gf:=129) (lb:= #[.pointer (some ⟨Bs,0,none⟩)]) h20 trivial (enters_of Tryz.func129 (by kernel_rfl) rfl) hseq Kp.trans (fun W l o o' hl ho hc _=>Kp.put (by omega) (by omega) W l o o' hl ho hc) (Below.refl _ _) (fun _=>rfl)
  (IP (gl0 m) B a s.length mv bm om) (IX (gl0 m) B a s.length mv) (IP.grown hB hn1 hbm) (IX.grown hB) ⟨⟨E1,hS1⟩,fun x h=>(by cases h),hG,hmap⟩ (AX B a s.length mv) (AX.grown hB) ?assign ?body ?done ?stop
 case assign=>
  intro l pre x W K hI hK;obtain⟨E,hS⟩:=hI.sim;have hsz:=hS.size;rw[hN]at hsz;have hact:((#[21]:Array Tmp).zip (encP x)).foldl (fun t (p,v)=>t.setIfInBounds p v) a.tmps=a.tmps.setIfInBounds 21 (.agg #[.int .i64 x.k,.int .i64 x.n,.string (str x.s),.int .i64 (x.p:Int)]):=by
   simp[encP]
  rw[hact];refine wpIn_mono (assign_in (g:=gl0 m) (a:=a) (q:=x) (l:=l) (n:=7) (ar:={ tmps:=a.tmps.setIfInBounds 21 (.agg #[.int .i64 x.k,.int .i64 x.n,.string (str x.s),.int .i64 (x.p:Int)]),defers:=[] }) tA hm0 hI.G hS (by simp[hsz]) rfl (fun k hk=> ?_) ?_) ?_
  ·show(a.tmps.setIfInBounds 21 _).getD k undef=_;rw[Array.getD_eq_getD_getElem?,Array.getElem?_setIfInBounds_ne (by omega),←Array.getD_eq_getD_getElem?]
  ·show(a.tmps.setIfInBounds 21 _).getD 21 undef=_;simp[Array.getD,hsz]
  ·rintro e a' W' ⟨rfl,h1,h2,h3,h4,E',h5,h6⟩;have hI':IP (gl0 m) B a s.length mv bm om pre W':=IP.grown hB hn1 hbm pre W W' none hI h4 (fun r e=>by cases e);refine hK a' W' ⟨h4.size,fun k o _ hk _=>(h4.block k (gA hk).1 (by simp)).trans hk⟩ ?_ hI' ⟨h1,h2,h3,pre,E',h5,h6⟩;have hb5:=hβ hS (fun i hi=>by rcases hi with rfl|rfl|rfl|rfl<;>rfl) 5 (by simp);exact kp_grown (by rw[←hb5];exact(hS.mem.box 5 _ rfl).1.lt) ((gl0 m).le _ hI.G) h4
 case body=>
  intro l pre x a' W _ _ hI hA hlen;obtain⟨E,hS⟩:=hI.sim;obtain⟨L',E',hS',h6⟩:=hA.sim;obtain rfl:=link_P hS hS';by_cases hq:x.k=0
  ·refine wpIn_mono (stop_in (g:=gl0 m) (l:=l) (n:=7) tB hN hm0 hI.G hn hX hS' hq hA.size hA.defs hA.same h6) ?_;rintro e a2 W' ⟨rfl,⟨E2,h1⟩,h2,h3⟩;exact⟨⟨h2,fun k o _ hk ho=>h3 k o hk ho⟩,rfl,E2,pre,x,rfl,hq,h1⟩
  ·refine wpIn_mono (more_in (g:=gl0 m) (l:=l) (n:=7) tB hm0 hI.G hn hX hS' hq (by omega) hA.size hA.defs hA.same h6) ?_;rintro e a2 W' ⟨rfl,⟨E2,h1⟩,h2,h3,h4⟩;have hbe:=hβ hS' (fun i hi=>by rcases hi with rfl|rfl|rfl|rfl<;>rfl);have hk:=h4 O (fun i hi=>by rw[hbe i hi];exact hO i hi);rw[hbe 5 (by simp)]at hk;refine⟨⟨h2,fun k o _ hk ho=>h3 k o hk ho⟩,hk,⟨E2,h1⟩,fun y hy=> ?_,(gl0 m).st _ _ hI.G hk.glob,h3 bm om hI.map hom⟩;rcases List.mem_append.1 hy with hy|hy
   ·exact hI.nz y hy
   ·simp only[List.mem_singleton]at hy;subst hy;exact hq
 case done=>
  intro D xs W hD hSP hI hK;rcases hSP with h1|⟨p,pre,h1,h2⟩
  ·exact hdone D xs W hD h1 hI hK
  ·exact absurd rfl (hI.nz ⟨0,0,[],p⟩ (by rw[h2];simp))
 case stop=>
  intro D c pre W hD hSp hI hK;obtain⟨E,L',q,h1,h2,h3⟩:=hI.sim;obtain rfl:=hI.ret;obtain⟨pre2,q2,h4,h5⟩:=hSp;rw[h1]at h4;obtain⟨_,h6⟩:=List.append_inj' h4 rfl;simp only[List.cons.injEq,and_true]at h6;subst h6;rcases h5 with h5|h5
  ·exact absurd h2 h5
  ·exact wpIn_ret (hstop D q L' W hD h5 ⟨E,h3⟩ hK)
end
end
end Go.Proofs.YtcpaleaajdilgaaGreatDoor
end
