/- Merged texts: RawD Pv1 Pk2 Zh5 Zh7 Zn1 Zn5 Pk3 Zi0 Zi5 Zh6 Zn7. No statement of the program is proved here. -/
import Derived.Test.YtbkgnekfigknhaaGreatDoorR31
set_option linter.unusedSimpArgs false
set_option linter.unusedVariables false
set_option maxRecDepth 100000
set_option maxHeartbeats 8000000
section
namespace Go.Proofs.YtbkgnekfigknhaaGreatDoor
open Go Go.RowKit Go.Mor Go.Sh
def z81(r:RawF):List PV:=[.v (.int .i64 r.n),.v (.int .i64 r.k),.v (.int .i64 r.o),.v (.bool r.ix)]
def rfR(l:List RawF):List (List PV):=l.map z81
def z8V(x:Raw):TV:=.agg [.pv (.v (.int .i64 x.n)),.pv (.sl 4 (rfR x.fs))]
structure RawOk(x:Raw):Prop where
 n:I64 x.n
 fs:∀r∈x.fs,I64 r.n∧I64 r.k∧I64 r.o
 len:x.fs.length≤9223372036854775807
theorem zjv(l:List RawF)(k:Nat):(rfR l)[k]?=(l[k]?).map z81:=by unfold rfR;rw[List.getElem?_map]
theorem zbW(l:List RawF):(rfR l).length=l.length:=by unfold rfR;rw[List.length_map]
theorem zbo(l:List RawF)(i:Nat)(r:RawF)(h:l[i]?=some r):(l.take (i+1)).foldl z1x []=z1x ((l.take i).foldl z1x []) r:=by
 rw[List.take_add_one,h];simp only[Option.toList_some,List.foldl_append,List.foldl_cons,List.foldl_nil]
theorem zkg(l:List RawF)(i:Nat):((l.take i).foldl z1x []).length≤i:=by
 induction i with
 |zero=>simp
 |succ i ih=>
  cases h:l[i]? with
  |none=>
   have h1:l.take (i+1)=l.take i:=by rw[List.take_add_one,h];simp
   rw[h1];omega
  |some r=>
   rw[zbo l i r h];generalize(l.take i).foldl z1x []=acc at ih ⊢;unfold z1x;split
   ·rw[List.length_append,List.length_singleton];omega
   ·omega
theorem zrz{i:Nat}(h:i<6):([[PV.v (.string ⟨#[97]⟩)],[.v (.string ⟨#[98,50]⟩)],[.v (.string ⟨#[110,97,109,101]⟩)],[.v (.string ⟨#[110,101,120,116,95,111,110,101]⟩)],[.v (.string ⟨#[107,105,100,115]⟩)],[.v (.string ⟨#[120]⟩)]]:List (List PV))[i]?=some [.v (.string (str (nmF (i:Int))))]:=by
 have:i=0∨i=1∨i=2∨i=3∨i=4∨i=5:=by omega
 rcases this with rfl|rfl|rfl|rfl|rfl|rfl<;>rfl
theorem zry{i:Nat}(h:i<6):([[PV.v (.string ⟨#[110,111,100,101]⟩)],[.v (.string ⟨#[105,116,101,109]⟩)],[.v (.string ⟨#[117,115,101,114]⟩)],[.v (.string ⟨#[112,97,103,101,95,49]⟩)],[.v (.string ⟨#[108,101,97,102]⟩)],[.v (.string ⟨#[113]⟩)]]:List (List PV))[i]?=some [.v (.string (str (nmC (i:Int))))]:=by
 have:i=0∨i=1∨i=2∨i=3∨i=4∨i=5:=by omega
 rcases this with rfl|rfl|rfl|rfl|rfl|rfl<;>rfl
end Go.Proofs.YtbkgnekfigknhaaGreatDoor
end

section
namespace Go.Mor
open Go
section
open Go.RowKit
theorem z8K{fs:List Fld}{l:List Int}{many:Int}{i:Nat}{f:Fld}(h:fs[i]?=some f):(z2j fs l many)[i]?=some (z2i f.t (z6X l i) many):=by grind [z2j]
theorem z4B(fs:List Fld)(l:List Int)(many:Int):(z2j fs l many).length=fs.length:=by unfold z2j;exact List.length_mapIdx
theorem GoodC.type{c:Cls}(h:GoodC c){f:Fld}(hf:f∈c.fs):zg f.t=true:=by
 have:=(h.fs f hf).1;unfold zF at this
 grind
end
structure FitC(c:Cls)(vals:List V):Prop where
 r:ze c=true
 len:vals.length=c.fs.length
 fit:∀(i:Nat) f v,c.fs[i]?=some f→vals[i]?=some v→zI v f.t=true
theorem FitC.chk{c:Cls}{vals:List V}(h:FitC c vals):check c vals=(0,0):=zmG h.r h.len h.fit
theorem zfP{α:Type}{l:List α}{i:Nat}(h:i<l.length)(x:α):z0W l i [x]=l.set i x:=by
 grind [z0W,List.set_eq_take_append_cons_drop,List.append_assoc]
theorem z6k{c:Cls}(h:ze c=true){i:Nat}{f:Fld}(hi:c.fs[i]?=some f):zb f.n=true∧fieldAt c.fs f.n=i∧zF f=true∧i<c.fs.length:=by
 have:=(z0Y c).1 h;have hf:=this.2.2.1 f (gM hi);unfold zF at hf
 grind [zcq,List.getElem?_eq_some_iff]
theorem getD_of{l:List Fld}{i:Nat}{f:Fld}(h:l[i]?=some f):l.getD i z4u=f:=by grind
end Go.Mor
end

section
namespace Go.Proofs.YtbkgnekfigknhaaGreatDoor
open Go Go.RowKit Go.Mor Go.Sh Go.Sh.Cd1
section
open Go.Sh.Cd6
theorem z2V(g:Sh.Glob)(c n:Int)(hc:I64 c)(hn:0<n):zC g 46 [I c,I n] [] (I (Go.Mor.pick c n)) []:=by
 obtain⟨h0,h1⟩:=hc;refine za tf_121 ?_;have hne:¬n=0:=by omega
 unfold Go.Mor.pick;by_cases hneg:c<0
 ·rw[if_pos hneg];have w1:IntKind.i64.wrap (c+1)=c+1:=wrap64 (by omega) (by omega);have w2:IntKind.i64.wrap (0-(c+1))= -(c+1):=wG;have hm:(-(c+1)).tmod n=(-(c+1))%n:=Int.tmod_eq_emod_of_nonneg (by omega);simp only[vW,seval,hneg,hne,w1,w2,hm]
 ·rw[if_neg hneg];have hm:c.tmod n=c%n:=Int.tmod_eq_emod_of_nonneg (by omega);simp only[vW,seval,hneg,hne,hm]
theorem zqz{i:Nat}(h:i<8):([[PV.v (.string ⟨#[]⟩)],[.v (.string ⟨#[97]⟩)],[.v (.string ⟨#[98,99]⟩)],[.v (.string ⟨#[195,169,116,195,169]⟩)],[.v (.string ⟨#[97,32,98]⟩)],[.v (.string ⟨#[122,122,32,116,111,112]⟩)],[.v (.string ⟨#[48]⟩)],[.v (.string ⟨#[45,55]⟩)]]:List (List PV))[i]?=some [.v (.string (str (zjW (i:Int))))]:=by
 have:i=0∨i=1∨i=2∨i=3∨i=4∨i=5∨i=6∨i=7:=by omega
 rcases this with rfl|rfl|rfl|rfl|rfl|rfl|rfl|rfl<;>rfl
theorem z48(k n many:Int):(z1u k n many).l=[]:=by
 unfold z1u
 repeat' split
 all_goals rfl
theorem zdS(g:Sh.Glob)(t:Ty)(n many:Int)(ht:1≤t.k∧t.k≤4)(hn:I64 n)(hm:1≤many∧many≤100000):zC g 36 [tyT t,I n,I many] [] (nv (z1u t.k n many)) []:=by
 obtain⟨k,o⟩:=t;simp only at ht;have hk:k=1∨k=2∨k=3∨k=4:=by omega
 unfold z1u;unfold tyT;simp only[];have h34:∀j:Int,(j=3∨j=4)→zC g 36 [.agg [I j,I o],I n,I many] [] (nv (if many<1∨Go.Mor.pick n 5=4 then V.nil else .mk j (1+Go.Mor.pick n many) [] [])) []:=by
  intro j hj;have P5:=z2V g n 5 hn (by decide);have PM:=z2V g n many hn (by omega);have hb:=zH n many (by omega);have d1:¬many<1:=by omega
  have w1:IntKind.i64.wrap (1+Go.Mor.pick n many)=1+Go.Mor.pick n many:=wrap64 (by omega) (by omega);refine za tf_119 ?_;unfold nv;generalize Go.Mor.pick n many=b at*;generalize Go.Mor.pick n 5=a at*;by_cases h4:a=4
  ·rw[if_pos (.inr h4)];rcases hj with rfl|rfl
   ·simp only[vW,seval,d1];refine z7 P5 ?_;simp only[vW,seval,h4];rfl
   ·simp only[vW,seval,d1];refine z7 P5 ?_;simp only[vW,seval,h4];rfl
  ·rw[if_neg (fun h=>h.elim (fun h=>by omega) h4)];rcases hj with rfl|rfl
   ·simp only[vW,seval,d1];refine z7 P5 ?_;simp only[vW,seval,h4];refine z7 PM ?_;simp only[vW,seval,w1];rfl
   ·simp only[vW,seval,d1];refine z7 P5 ?_;simp only[vW,seval,h4];refine z7 PM ?_;simp only[vW,seval,w1];rfl
 rcases hk with rfl|rfl|rfl|rfl
 ·have P:=z2V g n 41 hn (by decide);have hb:=zH n 41 (by decide);have w1:IntKind.i64.wrap (Go.Mor.pick n 41-20)=Go.Mor.pick n 41-20:=wrap64 (by omega) (by omega);rw[if_pos rfl];generalize Go.Mor.pick n 41=b at*;refine za tf_119 ?_;unfold nv;simp only[vW,seval];refine z7 P ?_;simp only[vW,seval,w1];rfl
 ·have P:=z2V g n 8 hn (by decide);have hb:=zH n 8 (by decide);rw[if_neg (show ¬(2:Int)=1 by decide),if_pos rfl];obtain⟨i,hi⟩:=Int.eq_ofNat_of_zero_le hb.1;rw[hi]at P hb ⊢;have e1:=zqz (i:=i) (by omega);refine za tf_119 ?_;unfold nv;simp only[vW,seval];refine z7 P ?_;simp only[vW,seval,e1]
 ·rw[if_neg (show ¬(3:Int)=1 by decide),if_neg (show ¬(3:Int)=2 by decide)];exact h34 3 (.inl rfl)
 ·rw[if_neg (show ¬(4:Int)=1 by decide),if_neg (show ¬(4:Int)=2 by decide)];exact h34 4 (.inr rfl)
theorem zf4(l:List Fld)(f:Fld):flR (l++[f])=flR l++[flR1 f]:=by unfold flR;rw[List.map_append];rfl
theorem zgH(l:List Fld)(s:zB):∃(p:Int) (t:Bool),z1L l s=.tuple [I p,.pv (.v (.bool t))]∧(fieldAt l s<0 ↔ t=false):=by
 unfold z1L B;by_cases h:fieldAt l s<0
 ·rw[if_pos h];exact⟨0,false,rfl,fun _=>rfl,fun _=>h⟩
 ·rw[if_neg h];exact⟨_,true,rfl,fun h'=>absurd h' h,fun h'=>by cases h'⟩
theorem za6(g:Sh.Glob)(x:Raw)(hx:RawOk x):zC g 20 [z8V x] [] (clT (zn x)) []:=by
 have PN:=z2V g x.n 6 hx.n (by decide);have hb:=zH x.n 6 (by decide);have hlx:=hx.len;obtain⟨q,hq⟩:=Int.eq_ofNat_of_zero_le hb.1;have ec:=zry (i:=q) (by omega);have e0:zn x=⟨nmC (q:Int),(x.fs.take 6).foldl z1x []⟩:=by unfold zn;rw[hq]
 rw[e0];rw[hq]at PN;refine z2e tf_118 ?_;unfold z8V clT;simp only[vW,seval];refine z7 PN ?_;simp only[vW,seval,ec];refine zp (σ:={i:Nat // i≤x.fs.length∧i≤6}) (fun i=>⟨[(1,.ptr 1 0),(2,.ptr 2 0),(3,.pv (.sl 1 [[PV.v (.string ⟨#[97]⟩)],[.v (.string ⟨#[98,50]⟩)],[.v (.string ⟨#[110,97,109,101]⟩)],[.v (.string ⟨#[110,101,120,116,95,111,110,101]⟩)],[.v (.string ⟨#[107,105,100,115]⟩)],[.v (.string ⟨#[120]⟩)]])),(4,.ptr 4 0),(5,I (i.1:Int))],
   [(1,[I x.n,.pv (.sl 4 (rfR x.fs))]),(2,[S ⟨#[]⟩,zD]),(4,[S (str (nmC (q:Int))),.own 3000 4 (flR ((x.fs.take i.1).foldl z1x []))])],[(3000,(57,4,((x.fs.take i.1).foldl z1x []).length))],[]⟩) (fun i=>6-i.1) ⟨0,Nat.zero_le _,Nat.zero_le _⟩ ?_ ?_
 ·refine ES.Lw.trans ?_ (z64 (x:=4) (j:=1) (d:=3000) (e:=57) (W:=4) (.inr (by decide)) (by decide) rfl (by simp only[vcA,seval]) rfl);exact z0M rfl
 rintro⟨i,hi,hi6⟩;by_cases hlt:i<x.fs.length∧i<6
 ·obtain⟨hlt,hl6⟩:=hlt;have d1:(i:Int)<(x.fs.length:Int):=by omega
  have d2:(i:Int)<6:=by omega
  obtain⟨r,er⟩:∃r,x.fs[i]?=some r:=⟨_,gE hlt⟩
  have w1:=wS i;obtain⟨r1,r2,r3⟩:=hx.fs r (gM er);have P1:=z2V g r.n 6 r1 (by decide);have P2:=z2V g r.k 5 r2 (by decide);have P3:=z2V g r.o 4 r3 (by decide);have b1:=zH r.n 6 (by decide);have b2:=zH r.k 5 (by decide);have b3:=zH r.o 4 (by decide);have hst:=zbo x.fs i r er;have hal:=zkg x.fs i;rw[z1x]at hst;have hF:z3E r=⟨nmF (Go.Mor.pick r.n 6),⟨1+Go.Mor.pick r.k 5,if Go.Mor.pick r.k 5=4 then 1+Go.Mor.pick r.o 4 else 0⟩,r.ix&&decide (1+Go.Mor.pick r.k 5≤3)⟩:=rfl;rw[hF]at hst;simp only[]at hst;obtain⟨j,hj⟩:=Int.eq_ofNat_of_zero_le b1.1;have ej:=zrz (i:=j) (by omega);rw[hj]at P1 hst;change _=(if fieldAt ((x.fs.take i).foldl z1x []) (nmF (j:Int))<0 then _ else(x.fs.take i).foldl z1x [])at hst;generalize(x.fs.take i).foldl z1x []=acc at*;generalize Go.Mor.pick r.k 5=b at*;generalize Go.Mor.pick r.o 4=o at*;have HF:=z41 g ⟨nmC (q:Int),acc⟩ (nmF (j:Int)) (by show acc.length≤_;omega);obtain⟨p,t,hp,ht⟩:=zgH acc (nmF (j:Int));rw[show z1L (Cls.fs ⟨nmC (q:Int),acc⟩) (nmF (j:Int))=_ from hp]at HF;unfold clT at HF;have w2:IntKind.i64.wrap (1+b)=1+b:=wrap64 (by omega) (by omega);have w3:IntKind.i64.wrap (1+o)=1+o:=wrap64 (by omega) (by omega);have hfl:=z3f acc;by_cases h4:b=4
  ·have d5:1+b=5:=by omega
   have d3:¬1+b≤3:=by omega
   have hix:(r.ix&&decide (1+b≤3))=false:=by rw[decide_eq_false d3,Bool.and_false]
   rw[if_pos h4,hix,d5]at hst;have w5:IntKind.i64.wrap 5=5:=wrap64 (by omega) (by omega);cases hr:r.ix;all_goals(
    simp only[vW,seval,zjv,zbW,z81,d1,d2,er,zD];refine z7 P1 ?_;simp only[vW,seval,ej];refine z7 P2 ?_;simp only[vW,seval,w2,d5,w5];refine z7 P3 ?_;simp only[vW,seval,w3,hr];refine z7 HF ?_;cases t
    ·rw[if_pos (ht.2 rfl)]at hst;simp only[vW,seval,hfl,w1];refine⟨⟨by omega,by unfold maxLen;omega⟩,zc ⟨i+1,hlt,hl6⟩ (by show 6-(i+1)<6-i;omega) ?_⟩;simp only[hst,zf4,List.length_append,List.length_singleton];apply z0o<;>simp[leL,lk,sv,Nat.beq,I,S,ES.kill,has,drp,zD,flR1]
    ·rw[if_neg (fun h=>Bool.noConfusion (ht.1 h))]at hst;simp only[vW,seval,w1];refine zc ⟨i+1,hlt,hl6⟩ (by show 6-(i+1)<6-i;omega) ?_;simp only[hst];exact lwA)
  ·have d5:¬1+b=5:=by omega
   rw[if_neg h4]at hst;have hc:(r.ix=false∧(True∨False)∧(r.ix&&decide (1+b≤3))=false)∨(r.ix=true∧1+b≤3∧(r.ix&&decide (1+b≤3))=true)∨(r.ix=true∧¬1+b≤3∧(r.ix&&decide (1+b≤3))=false):=by
    cases r.ix
    ·exact .inl ⟨rfl,.inl trivial,rfl⟩
    ·by_cases h:1+b≤3
     ·exact .inr (.inl ⟨rfl,h,by rw[decide_eq_true h];rfl⟩)
     ·exact .inr (.inr ⟨rfl,h,by rw[decide_eq_false h];rfl⟩)
   rcases hc with⟨hr,d3,hix⟩|⟨hr,d3,hix⟩|⟨hr,d3,hix⟩
   all_goals(
    rw[hix]at hst;simp only[vW,seval,zjv,zbW,z81,d1,d2,er,zD];refine z7 P1 ?_;simp only[vW,seval,ej];refine z7 P2 ?_;simp only[vW,seval,w2,d5,hr,d3];refine z7 HF ?_;cases t
    ·rw[if_pos (ht.2 rfl)]at hst;simp only[vW,seval,hfl,w1];refine⟨⟨by omega,by unfold maxLen;omega⟩,zc ⟨i+1,hlt,hl6⟩ (by show 6-(i+1)<6-i;omega) ?_⟩;simp only[hst,zf4,List.length_append,List.length_singleton];apply z0o<;>simp[leL,lk,sv,Nat.beq,I,S,ES.kill,has,drp,zD,flR1]
    ·rw[if_neg (fun h=>Bool.noConfusion (ht.1 h))]at hst;simp only[vW,seval,w1];refine zc ⟨i+1,hlt,hl6⟩ (by show 6-(i+1)<6-i;omega) ?_;simp only[hst];exact lwA)
 ·have he:(x.fs.take i).foldl z1x []=(x.fs.take 6).foldl z1x []:=by
   by_cases h:i<6
   ·have h1:x.fs.length≤i:=by omega
    rw[List.take_of_length_le h1,List.take_of_length_le (by omega)]
   ·obtain rfl:i=6:=by omega
    rfl
  rw[←he];by_cases hl:i<x.fs.length
  ·have d1:(i:Int)<(x.fs.length:Int):=by omega
   have d2:¬(i:Int)<6:=by omega
   simp only[vW,seval,zbW,d1,d2,zD]
  ·have d1:¬(i:Int)<(x.fs.length:Int):=by omega
   simp only[vW,seval,zbW,d1,zD]
end
section
open Go.Sh.Cd7
theorem ztl(a b:zB):(str a==str b)=(a==b):=by
 show((str a).data==(str b).data)=(a==b)
 rw[Bool.eq_iff_iff,beq_iff_eq,beq_iff_eq];constructor
 ·intro h;have:=congrArg Array.toList h;simpa [str]using this
 ·intro h;rw[h]
theorem zta(x y:Fld):((str x.n==str y.n)&&(z0i ⟨x.t.k,x.t.o⟩ ⟨y.t.k,y.t.o⟩&&((x.ix==y.ix)&&true)))=zei x y:=by
 rw[ztl];unfold zei z0i;simp[Bool.and_assoc]
theorem zbt:∀{a b:List Fld},z3l a b=true→a.length=b.length
 |[],[],_=>rfl
 |[],_::_,h=>by simp[z3l]at h
 |_::_,[],h=>by simp[z3l]at h
 |x::a,y::b,h=>by
  rw[z3l,Bool.and_eq_true]at h;rw[List.length_cons,List.length_cons,zbt h.2]
theorem zqZ(g:Sh.Glob)(a b:List Fld)(hl:a.length≤4611686018427387904)(hl':b.length≤4611686018427387904):zC g 42 [.pv (.sl 4 (flR a)),.pv (.sl 4 (flR b))] [] (B (z3l a b)) []:=by
 obtain⟨R,hR⟩:∃R,z3l a b=R:=⟨_,rfl⟩
 rw[hR];refine za Cd4.tf_185 ?_;unfold B;by_cases he:a.length=b.length
 ·have d0:(a.length:Int)=(b.length:Int):=by omega
  simp only[vW,seval,d0,clV];refine zp (σ:={i:Nat // i≤a.length∧z3l (a.drop i) (b.drop i)=R}) (fun i=>⟨[(0,.pv (.sl 4 (flR a))),(1,.pv (.sl 4 (flR b))),(12,I (a.length:Int)),(13,I (i.1:Int))],[],[],[]⟩) (fun i=>a.length-i.1) ⟨0,Nat.zero_le _,by simpa using hR⟩ ?_ ?_
  ·apply z0o<;>simp[leL,lk,sv,Nat.beq,I,S,ES.kill,has,drp,zD,d0]
  rintro⟨i,hi,hT⟩;by_cases hlt:i<a.length
  ·have d1:(i:Int)<(a.length:Int):=by omega
   have hlt2:i<b.length:=by omega
   obtain⟨x,ex⟩:∃x,a[i]?=some x:=⟨_,gE hlt⟩
   obtain⟨y,ey⟩:∃y,b[i]?=some y:=⟨_,gE hlt2⟩
   have w1:=wS i;have ha:a.drop i=x::a.drop (i+1):=by rw[List.drop_eq_getElem_cons hlt];congr 1;rw[gE hlt]at ex;exact Option.some.inj ex
   have hb:b.drop i=y::b.drop (i+1):=by rw[List.drop_eq_getElem_cons hlt2];congr 1;rw[gE hlt2]at ey;exact Option.some.inj ey
   rw[ha,hb,z3l]at hT;have hf:=zta x y;have hn:=zrx (str x.n) (str y.n) x.t.k y.t.k x.t.o y.t.o x.ix y.ix;rw[hf]at hn;cases hx:zei x y
   ·rw[hx]at hT hn;simp only[Bool.false_and]at hT;subst hT;simp only[vW,seval,d1,ex,ey,hn,clV]
   ·rw[hx]at hT hn;rw[Bool.true_and]at hT;simp only[vW,seval,d1,ex,ey,hn,w1,clV];refine zc ⟨i+1,hlt,hT⟩ (by show a.length-(i+1)<a.length-i;omega) ?_;exact lwA
  have d1:¬(i:Int)<(a.length:Int):=by omega
  have ha:a.drop i=[]:=List.drop_eq_nil_of_le (by omega);have hb:b.drop i=[]:=List.drop_eq_nil_of_le (by omega);rw[ha,hb,z3l]at hT;subst hT;simp only[vW,seval,d1]
 ·have d0:¬(a.length:Int)=(b.length:Int):=by omega
  have:R=false:=by
   cases R
   ·rfl
   ·exact absurd (zbt hR) he
  subst this;simp only[vW,seval,d0,clV]
theorem zeP(g:Sh.Glob)(a b:Cls)(hl:a.fs.length≤4611686018427387904)(hl':b.fs.length≤4611686018427387904):zC g 16 [clT a,clT b] [] (B (z6F a b)) []:=by
 have HE:=zqZ g a.fs b.fs hl hl';unfold z6F;refine za Cd4.tf_58 ?_;unfold clT B at*;cases hn:(a.n==b.n)
 ·simp only[vW,seval,hn]
 ·simp only[vW,seval,hn];exact zd HE
theorem zap(g:Sh.Glob)(l:List V)(hf:∀v∈l,VFew v)(hl:l.length≤4611686018427387904):zC g 14 [.pv (.sl 4 (V.rows l)),.pv (.sl 4 (V.rows l))] [] (B true) []:=by
 refine za Cd7.tf_159 ?_;unfold B;simp only[vW,seval];refine zp (σ:={i:Nat // i≤l.length}) (fun i=>⟨[(0,.pv (.sl 4 (V.rows l))),(1,.pv (.sl 4 (V.rows l))),(5,I (i.1:Int))],[],[],[]⟩) (fun i=>l.length-i.1) ⟨0,Nat.zero_le _⟩ ?_ ?_
 ·exact lwA
 rintro⟨i,hi⟩;by_cases hlt:i<l.length
 ·have d1:(i:Int)<(l.length:Int):=by omega
  obtain⟨v,ev⟩:∃v,l[i]?=some v:=⟨_,gE hlt⟩
  have w1:=wS i;have HS:=zjt g v v (hf v (gM ev)).small;rw[z8n]at HS;simp only[vW,seval,d1,ev];refine z7 HS ?_;simp only[vW,seval,w1];refine zc ⟨i+1,hlt⟩ (by show l.length-(i+1)<l.length-i;omega) ?_;exact lwA
 have d1:¬(i:Int)<(l.length:Int):=by omega
 simp only[vW,seval,d1]
theorem zt2{W:Nat}{es ds:List (List PV)}(hl:es.length=ds.length)(h:∀(i:Nat) cs ds',es[i]?=some cs→ds[i]?=some ds'→cs.length=ds'.length∧∀(j:Nat) c d,cs[j]?=some c→ds'[j]?=some d→∀w K v,Go.Sh.RelV w K c v→Go.Sh.RelV w K d v):Wk (.pv (.sl W es)) (.pv (.sl W ds)):=by
 intro w E r v hr;have get:∀(i j:Nat) ds' d,ds[i]?=some ds'→ds'[j]?=some d→∃cs c,es[i]?=some cs∧cs[j]?=some c∧∀w K v,Go.Sh.RelV w K c v→Go.Sh.RelV w K d v:=by
  intro i j ds' d h1 h2;have hi:i<es.length:=by
   rcases Nat.lt_or_ge i ds.length with h|h
   ·omega
   ·rw[List.getElem?_eq_none h]at h1;cases h1
  have hq:=h i _ ds' (gE hi) h1;have hj:j<es[i].length:=by
   rcases Nat.lt_or_ge j ds'.length with h|h
   ·have:=hq.1;omega
   ·rw[List.getElem?_eq_none h]at h2;cases h2
  exact⟨_,_,gE hi,gE hj,hq.2 j _ d (gE hj) h2⟩
 cases hr with
 |pv hr=>
  cases hr with
  |sl W es b off cap p f hp hcap hmax hW hc hs=>
   refine .pv ?_;rw[hl];refine .sl W ds b off cap p f (fun hne=>hp (fun e=>hne ?_)) (by omega) hmax ?_ ?_ ?_
   ·rw[e]at hl;exact List.eq_nil_of_length_eq_zero hl.symm
   ·intro ds' hm;obtain⟨i,hi,rfl⟩:=List.getElem_of_mem hm;have hi2:i<es.length:=by omega
    rw[←(h i _ _ (gE hi2) (gE hi)).1];exact hW _ (List.getElem_mem hi2)
   ·intro i j ds' d h1 h2;obtain⟨cs,c,g1,g2,_⟩:=get i j ds' d h1 h2;exact hc i j cs c g1 g2
   ·intro i j ds' d h1 h2;obtain⟨cs,c,g1,g2,g3⟩:=get i j ds' d h1 h2;exact g3 _ _ _ (hs i j cs c g1 g2)
def rvN(x:V):List PV:=[.v (.int .i64 x.k),.v (.int .i64 x.n),.v (.string (str x.s)),.v (.slice none 0 0)]
theorem zic{l:List V}(h:∀v∈l,v.l=[]):Wk (.pv (.sl 4 (l.map rvN))) (.pv (.sl 4 (V.rows l))):=by
 refine zt2 (by rw[z0j];simp) (fun i cs ds h1 h2=> ?_);rw[z0j]at h2;rw[List.getElem?_map]at h1 h2;cases hi:l[i]? with
 |none=>rw[hi]at h1;cases h1
 |some x=>
  rw[hi]at h1 h2;cases h1;cases h2;rw[z1b];refine⟨rfl,fun j c d hc hd w K v hv=> ?_⟩;have hx:=h x (gM hi);rw[hx]at hd
  match j with
  |0=>cases hc;cases hd;exact hv
  |1=>cases hc;cases hd;exact hv
  |2=>cases hc;cases hd;exact hv
  |3=>
   cases hc;cases hd;cases hv;exact .sl 4 [] 0 0 0 none (fun _ _=>undef) (by simp) (by simp) (by simp) (by simp) (by simp) (by simp)
  |j+4=>cases hc
def hS:Chg:=⟨5,[110,97,109,101],[111,110,101],[109,111,114,101],⟨2,0⟩,[108,101,102,116,40,110,97,109,101,44,32,50,41],[102,114,111,109,40,110,97,109,101,44,32,51,41]⟩
def hT:Chg:=⟨4,[110],[],[],⟨2,0⟩,[116,101,120,116,40,110,41],[]⟩
theorem zt9{x:V}(h:x.l=[])(hs:x.s.length≤60):VFew x∧VOk x:=⟨zaD h,by unfold VOk z1w;rw[h];exact⟨by omega,by simp⟩⟩
end
end Go.Proofs.YtbkgnekfigknhaaGreatDoor
end

section
namespace Go.Mor
open Go
structure Step(c:Cls)(vals:List V)(h:Chg)(d:Cls)(u:List V):Prop where
 ap:z0D c h=(d,0)
 va:zcd c h vals=(u,0)
 fit:FitC d u
end Go.Mor
end

section
namespace Go.Proofs.YtbkgnekfigknhaaGreatDoor
open Go Go.RowKit Go.Mor Go.Sh
theorem zpN{c:Cls}(h:GoodC c):ClsOk c:=
 ⟨by have:=h.nm.2;unfold z0t;omega,fun f hf=>by have:=(h.fs f hf).2;unfold z0t;omega,by have:=h.len;omega⟩
theorem zs9{v:V}(h1:v.s.length≤60)(h2:∀y∈v.l,y.s.length≤60):VOk v:=⟨by unfold z1w;omega,fun y hy=>by have:=h2 y hy;unfold z1w;omega⟩
theorem zrr{t:Ty}{n many:Int}(ht:zg t=true)(hm:many≤100000):VFew (z2i t n many)∧VOk (z2i t n many):=by
 obtain⟨_,h1,h2⟩:=zbx t n many ht hm;refine⟨?_,zs9 h1 h2⟩;unfold z2i;split
 ·have hb:=zH n 4 (by decide);refine .mk (by rw[List.length_map,List.length_range];omega) fun y hy=> ?_;obtain⟨i,_,rfl⟩:=List.mem_map.1 hy;exact zaD (z48 _ _ _)
 ·exact zaD (z48 _ _ _)
theorem zot{c:Cls}(h:GoodC c)(l:List Int){many:Int}(hm:many≤100000):∀v∈z2j c.fs l many,VFew v∧VOk v:=by
 intro v hv;obtain⟨i,hi⟩:=List.getElem?_of_mem hv;have hl:=(gJ hi).1;rw[z4B]at hl;have hf:c.fs[i]?=some (c.fs[i]):=gE hl;rw[z8K hf]at hi;cases hi;exact zrr (h.type (gM hf)) hm
section
open Go.Sh.Cd1 Go.Sh.Cd6
def iiR(l:List Int):List (List PV):=l.map fun z=>[PV.v (.int .i64 z)]
theorem zsE(l:List Int)(k:Nat):(iiR l)[k]?=(l[k]?).map fun z=>[PV.v (.int .i64 z)]:=by unfold iiR;rw[List.getElem?_map]
theorem zoT(l:List Int):(iiR l).length=l.length:=by unfold iiR;rw[List.length_map]
def mkL(o n many:Int)(i:Nat):List V:=(List.range i).map fun i:Nat=>z1u o (n.tdiv 4+(i:Int)) many
theorem zns(o n many:Int)(i:Nat):mkL o n many (i+1)=mkL o n many i++[z1u o (n.tdiv 4+(i:Int)) many]:=by unfold mkL;rw[List.range_succ,List.map_append];rfl
theorem zpY(o n many:Int)(i:Nat):(mkL o n many i).length=i:=by simp[mkL]
theorem zma(g:Sh.Glob)(o n many:Int)(ho:1≤o∧o≤4)(hn:I64 n)(hm:1≤many∧many≤100000):zC g 36 [tyT ⟨5,o⟩,I n,I many] [] (tv (z2i ⟨5,o⟩ n many)) []:=by
 have P4:=z2V g n 4 hn (by decide);have hb:=zH n 4 (by decide);have hn':=hn;obtain⟨n0,n1⟩:=hn';obtain⟨q,hq⟩:=Int.eq_ofNat_of_zero_le hb.1;have e1:z2i ⟨5,o⟩ n many=.mk 5 0 [] (mkL o n many q):=by unfold z2i mkL;rw[if_pos rfl,hq];rfl
 rw[e1];rw[hq]at P4 hb;refine z2e tf_119 ?_;unfold tv tyT;simp only[vW,seval];refine zp (σ:={i:Nat // i≤q}) (fun i=>⟨[(1,I n),(2,I many),(3,.ptr 3 0),(6,.ptr 6 0),(8,.ptr 8 0),(9,I (i.1:Int))],
   [(3,[I 5,I o]),(6,[I 0,I 0,S ⟨#[]⟩,zD]),(8,[I 5,I 0,S ⟨#[]⟩,.own 3000 4 (V.rows (mkL o n many i.1))])],[(3000,(62,4,i.1))],[]⟩) (fun i=>q-i.1) ⟨0,Nat.zero_le _⟩ ?_ ?_
 ·refine ES.Lw.trans ?_ (z64 (x:=8) (j:=3) (d:=3000) (e:=62) (W:=4) (.inr (by decide)) (by decide) rfl (by simp only[vcA,seval]) rfl);exact z0M rfl
 rintro⟨i,hi⟩;have hlen:=zpY o n many i;by_cases hlt:i<q
 ·have d1:(i:Int)<(q:Int):=by omega
  have w1:=wS i;have t0: -9223372036854775808≤n.tdiv 4∧n.tdiv 4≤2305843009213693952:=by
   rcases Int.le_total 0 n with h|h
   ·rw[Int.tdiv_eq_ediv_of_nonneg h];omega
   ·have:n.tdiv 4= -((-n).tdiv 4):=by rw[Int.neg_tdiv];omega
    rw[this,Int.tdiv_eq_ediv_of_nonneg (by omega)];omega
  have w2:IntKind.i64.wrap (n.tdiv 4)=n.tdiv 4:=wrap64 (by omega) (by omega);have w3:IntKind.i64.wrap (n.tdiv 4+(i:Int))=n.tdiv 4+(i:Int):=wrap64 (by omega) (by omega);have HV:=(zdS g ⟨o,0⟩ (n.tdiv 4+(i:Int)) many ho ⟨by omega,by omega⟩ hm).out (z1q (z48 _ _ _));unfold tv tyT at HV;rw[z48,V.rows_nil]at HV;simp only[vW,seval,zD];refine z7 P4 ?_;simp only[vW,seval,d1,w2,w3];refine Or.inl ?_;refine z7 HV ?_;simp only[vW,seval,hlen,w1];refine⟨⟨by omega,by unfold maxLen;omega⟩,zc ⟨i+1,hlt⟩ (by show q-(i+1)<q-i;omega) ?_⟩;refine z0M ?_;simp only[zns,z1M,zjG (z48 _ _ _),z48,V.rows_nil]
 ·obtain rfl:i=q:=by omega
  have d1:¬(i:Int)<(i:Int):=by omega
  simp only[vW,seval,zD];refine z7 P4 ?_;simp only[vW,seval,d1];all_goals rfl
theorem zpZ{t:Ty}(h:¬t.k=5)(n many:Int):z2i t n many=z1u t.k n many:=by unfold z2i;rw[if_neg h]
theorem zm9(g:Sh.Glob)(t:Ty)(n many:Int)(ht:zg t=true)(hn:I64 n)(hm:1≤many∧many≤100000):zC g 36 [tyT t,I n,I many] [] (tv (z2i t n many)) []:=by
 obtain⟨k,o⟩:=t;unfold zg at ht;by_cases h:k=5
 ·subst h;rw[if_pos rfl,decide_eq_true_iff]at ht;exact zma g o n many ht hn hm
 ·rw[if_neg h,decide_eq_true_iff]at ht;rw[zpZ h];exact(zdS g ⟨k,o⟩ n many ⟨ht.1,ht.2.1⟩ hn hm).out (z1q (z48 _ _ _))
theorem zqh{l:List Int}{i:Nat}(h:l≠[]):∃z,l[i%l.length]?=some z∧z6X l i=IntKind.i64.wrap (z+i):=by
 have hp:0<l.length:=List.length_pos_iff.2 h;refine⟨_,gE (Nat.mod_lt _ hp),?_⟩;unfold z6X;rw[if_neg h,List.getD_eq_getElem?_getD,gE (Nat.mod_lt _ hp)];rfl
theorem zqF(x:Int):I64 (IntKind.i64.wrap x):=by unfold I64;rw[IntKind.wrap_i64];omega
theorem zjZ(g:Sh.Glob)(c:Cls)(l:List Int)(many:Int)(hc:∀f∈c.fs,zg f.t=true)(hl:c.fs.length≤1000)(hll:l.length≤9223372036854775807)(hm:1≤many∧many≤100000):
  zC g 11 [clT c,.pv (.sl 1 (iiR l)),I many] [] (.pv (.sl 4 (V.rows (z2j c.fs l many)))) []:=by
 refine z2e tf_120 ?_;simp only[vW,seval,clV];refine zp (σ:={i:Nat // i≤c.fs.length}) (fun i=>⟨[(1,.pv (.sl 1 (iiR l))),(2,I many),(3,.ptr 3 0),(7,.own 3000 4 (V.rows ((z2j c.fs l many).take i.1))),(8,I (i.1:Int))],
   [(3,[S (str c.n),.pv (.sl 4 (flR c.fs))])],[(3000,(62,4,i.1))],[]⟩) (fun i=>c.fs.length-i.1) ⟨0,Nat.zero_le _⟩ ?_ ?_
 ·refine ES.Lw.trans ?_ (z7b (k:=7) (d:=3000) (e:=62) (W:=4) (.inr (by decide)) rfl);exact z0M rfl
 rintro⟨i,hi⟩;have hlen:((z2j c.fs l many).take i).length=i:=by rw[List.length_take,z4B];omega
 by_cases hlt:i<c.fs.length
 ·have d1:(i:Int)<(c.fs.length:Int):=by omega
  obtain⟨f,ef⟩:∃f,c.fs[i]?=some f:=⟨_,gE hlt⟩
  have w1:=wS i;have htk:(z2j c.fs l many).take (i+1)=(z2j c.fs l many).take i++[z2i f.t (z6X l i) many]:=by rw[List.take_add_one,z8K ef];rfl
  have hN:I64 (z6X l i):=by
   unfold z6X;split
   ·exact⟨by omega,by omega⟩
   ·exact zqF _
  have HV:=zm9 g f.t (z6X l i) many (hc f (gM ef)) hN hm;unfold tv tyT at HV;by_cases h0:l=[]
  ·have hr:z6X l i=(i:Int):=by unfold z6X;rw[if_pos h0]
   have d2:¬0<(l.length:Int):=by rw[h0];decide
   rw[hr]at HV htk;simp only[vW,seval,d1,d2,zoT,ef,clV];refine Or.inl ?_;refine z7 HV ?_;simp only[vW,seval,hlen,w1];refine⟨⟨by omega,by unfold maxLen;omega⟩,zc ⟨i+1,hlt⟩ (by show c.fs.length-(i+1)<c.fs.length-i;omega) ?_⟩;refine z0M ?_;simp only[htk,z1M,z1b]
  ·obtain⟨z,hz,hr⟩:=zqh (i:=i) h0;have hp:0<l.length:=List.length_pos_iff.2 h0;have d2:0<(l.length:Int):=by omega
   have d3:¬(l.length:Int)=0:=by omega
   have hmm:(i:Int).tmod (l.length:Int)=((i%l.length:Nat):Int):=(Int.ofNat_tmod _ _).symm;rw[hr]at HV htk;simp only[vW,seval,d1,d2,zoT,d3,hmm,zsE,hz,ef,clV];refine Or.inl ?_;refine z7 HV ?_;simp only[vW,seval,hlen,w1];refine⟨⟨by omega,by unfold maxLen;omega⟩,zc ⟨i+1,hlt⟩ (by show c.fs.length-(i+1)<c.fs.length-i;omega) ?_⟩;refine z0M ?_;simp only[htk,z1M,z1b]
 ·obtain rfl:i=c.fs.length:=by omega
  have d1:¬(c.fs.length:Int)<(c.fs.length:Int):=by omega
  simp only[vW,seval,d1,clV];rw[List.take_of_length_le (by rw[z4B];omega)]
end
section
open Go.Sh.Cd1 Go.Sh.Cd7
theorem zpz{c:Cls}(h:ze c=true):ClsOk c∧c.fs.length≤8:=by
 have hr:=(z0Y c).1 h;have key:∀s,zb s=true→z0t s:=fun s hs=>by
  unfold zb at hs;simp only[Bool.and_eq_true,decide_eq_true_eq]at hs;have:=hs.1.1.2;unfold z0t;omega
 refine⟨⟨key _ hr.1,fun f hf=>key _ ?_,by omega⟩,hr.2.1⟩;have:=hr.2.2.1 f hf;unfold zF at this;simp only[Bool.and_eq_true]at this;exact this.1.1
end
end Go.Proofs.YtbkgnekfigknhaaGreatDoor
end
