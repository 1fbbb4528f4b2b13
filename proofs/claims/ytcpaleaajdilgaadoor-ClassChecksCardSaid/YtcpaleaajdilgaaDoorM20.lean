/- Merged texts: PVals Zh5 Rw PFits Pv1 Zh6 Zh7 Zi0 Vf Zi5 Aw4 Zl7 CSChecks. No statement of the program is proved here. -/
import Derived.Test.YtcpaleaajdilgaaDoorM19
set_option linter.unusedSimpArgs false
set_option linter.unusedVariables false
set_option maxRecDepth 100000
set_option maxHeartbeats 8000000
section
namespace Go.Mor
open Go Go.RowKit
def z88(i:Int):zB:=([[],[97],[98,99],[195,169,116,195,169],[97,32,98],[122,122,32,116,111,112],[48],[45,55]]:List (zB)).getD i.toNat []
def zY(k n many:Int):V:=
 if k=1 then .mk 1 (pick n 41-20) [] []
 else if k=2 then .mk 2 0 (z88 (pick n 8)) []
 else if many<1∨pick n 5=4 then V.nil
 else .mk k (1+pick n many) [] []
def z0m(t:Ty)(n many:Int):V:=
 if t.k=5 then .mk 5 0 [] ((List.range (pick n 4).toNat).map fun i:Nat=>zY t.o (n.tdiv 4+(i:Int)) many)else zY t.k n many
def z2r(l:List Int)(i:Nat):Int:=if l=[] then i else IntKind.i64.wrap (l.getD (i%l.length) 0+i)
def z0Q(fs:List Fld)(l:List Int)(many:Int):List V:=fs.mapIdx fun i f=>z0m f.t (z2r l i) many
theorem z89(j:Int)(h0:0≤j)(h1:j<8):z0z (z88 j)=true:=by
 have:j=0∨j=1∨j=2∨j=3∨j=4∨j=5∨j=6∨j=7:=by omega
 rcases this with rfl|rfl|rfl|rfl|rfl|rfl|rfl|rfl<;>rfl
theorem z5y(k n many:Int)(hk:1≤k∧k≤4)(hm:many≤100000):z1a (zY k n many)=true∧(zY k n many).l=[]∧zA (zY k n many) k=true∧(zY k n many).k≠5∧(zY k n many).s.length≤60:=by
 unfold zY;by_cases h1:k=1
 ·subst h1;have:=zq n 41 (by omega);simp[z1a,bare,zA,V.k,V.n,V.s,V.l];omega
 ·rw[if_neg h1];by_cases h2:k=2
  ·subst h2;have h8:=zq n 8 (by omega);have:=z89 _ h8.1 h8.2;have hl:(z88 (pick n 8)).length≤60:=by simp only[z0z,Bool.and_eq_true,decide_eq_true_iff]at this;exact this.1
   grind [z1a,zA,V.k,V.n,V.s,V.l]
  ·rw[if_neg h2];by_cases h3:many<1∨pick n 5=4
   ·rw[if_pos h3];have hk34:k=3∨k=4:=by omega
    refine⟨by decide,rfl,?_,by decide,by decide⟩;rcases hk34 with rfl|rfl<;>decide
   ·rw[if_neg h3];have:=zq n many (by omega);have hid:z1q (1+pick n many)=true:=by grind [z1q]
    grind [zA,V.k,V.s,z1a,bare,V.n,V.l]
end Go.Mor
end

section
namespace Go.Proofs.YtcpaleaajdilgaaDoor
open Go Go.RowKit Go.Mor Go.Sh
section
open Go.Sh.Cd1 Go.Sh.Cd6
theorem z0g(g:Sh.Glob)(c n:Int)(hc:I64 c)(hn:0<n):zC g 7 [I c,I n] [] (I (Go.Mor.pick c n)) []:=by
 obtain⟨h0,h1⟩:=hc;refine za tf_21 ?_;have hne:¬n=0:=by omega
 unfold Go.Mor.pick;by_cases hneg:c<0
 ·rw[if_pos hneg];have w1:IntKind.i64.wrap (c+1)=c+1:=z1c (by omega) (by omega);have w2:IntKind.i64.wrap (0-(c+1))= -(c+1):=wG;have hm:(-(c+1)).tmod n=(-(c+1))%n:=Int.tmod_eq_emod_of_nonneg (by omega);simp only[vW,seval,hneg,hne,w1,w2,hm]
 ·rw[if_neg hneg];have hm:c.tmod n=c%n:=Int.tmod_eq_emod_of_nonneg (by omega);simp only[vW,seval,hneg,hne,hm]
theorem zaD{i:Nat}(h:i<8):([[PV.v (.string ⟨#[]⟩)],[.v (.string ⟨#[97]⟩)],[.v (.string ⟨#[98,99]⟩)],[.v (.string ⟨#[195,169,116,195,169]⟩)],[.v (.string ⟨#[97,32,98]⟩)],[.v (.string ⟨#[122,122,32,116,111,112]⟩)],[.v (.string ⟨#[48]⟩)],[.v (.string ⟨#[45,55]⟩)]]:List (List PV))[i]?=some [.v (.string (str (z88 (i:Int))))]:=by
 have:i=0∨i=1∨i=2∨i=3∨i=4∨i=5∨i=6∨i=7:=by omega
 rcases this with rfl|rfl|rfl|rfl|rfl|rfl|rfl|rfl<;>rfl
theorem z1f(k n many:Int):(zY k n many).l=[]:=by
 unfold zY
 repeat' split
 all_goals rfl
theorem z5z(g:Sh.Glob)(t:Ty)(n many:Int)(ht:1≤t.k∧t.k≤4)(hn:I64 n)(hm:1≤many∧many≤100000):zC g 19 [tyT t,I n,I many] [] (nv (zY t.k n many)) []:=by
 obtain⟨k,o⟩:=t;simp only at ht;have hk:k=1∨k=2∨k=3∨k=4:=by omega
 unfold zY;unfold tyT;simp only[];have h34:∀j:Int,(j=3∨j=4)→zC g 19 [.agg [I j,I o],I n,I many] [] (nv (if many<1∨Go.Mor.pick n 5=4 then V.nil else .mk j (1+Go.Mor.pick n many) [] [])) []:=by
  intro j hj;have P5:=z0g g n 5 hn (by decide);have PM:=z0g g n many hn (by omega);have hb:=zq n many (by omega);have d1:¬many<1:=by omega
  have w1:IntKind.i64.wrap (1+Go.Mor.pick n many)=1+Go.Mor.pick n many:=z1c (by omega) (by omega);refine za tf_17 ?_;unfold nv;generalize Go.Mor.pick n many=b at*;generalize Go.Mor.pick n 5=a at*;by_cases h4:a=4
  ·rw[if_pos (.inr h4)];rcases hj with rfl|rfl
   ·simp only[vW,seval,d1];refine z6 P5 ?_;simp only[vW,seval,h4];rfl
   ·simp only[vW,seval,d1];refine z6 P5 ?_;simp only[vW,seval,h4];rfl
  ·rw[if_neg (fun h=>h.elim (fun h=>by omega) h4)];rcases hj with rfl|rfl
   ·simp only[vW,seval,d1];refine z6 P5 ?_;simp only[vW,seval,h4];refine z6 PM ?_;simp only[vW,seval,w1];rfl
   ·simp only[vW,seval,d1];refine z6 P5 ?_;simp only[vW,seval,h4];refine z6 PM ?_;simp only[vW,seval,w1];rfl
 rcases hk with rfl|rfl|rfl|rfl
 ·have P:=z0g g n 41 hn (by decide);have hb:=zq n 41 (by decide);have w1:IntKind.i64.wrap (Go.Mor.pick n 41-20)=Go.Mor.pick n 41-20:=z1c (by omega) (by omega);rw[if_pos rfl];generalize Go.Mor.pick n 41=b at*;refine za tf_17 ?_;unfold nv;simp only[vW,seval];refine z6 P ?_;simp only[vW,seval,w1];rfl
 ·have P:=z0g g n 8 hn (by decide);have hb:=zq n 8 (by decide);rw[if_neg (show ¬(2:Int)=1 by decide),if_pos rfl];obtain⟨i,hi⟩:=Int.eq_ofNat_of_zero_le hb.1;rw[hi]at P hb ⊢;have e1:=zaD (i:=i) (by omega);refine za tf_17 ?_;unfold nv;simp only[vW,seval];refine z6 P ?_;simp only[vW,seval,e1]
 ·rw[if_neg (show ¬(3:Int)=1 by decide),if_neg (show ¬(3:Int)=2 by decide)];exact h34 3 (.inl rfl)
 ·rw[if_neg (show ¬(4:Int)=1 by decide),if_neg (show ¬(4:Int)=2 by decide)];exact h34 4 (.inr rfl)
end
theorem z2f(l:List V)(x:V):V.rows (l++[x])=V.rows l++[[.v (.int .i64 x.k),.v (.int .i64 x.n),.v (.string (str x.s)),.sl 4 (V.rows x.l)]]:=by rw[z0J,z0J,List.map_append,List.map_cons,List.map_nil,z3w]
theorem z81(l:List V):∀cs∈V.rows l,cs.length=4:=by
 intro cs h;rw[z0J]at h;obtain⟨f,_,rfl⟩:=List.mem_map.1 h;rw[z3w];rfl
theorem z7n{W:Nat}{x:List PV}(hx:x.length=W):∀{X:List (List PV)} {k:Nat},(∀cs∈X,cs.length=W)→k<X.length→List.take (k*W) X.flatten++x++List.drop (k*W+W) X.flatten=(X.set k x).flatten
 |[],k,_,h=>by simp at h
 |y::X,0,hW,_=>by
  have hy:=hW y (List.mem_cons_self ..);rw[List.flatten_cons,List.set_cons_zero,List.flatten_cons,Nat.zero_mul,List.take_zero,List.nil_append,Nat.zero_add,List.drop_append,List.drop_eq_nil_of_le (by omega),hy,Nat.sub_self,List.drop_zero,List.nil_append]
 |y::X,k+1,hW,h=>by
  have hy:=hW y (List.mem_cons_self ..);have ih:=z7n hx (X:=X) (k:=k) (fun cs hc=>hW cs (List.mem_cons_of_mem _ hc)) (by simpa using h);rw[List.flatten_cons,List.set_cons_succ,List.flatten_cons,←ih];have e1:(k+1)*W=W+k*W:=by rw[Nat.add_mul];omega
  rw[e1,List.take_append,List.drop_append,List.take_of_length_le (by omega),List.drop_eq_nil_of_le (by omega),hy];simp[Nat.add_sub_cancel_left,Nat.add_assoc]
theorem z9V(l:List V)(k:Nat)(v:V)(h:k<l.length):List.take (k*4) (pvC (V.rows l).flatten)++[TV.pv (.v (.int .i64 v.k)),TV.pv (.v (.int .i64 v.n)),TV.pv (.v (.string (str v.s))),TV.pv (.sl 4 (V.rows v.l))]++List.drop (k*4+4) (pvC (V.rows l).flatten)=pvC (V.rows (l.set k v)).flatten:=by
 have hs:V.rows (l.set k v)=(V.rows l).set k (V.row v):=by rw[z0J,z0J,List.map_set]
 rw[hs,←z7n (x:=V.row v) (by rw[z3w];rfl) (z81 l) (by rw[z2D];exact h),z3w];unfold pvC;simp[List.map_take,List.map_drop]
end Go.Proofs.YtcpaleaajdilgaaDoor
end

section
namespace Go.Mor
open Go Go.RowKit
theorem z7G(t:Ty)(n many:Int)(ht:zf t=true)(hm:many≤100000):z1d (z0m t n many) t=true∧(z0m t n many).s.length≤60∧∀y∈(z0m t n many).l,y.s.length≤60:=by
 obtain⟨k,o⟩:=t;by_cases h5:k=5
 ·subst h5;have ho:1≤o∧o≤4:=by grind [zf]
  have hp:=zq n 4 (by omega);have hall:∀y∈(List.range (pick n 4).toNat).map (fun i:Nat=>zY o (n.tdiv 4+(i:Int)) many),zR y=false∧zA y o=true∧y.s.length≤60:=by
   grind [z5y,zR]
  have e:z0m ⟨5,o⟩ n many=.mk 5 0 [] ((List.range (pick n 4).toNat).map (fun i:Nat=>zY o (n.tdiv 4+(i:Int)) many)):=if_pos rfl;rw[e];refine⟨?_,by simp[V.s],fun y hy=>(hall y hy).2.2⟩;simp only[z1d,Bool.and_eq_true];refine⟨⟨⟨?_,ht⟩,by simp[zA,V.k]⟩,?_⟩
  ·simp only[z1b,V.k,V.n,V.s,V.l,if_true,Bool.and_eq_true,Bool.not_eq_true',List.any_eq_false]
   grind
  ·simp only[V.l,Bool.not_eq_true',List.any_eq_false]
   grind
 ·have hk:1≤k∧k≤4:=by simp[zf,h5]at ht;omega
  obtain⟨h1,h2,h3,h4,h6⟩:=z5y k n many hk hm;have e:z0m ⟨k,o⟩ n many=zY k n many:=if_neg h5;rw[e];refine⟨?_,h6,by rw[h2];intro y hy;cases hy⟩;simp only[z1d,z1b,if_neg h4,h1,ht,h3,h2];simp
theorem z5o{fs:List Fld}{l:List Int}{many:Int}{i:Nat}{f:Fld}(h:fs[i]?=some f):(z0Q fs l many)[i]?=some (z0m f.t (z2r l i) many):=by grind [z0Q]
theorem z1S(fs:List Fld)(l:List Int)(many:Int):(z0Q fs l many).length=fs.length:=by unfold z0Q;exact List.length_mapIdx
theorem GoodC.type{c:Cls}(h:GoodC c){f:Fld}(hf:f∈c.fs):zf f.t=true:=by
 have:=(h.fs f hf).1;unfold zK at this
 grind
end Go.Mor
end

section
namespace Go.Proofs.YtcpaleaajdilgaaDoor
open Go Go.RowKit Go.Mor Go.Sh
section
open Go.Sh.Cd1 Go.Sh.Cd6
def iiR(l:List Int):List (List PV):=l.map fun z=>[PV.v (.int .i64 z)]
theorem zbz(l:List Int)(k:Nat):(iiR l)[k]?=(l[k]?).map fun z=>[PV.v (.int .i64 z)]:=by unfold iiR;rw[List.getElem?_map]
theorem z9Z(l:List Int):(iiR l).length=l.length:=by unfold iiR;rw[List.length_map]
def mkL(o n many:Int)(i:Nat):List V:=(List.range i).map fun i:Nat=>zY o (n.tdiv 4+(i:Int)) many
theorem z9y(o n many:Int)(i:Nat):mkL o n many (i+1)=mkL o n many i++[zY o (n.tdiv 4+(i:Int)) many]:=by unfold mkL;rw[List.range_succ,List.map_append];rfl
theorem zam(o n many:Int)(i:Nat):(mkL o n many i).length=i:=by simp[mkL]
theorem z95(g:Sh.Glob)(o n many:Int)(ho:1≤o∧o≤4)(hn:I64 n)(hm:1≤many∧many≤100000):zC g 19 [tyT ⟨5,o⟩,I n,I many] [] (tv (z0m ⟨5,o⟩ n many)) []:=by
 have P4:=z0g g n 4 hn (by decide);have hb:=zq n 4 (by decide);have hn':=hn;obtain⟨n0,n1⟩:=hn';obtain⟨q,hq⟩:=Int.eq_ofNat_of_zero_le hb.1;have e1:z0m ⟨5,o⟩ n many=.mk 5 0 [] (mkL o n many q):=by unfold z0m mkL;rw[if_pos rfl,hq];rfl
 rw[e1];rw[hq]at P4 hb;refine z5a tf_17 ?_;unfold tv tyT;simp only[vW,seval];refine zE (σ:={i:Nat // i≤q}) (fun i=>⟨[(1,I n),(2,I many),(3,.ptr 3 0),(6,.ptr 6 0),(8,.ptr 8 0),(9,I (i.1:Int))],
   [(3,[I 5,I o]),(6,[I 0,I 0,S ⟨#[]⟩,zM]),(8,[I 5,I 0,S ⟨#[]⟩,.own 3000 4 (V.rows (mkL o n many i.1))])],[(3000,(31,4,i.1))],[]⟩) (fun i=>q-i.1) ⟨0,Nat.zero_le _⟩ ?_ ?_
 ·refine ES.Lw.trans ?_ (z8b (x:=8) (j:=3) (d:=3000) (e:=31) (W:=4) (.inr (by decide)) (by decide) rfl (by simp only[vcA,seval]) rfl);exact z1C rfl
 rintro⟨i,hi⟩;have hlen:=zam o n many i;by_cases hlt:i<q
 ·have d1:(i:Int)<(q:Int):=by omega
  have w1:=wS i;have t0: -9223372036854775808≤n.tdiv 4∧n.tdiv 4≤2305843009213693952:=by
   rcases Int.le_total 0 n with h|h
   ·rw[Int.tdiv_eq_ediv_of_nonneg h];omega
   ·have:n.tdiv 4= -((-n).tdiv 4):=by rw[Int.neg_tdiv];omega
    rw[this,Int.tdiv_eq_ediv_of_nonneg (by omega)];omega
  have w2:IntKind.i64.wrap (n.tdiv 4)=n.tdiv 4:=z1c (by omega) (by omega);have w3:IntKind.i64.wrap (n.tdiv 4+(i:Int))=n.tdiv 4+(i:Int):=z1c (by omega) (by omega);have HV:=(z5z g ⟨o,0⟩ (n.tdiv 4+(i:Int)) many ho ⟨by omega,by omega⟩ hm).out (za1 (z1f _ _ _));unfold tv tyT at HV;rw[z1f,V.rows_nil]at HV;simp only[vW,seval,zM];refine z6 P4 ?_;simp only[vW,seval,d1,w2,w3];refine Or.inl ?_;refine z6 HV ?_;simp only[vW,seval,hlen,w1];refine⟨⟨by omega,by unfold maxLen;omega⟩,zc ⟨i+1,hlt⟩ (by show q-(i+1)<q-i;omega) ?_⟩;refine z1C ?_;simp only[z9y,z2f,z80 (z1f _ _ _),z1f,V.rows_nil]
 ·obtain rfl:i=q:=by omega
  have d1:¬(i:Int)<(i:Int):=by omega
  simp only[vW,seval,zM];refine z6 P4 ?_;simp only[vW,seval,d1];all_goals rfl
theorem zan{t:Ty}(h:¬t.k=5)(n many:Int):z0m t n many=zY t.k n many:=by unfold z0m;rw[if_neg h]
theorem z94(g:Sh.Glob)(t:Ty)(n many:Int)(ht:zf t=true)(hn:I64 n)(hm:1≤many∧many≤100000):zC g 19 [tyT t,I n,I many] [] (tv (z0m t n many)) []:=by
 obtain⟨k,o⟩:=t;unfold zf at ht;by_cases h:k=5
 ·subst h;rw[if_pos rfl,decide_eq_true_iff]at ht;exact z95 g o n many ht hn hm
 ·rw[if_neg h,decide_eq_true_iff]at ht;rw[zan h];exact(z5z g ⟨k,o⟩ n many ⟨ht.1,ht.2.1⟩ hn hm).out (za1 (z1f _ _ _))
theorem zau{l:List Int}{i:Nat}(h:l≠[]):∃z,l[i%l.length]?=some z∧z2r l i=IntKind.i64.wrap (z+i):=by
 have hp:0<l.length:=List.length_pos_iff.2 h;refine⟨_,gE (Nat.mod_lt _ hp),?_⟩;unfold z2r;rw[if_neg h,List.getD_eq_getElem?_getD,gE (Nat.mod_lt _ hp)];rfl
theorem zaE(x:Int):I64 (IntKind.i64.wrap x):=by unfold I64;rw[IntKind.wrap_i64];omega
theorem z8a(g:Sh.Glob)(c:Cls)(l:List Int)(many:Int)(hc:∀f∈c.fs,zf f.t=true)(hl:c.fs.length≤1000)(hll:l.length≤9223372036854775807)(hm:1≤many∧many≤100000):
  zC g 6 [clT c,.pv (.sl 1 (iiR l)),I many] [] (.pv (.sl 4 (V.rows (z0Q c.fs l many)))) []:=by
 refine z5a tf_18 ?_;simp only[vW,seval,clV];refine zE (σ:={i:Nat // i≤c.fs.length}) (fun i=>⟨[(1,.pv (.sl 1 (iiR l))),(2,I many),(3,.ptr 3 0),(7,.own 3000 4 (V.rows ((z0Q c.fs l many).take i.1))),(8,I (i.1:Int))],
   [(3,[S (str c.n),.pv (.sl 4 (flR c.fs))])],[(3000,(31,4,i.1))],[]⟩) (fun i=>c.fs.length-i.1) ⟨0,Nat.zero_le _⟩ ?_ ?_
 ·refine ES.Lw.trans ?_ (zaK (k:=7) (d:=3000) (e:=31) (W:=4) (.inr (by decide)) rfl);exact z1C rfl
 rintro⟨i,hi⟩;have hlen:((z0Q c.fs l many).take i).length=i:=by rw[List.length_take,z1S];omega
 by_cases hlt:i<c.fs.length
 ·have d1:(i:Int)<(c.fs.length:Int):=by omega
  obtain⟨f,ef⟩:∃f,c.fs[i]?=some f:=⟨_,gE hlt⟩
  have w1:=wS i;have htk:(z0Q c.fs l many).take (i+1)=(z0Q c.fs l many).take i++[z0m f.t (z2r l i) many]:=by rw[List.take_add_one,z5o ef];rfl
  have hN:I64 (z2r l i):=by
   unfold z2r;split
   ·exact⟨by omega,by omega⟩
   ·exact zaE _
  have HV:=z94 g f.t (z2r l i) many (hc f (gM ef)) hN hm;unfold tv tyT at HV;by_cases h0:l=[]
  ·have hr:z2r l i=(i:Int):=by unfold z2r;rw[if_pos h0]
   have d2:¬0<(l.length:Int):=by rw[h0];decide
   rw[hr]at HV htk;simp only[vW,seval,d1,d2,z9Z,ef,clV];refine Or.inl ?_;refine z6 HV ?_;simp only[vW,seval,hlen,w1];refine⟨⟨by omega,by unfold maxLen;omega⟩,zc ⟨i+1,hlt⟩ (by show c.fs.length-(i+1)<c.fs.length-i;omega) ?_⟩;refine z1C ?_;simp only[htk,z2f,z3w]
  ·obtain⟨z,hz,hr⟩:=zau (i:=i) h0;have hp:0<l.length:=List.length_pos_iff.2 h0;have d2:0<(l.length:Int):=by omega
   have d3:¬(l.length:Int)=0:=by omega
   have hmm:(i:Int).tmod (l.length:Int)=((i%l.length:Nat):Int):=(Int.ofNat_tmod _ _).symm;rw[hr]at HV htk;simp only[vW,seval,d1,d2,z9Z,d3,hmm,zbz,hz,ef,clV];refine Or.inl ?_;refine z6 HV ?_;simp only[vW,seval,hlen,w1];refine⟨⟨by omega,by unfold maxLen;omega⟩,zc ⟨i+1,hlt⟩ (by show c.fs.length-(i+1)<c.fs.length-i;omega) ?_⟩;refine z1C ?_;simp only[htk,z2f,z3w]
 ·obtain rfl:i=c.fs.length:=by omega
  have d1:¬(c.fs.length:Int)<(c.fs.length:Int):=by omega
  simp only[vW,seval,d1,clV];rw[List.take_of_length_le (by rw[z1S];omega)]
theorem z67(l:List Fld)(f:Fld):flR (l++[f])=flR l++[flR1 f]:=by unfold flR;rw[List.map_append];rfl
theorem z6M(l:List Fld)(s:zB):∃(p:Int) (t:Bool),z1G l s=.tuple [I p,.pv (.v (.bool t))]∧(fieldAt l s<0 ↔ t=false):=by
 unfold z1G B;by_cases h:fieldAt l s<0
 ·rw[if_pos h];exact⟨0,false,rfl,fun _=>rfl,fun _=>h⟩
 ·rw[if_neg h];exact⟨_,true,rfl,fun h'=>absurd h' h,fun h'=>by cases h'⟩
theorem z6J(g:Sh.Glob)(x:Raw)(hx:RawOk x):zC g 5 [z4m x] [] (clT (z0V x)) []:=by
 have PN:=z0g g x.n 6 hx.n (by decide);have hb:=zq x.n 6 (by decide);have hlx:=hx.len;obtain⟨q,hq⟩:=Int.eq_ofNat_of_zero_le hb.1;have ec:=zb6 (i:=q) (by omega);have e0:z0V x=⟨nmC (q:Int),(x.fs.take 6).foldl z0d []⟩:=by unfold z0V;rw[hq]
 rw[e0];rw[hq]at PN;refine z5a tf_16 ?_;unfold z4m clT;simp only[vW,seval];refine z6 PN ?_;simp only[vW,seval,ec];refine zE (σ:={i:Nat // i≤x.fs.length∧i≤6}) (fun i=>⟨[(1,.ptr 1 0),(2,.ptr 2 0),(3,.pv (.sl 1 [[PV.v (.string ⟨#[97]⟩)],[.v (.string ⟨#[98,50]⟩)],[.v (.string ⟨#[110,97,109,101]⟩)],[.v (.string ⟨#[110,101,120,116,95,111,110,101]⟩)],[.v (.string ⟨#[107,105,100,115]⟩)],[.v (.string ⟨#[120]⟩)]])),(4,.ptr 4 0),(5,I (i.1:Int))],
   [(1,[I x.n,.pv (.sl 4 (rfR x.fs))]),(2,[S ⟨#[]⟩,zM]),(4,[S (str (nmC (q:Int))),.own 3000 4 (flR ((x.fs.take i.1).foldl z0d []))])],[(3000,(46,4,((x.fs.take i.1).foldl z0d []).length))],[]⟩) (fun i=>6-i.1) ⟨0,Nat.zero_le _,Nat.zero_le _⟩ ?_ ?_
 ·refine ES.Lw.trans ?_ (z8b (x:=4) (j:=1) (d:=3000) (e:=46) (W:=4) (.inr (by decide)) (by decide) rfl (by simp only[vcA,seval]) rfl);exact z1C rfl
 rintro⟨i,hi,hi6⟩;by_cases hlt:i<x.fs.length∧i<6
 ·obtain⟨hlt,hl6⟩:=hlt;have d1:(i:Int)<(x.fs.length:Int):=by omega
  have d2:(i:Int)<6:=by omega
  obtain⟨r,er⟩:∃r,x.fs[i]?=some r:=⟨_,gE hlt⟩
  have w1:=wS i;obtain⟨r1,r2,r3⟩:=hx.fs r (gM er);have P1:=z0g g r.n 6 r1 (by decide);have P2:=z0g g r.k 5 r2 (by decide);have P3:=z0g g r.o 4 r3 (by decide);have b1:=zq r.n 6 (by decide);have b2:=zq r.k 5 (by decide);have b3:=zq r.o 4 (by decide);have hst:=z4B x.fs i r er;have hal:=z8f x.fs i;rw[z0d]at hst;have hF:z0Y r=⟨nmF (Go.Mor.pick r.n 6),⟨1+Go.Mor.pick r.k 5,if Go.Mor.pick r.k 5=4 then 1+Go.Mor.pick r.o 4 else 0⟩,r.ix&&decide (1+Go.Mor.pick r.k 5≤3)⟩:=rfl;rw[hF]at hst;simp only[]at hst;obtain⟨j,hj⟩:=Int.eq_ofNat_of_zero_le b1.1;have ej:=zb7 (i:=j) (by omega);rw[hj]at P1 hst;change _=(if fieldAt ((x.fs.take i).foldl z0d []) (nmF (j:Int))<0 then _ else(x.fs.take i).foldl z0d [])at hst;generalize(x.fs.take i).foldl z0d []=acc at*;generalize Go.Mor.pick r.k 5=b at*;generalize Go.Mor.pick r.o 4=o at*;have HF:=z6W g ⟨nmC (q:Int),acc⟩ (nmF (j:Int)) (by show acc.length≤_;omega);obtain⟨p,t,hp,ht⟩:=z6M acc (nmF (j:Int));rw[show z1G (Cls.fs ⟨nmC (q:Int),acc⟩) (nmF (j:Int))=_ from hp]at HF;unfold clT at HF;have w2:IntKind.i64.wrap (1+b)=1+b:=z1c (by omega) (by omega);have w3:IntKind.i64.wrap (1+o)=1+o:=z1c (by omega) (by omega);have hfl:=z3I acc;by_cases h4:b=4
  ·have d5:1+b=5:=by omega
   have d3:¬1+b≤3:=by omega
   have hix:(r.ix&&decide (1+b≤3))=false:=by rw[decide_eq_false d3,Bool.and_false]
   rw[if_pos h4,hix,d5]at hst;have w5:IntKind.i64.wrap 5=5:=z1c (by omega) (by omega);cases hr:r.ix;all_goals(
    simp only[vW,seval,z7W,z4T,z30,d1,d2,er,zM];refine z6 P1 ?_;simp only[vW,seval,ej];refine z6 P2 ?_;simp only[vW,seval,w2,d5,w5];refine z6 P3 ?_;simp only[vW,seval,w3,hr];refine z6 HF ?_;cases t
    ·rw[if_pos (ht.2 rfl)]at hst;simp only[vW,seval,hfl,w1];refine⟨⟨by omega,by unfold maxLen;omega⟩,zc ⟨i+1,hlt,hl6⟩ (by show 6-(i+1)<6-i;omega) ?_⟩;simp only[hst,z67,List.length_append,List.length_singleton];apply z0l<;>simp[leL,lk,sv,Nat.beq,I,S,ES.kill,has,drp,zM,flR1]
    ·rw[if_neg (fun h=>Bool.noConfusion (ht.1 h))]at hst;simp only[vW,seval,w1];refine zc ⟨i+1,hlt,hl6⟩ (by show 6-(i+1)<6-i;omega) ?_;simp only[hst];exact lwA)
  ·have d5:¬1+b=5:=by omega
   rw[if_neg h4]at hst;have hc:(r.ix=false∧(True∨False)∧(r.ix&&decide (1+b≤3))=false)∨(r.ix=true∧1+b≤3∧(r.ix&&decide (1+b≤3))=true)∨(r.ix=true∧¬1+b≤3∧(r.ix&&decide (1+b≤3))=false):=by
    cases r.ix
    ·exact .inl ⟨rfl,.inl trivial,rfl⟩
    ·by_cases h:1+b≤3
     ·exact .inr (.inl ⟨rfl,h,by rw[decide_eq_true h];rfl⟩)
     ·exact .inr (.inr ⟨rfl,h,by rw[decide_eq_false h];rfl⟩)
   rcases hc with⟨hr,d3,hix⟩|⟨hr,d3,hix⟩|⟨hr,d3,hix⟩
   all_goals(
    rw[hix]at hst;simp only[vW,seval,z7W,z4T,z30,d1,d2,er,zM];refine z6 P1 ?_;simp only[vW,seval,ej];refine z6 P2 ?_;simp only[vW,seval,w2,d5,hr,d3];refine z6 HF ?_;cases t
    ·rw[if_pos (ht.2 rfl)]at hst;simp only[vW,seval,hfl,w1];refine⟨⟨by omega,by unfold maxLen;omega⟩,zc ⟨i+1,hlt,hl6⟩ (by show 6-(i+1)<6-i;omega) ?_⟩;simp only[hst,z67,List.length_append,List.length_singleton];apply z0l<;>simp[leL,lk,sv,Nat.beq,I,S,ES.kill,has,drp,zM,flR1]
    ·rw[if_neg (fun h=>Bool.noConfusion (ht.1 h))]at hst;simp only[vW,seval,w1];refine zc ⟨i+1,hlt,hl6⟩ (by show 6-(i+1)<6-i;omega) ?_;simp only[hst];exact lwA)
 ·have he:(x.fs.take i).foldl z0d []=(x.fs.take 6).foldl z0d []:=by
   by_cases h:i<6
   ·have h1:x.fs.length≤i:=by omega
    rw[List.take_of_length_le h1,List.take_of_length_le (by omega)]
   ·obtain rfl:i=6:=by omega
    rfl
  rw[←he];by_cases hl:i<x.fs.length
  ·have d1:(i:Int)<(x.fs.length:Int):=by omega
   have d2:¬(i:Int)<6:=by omega
   simp only[vW,seval,z4T,d1,d2,zM]
  ·have d1:¬(i:Int)<(x.fs.length:Int):=by omega
   simp only[vW,seval,z4T,d1,zM]
end
theorem z3L{c:Cls}(h:GoodC c):ClsOk c:=
 ⟨by have:=h.nm.2;unfold z2I;omega,fun f hf=>by have:=(h.fs f hf).2;unfold z2I;omega,by have:=h.len;omega⟩
theorem zbr{v:V}(h1:v.s.length≤60)(h2:∀y∈v.l,y.s.length≤60):VOk v:=⟨by unfold z0t;omega,fun y hy=>by have:=h2 y hy;unfold z0t;omega⟩
inductive VFew:V→Prop where
 |mk {k n:Int} {s:zB} {l:List V} (h:l.length≤1000) (hs:∀y∈l,VFew y):VFew (.mk k n s l)
theorem VFew.len{x:V}(h:VFew x):x.l.length≤1000:=by cases h;assumption
theorem zaV{x:V}(h:x.l=[]):VFew x:=by cases x with|mk k n s l=>simp only[Vl]at h;subst h;exact .mk (by simp) (by simp)
theorem zb5{t:Ty}{n many:Int}(ht:zf t=true)(hm:many≤100000):VFew (z0m t n many)∧VOk (z0m t n many):=by
 obtain⟨_,h1,h2⟩:=z7G t n many ht hm;refine⟨?_,zbr h1 h2⟩;unfold z0m;split
 ·have hb:=zq n 4 (by decide);refine .mk (by rw[List.length_map,List.length_range];omega) fun y hy=> ?_;obtain⟨i,_,rfl⟩:=List.mem_map.1 hy;exact zaV (z1f _ _ _)
 ·exact zaV (z1f _ _ _)
theorem z9U{c:Cls}(h:GoodC c)(l:List Int){many:Int}(hm:many≤100000):∀v∈z0Q c.fs l many,VFew v∧VOk v:=by
 intro v hv;obtain⟨i,hi⟩:=List.getElem?_of_mem hv;have hl:=(gJ hi).1;rw[z1S]at hl;have hf:c.fs[i]?=some (c.fs[i]):=gE hl;rw[z5o hf]at hi;cases hi;exact zb5 (h.type (gM hf)) hm
def z9k:Nat→Option SFunc
 |4=>some Cd4.F_20
 |9=>some Cd4.F_2
 |34=>some Cd1.F_42
 |20=>some Cd1.F_40
 |11=>some Cd4.F_4
 |12=>some Cd4.F_3
 |13=>some Cd4.F_5
 |14=>some Cd4.F_34
 |15=>some Cd4.F_7
 |16=>some Cd4.F_8
 |17=>some Cd4.F_9
 |49=>some Cd1.F_43
 |50=>some Cd1.F_48
 |51=>some Cd1.F_47
 |37=>some Cd1.F_36
 |35=>some Cd1.F_49
 |36=>some Cd1.F_45
 |38=>some Cd1.F_41
 |24=>some Cd4.F_11
 |26=>some Cd4.F_1
 |27=>some Cd4.F_0
 |28=>some Cd4.F_10
 |29=>some Cd4.F_38
 |30=>some Cd4.F_6
 |31=>some Cd4.F_13
 |32=>some Cd4.F_12
 |33=>some Cd4.F_37
 |62=>some Cd1.F_46
 |53=>some Cd1.F_39
 |48=>some Cd4.F_14
 |_=>none
theorem zad:z70 Tryd.prog z9k:=by
 intro f G h;unfold z9k at h;split at h
 ·cases h;exact⟨_,_,_,_,Cd4.tf_20⟩
 ·cases h;exact⟨_,_,_,_,Cd4.tf_2⟩
 ·cases h;exact⟨_,_,_,_,Cd1.tf_42⟩
 ·cases h;exact⟨_,_,_,_,Cd1.tf_40⟩
 ·cases h;exact⟨_,_,_,_,Cd4.tf_4⟩
 ·cases h;exact⟨_,_,_,_,Cd4.tf_3⟩
 ·cases h;exact⟨_,_,_,_,Cd4.tf_5⟩
 ·cases h;exact⟨_,_,_,_,Cd4.tf_34⟩
 ·cases h;exact⟨_,_,_,_,Cd4.tf_7⟩
 ·cases h;exact⟨_,_,_,_,Cd4.tf_8⟩
 ·cases h;exact⟨_,_,_,_,Cd4.tf_9⟩
 ·cases h;exact⟨_,_,_,_,Cd1.tf_43⟩
 ·cases h;exact⟨_,_,_,_,Cd1.tf_48⟩
 ·cases h;exact⟨_,_,_,_,Cd1.tf_47⟩
 ·cases h;exact⟨_,_,_,_,Cd1.tf_36⟩
 ·cases h;exact⟨_,_,_,_,Cd1.tf_49⟩
 ·cases h;exact⟨_,_,_,_,Cd1.tf_45⟩
 ·cases h;exact⟨_,_,_,_,Cd1.tf_41⟩
 ·cases h;exact⟨_,_,_,_,Cd4.tf_11⟩
 ·cases h;exact⟨_,_,_,_,Cd4.tf_1⟩
 ·cases h;exact⟨_,_,_,_,Cd4.tf_0⟩
 ·cases h;exact⟨_,_,_,_,Cd4.tf_10⟩
 ·cases h;exact⟨_,_,_,_,Cd4.tf_38⟩
 ·cases h;exact⟨_,_,_,_,Cd4.tf_6⟩
 ·cases h;exact⟨_,_,_,_,Cd4.tf_13⟩
 ·cases h;exact⟨_,_,_,_,Cd4.tf_12⟩
 ·cases h;exact⟨_,_,_,_,Cd4.tf_37⟩
 ·cases h;exact⟨_,_,_,_,Cd1.tf_46⟩
 ·cases h;exact⟨_,_,_,_,Cd1.tf_39⟩
 ·cases h;exact⟨_,_,_,_,Cd4.tf_14⟩
 ·cases h
theorem zae:z4x Tryd.prog z9k z7T 100 14 4 [] []=some (.pv (.v (.bool true)),[]):=by kernel_rfl
theorem zaU(a0 a1:Addr)(n:Nat):zC (gl a0 a1 n) 4 [] [] (.pv (.v (.bool true))) []:=
 z3Y (by kernel_rfl) zad (z6S a0 a1 n) 14 _ _ _ _ _ zae
section
open Go.Sh.Cd1 Go.Sh.Cd9
theorem z9N{P:Program}{g:Sh.Glob}{N:Nat}{a b c:SCode}{Q:SExit→ES→Prop}{s:ES}{α:Type}(st:α→ES)(φ:α→Prop)(hA:z0A P g N a (z0G (z0A P g N b (fun e s'=>e=.normal∧∃x,φ x∧(st x).Lw s')) (fun _ _=>False)) s)
  (hB:∀x,φ x→z0A P g N c Q (st x)):z0A P g N (.seq a (.seq b c)) Q s:=by
 refine z58 (z31 hA ?_);rintro e s' h;cases e with
 |normal=>exact z58 (z31 h (by rintro e2 s2 ⟨rfl,x,hx,hl⟩;exact z3A hl (hB x hx)))
 |exit id=>exact h.elim
 |ret=>exact h.elim
 |pan z=>exact h.elim
theorem z51(a0 a1:Addr)(m:Nat)(x:Raw)(o:Cls)(l:List Int)(at_:Int)(v:V)(hx:RawOk x)(ho:o.fs.length≤9223372036854775807)(hl:l.length≤9223372036854775807)(hat:I64 at_)(hv:v.s.length≤9223372036854775807):
  zC (gl a0 a1 m) 3 [z4m x,clT o,.pv (.sl 1 (iiR l)),I at_,.agg [I v.k,I v.n,S (str v.s),.unk]] [] (.pv (.v (.bool true))) []:=by
 have HX:=zaU a0 a1 m;have HC:=z6J (gl a0 a1 m) x hx;have hg:=z64 x;have hc6:=hg.len;have HV:=z8a (gl a0 a1 m) (z0V x) l 3 (fun _ hf=>hg.type hf) (by omega) hl (by decide);have hvl:=z1S (z0V x).fs l 3;have hfew:=z9U hg l (many:=3) (by decide);generalize z0Q (z0V x).fs l 3=vals at*;generalize z0V x=c at*;have HO:=zaT (gl a0 a1 m) o ho;refine z5h ze tf_15 rfl ?_
 conv in SFunc.code _=>reduce
 unfold clT z4m at*;refine z0x ze ?_;simp only[vW,seval];refine z0x ze ?_;simp only[vW,seval];refine z2K HX ?_;refine z0x ze ?_;simp only[vW,seval];refine z0x ze ?_;simp only[vW,seval];refine z2K HC ?_;refine z0x ze ?_;simp only[vW,seval];refine z2K HV ?_;have m1:min (v.s.length:Int) 70=((min v.s.length 70:Nat):Int):=by omega
 have k1:List.take (min v.s.length 70) v.s=v.s.take 70:=by rw[List.take_eq_take_iff];omega
 refine z0x ze ?_;simp only[vW,seval,m1,k1];refine⟨⟨by omega,by omega⟩,?_⟩;refine z0x ze ?_;simp only[vW,seval];obtain⟨u,hu⟩:∃u:V,V.mk v.k v.n (v.s.take 70) []=u:=⟨_,rfl⟩
 have uk:u.k=v.k:=by rw[←hu];rfl
 have un:u.n=v.n:=by rw[←hu];rfl
 have us:u.s=v.s.take 70:=by rw[←hu];rfl
 have ul:u.l=[]:=by rw[←hu];rfl
 rw[←uk,←un,←us];refine z3A (z8S (k:=9) (ds:=[I u.k,I u.n,S (str u.s),.pv (.sl 4 (V.rows u.l))]) rfl rfl (fun j x y hx hy=>by
  match j with
  |0=>cases hx;cases hy;exact .refl _
  |1=>cases hx;cases hy;exact .refl _
  |2=>cases hx;cases hy;exact .refl _
  |3=>cases hx;cases hy;rw[ul,V.rows_nil];exact z4X 4
  |j+4=>simp at hx)) ?_
 have HP:=z0g (gl a0 a1 m) at_ (vals.length+1) hat (by omega);obtain⟨j0,hj0,ej⟩:∃j:Nat,j≤vals.length∧Go.Mor.pick at_ (vals.length+1)=(j:Int):=by
  have:=zq at_ (vals.length+1) (by omega);exact⟨(Go.Mor.pick at_ (vals.length+1)).toNat,by omega,by omega⟩
 rw[ej]at HP;have eA:=(z2f vals u).symm;have eT:List.take j0 (V.rows vals)=V.rows (vals.take j0):=by rw[z0J,z0J,List.map_take]
 refine z9N (fun T:List V=>⟨[(3,I at_),(6,.ptr 6 0),(9,.ptr 9 0),(11,.pv (.v (.bool true))),(12,.ptr 12 0),(13,.pv (.sl 4 (V.rows vals))),(14,.pv (.sl 4 (V.rows T)))],
  [(6,[S (str o.n),.pv (.sl 4 (flR o.fs))]),(9,[I u.k,I u.n,S (str u.s),.pv (.sl 4 (V.rows u.l))]),(12,[S (str c.n),.pv (.sl 4 (flR c.fs))])],[],[]⟩) (fun T=>T.length=vals.length∧∀w∈T,w∈vals∨w=u) ?_ ?_
 ·refine z1r ze ?_;simp only[vW,seval];refine⟨⟨by omega,by unfold maxLen;omega⟩,fun he=> ?_,fun he=> ?_⟩
  ·have hn:vals=[]:=by
    rw[List.isEmpty_iff,z0J,List.map_eq_nil_iff]at he;exact he
   subst hn;refine z3A (zbb (k:=14) (y:=.pv (.sl 4 (V.rows []))) rfl (by rw[V.rows_nil];exact z4X 4)) ?_;refine z1r ze ?_;simp only[vW,seval];exact⟨[],⟨rfl,fun w hw=> .inl hw⟩,lwA⟩
  ·have hp:0<vals.length:=by
    rcases vals with _|⟨w,vs⟩
    ·rw[V.rows_nil]at he;exact absurd rfl he
    ·rw[List.length_cons];omega
   have HQ:=z0g (gl a0 a1 m) at_ vals.length hat (by omega);obtain⟨i,hi,ei⟩:∃i:Nat,i<vals.length∧Go.Mor.pick at_ vals.length=(i:Int):=by
    have:=zq at_ vals.length (by omega);exact⟨(Go.Mor.pick at_ vals.length).toNat,by omega,by omega⟩
   rw[ei]at HQ;have hset:=z9V vals i u hi;have hln:(V.rows vals).flatten.length=vals.length*4:=by rw[z2O (z81 vals),z2D]
   have hfo:List.map TV.pv (V.rows vals).flatten=pvC (V.rows vals).flatten:=rfl;have h0:(0:Int)<vals.length:=by omega
   rw[hfo];refine z1r ze ?_;simp only[vW,seval,z2C];refine⟨fun _=> ?_,fun hc=>absurd h0 hc⟩;refine z6 HQ ?_;simp only[vW,seval,z2C,hset];refine⟨by omega,by omega,vals.set i u,⟨List.length_set,fun w hw=>List.mem_or_eq_of_mem_set hw⟩,?_⟩;exact .trans lwA (zaY (k:=14) (d:=41) (es:=V.rows (vals.set i u)) (c:=vals.length) rfl (z81 _) (by show some _=some _;rw[z2D,List.length_set]))
 ·rintro T ⟨hT,hTm⟩;have wL:=wS vals.length;have w1:IntKind.i64.wrap 1=1:=rfl;have w2:IntKind.i64.wrap 2=2:=rfl;have w3:IntKind.i64.wrap 3=3:=rfl;have w4:IntKind.i64.wrap 4=4:=rfl;have hu1:VOk u∧u.l.length≤maxLen:=by
   refine⟨⟨?_,?_⟩,?_⟩
   ·unfold z0t;rw[us];simp;omega
   ·rw[ul];simp
   ·rw[ul];unfold maxLen;simp
  have CK:∀{d:Cls},ClsOk d→∀{ys:List V},(ys.length≤7∧∀w∈ys,w∈vals∨w=u)→zC (gl a0 a1 m) 9 [clT d,.pv (.sl 4 (V.rows ys))] [] (z21 (z2a d ys)) []∧zC (gl a0 a1 m) 10 [clT d,.pv (.sl 4 (V.rows ys))] [] (z21 (z2a d ys)) []:=by
   rintro d hd ys ⟨hl,hm⟩;have hv:∀w∈ys,VOk w∧w.l.length≤maxLen:=fun w hw=>by
    rcases hm w hw with h|rfl
    ·have h1:=hfew w h;have h2:=h1.1.len;exact⟨h1.2,by unfold maxLen;omega⟩
    ·exact hu1
   exact⟨za2 (z5D m d ys hd hv (by omega)),z6V _ d ys hd hv (by omega)⟩
  have Y0:vals.length≤7∧∀w∈vals,w∈vals∨w=u:=⟨by omega,fun w hw=> .inl hw⟩
  have Y1:T.length≤7∧∀w∈T,w∈vals∨w=u:=⟨by omega,hTm⟩
  have Y2:(vals++[u]).length≤7∧∀w∈vals++[u],w∈vals∨w=u:=⟨by simp;omega,fun w hw=>by simpa using hw⟩
  have Y3:(vals.take j0).length≤7∧∀w∈vals.take j0,w∈vals∨w=u:=⟨by simp;omega,fun w hw=> .inl (List.mem_of_mem_take hw)⟩
  unfold z21 clT at CK;refine z1r ze ?_;simp only[vW,seval];refine z6 HO ?_;simp only[vW,seval];refine zE (σ:={i:Nat // i≤2}) (fun i=>⟨[(3,I at_),(9,.ptr 9 0),(11,.pv (.v (.bool true))),(13,.pv (.sl 4 (V.rows vals))),(14,.pv (.sl 4 (V.rows T))),(55,.pv (.sl 2 [[.v (.string (str c.n)),.sl 4 (flR c.fs)],[.v (.string (str (z1e o).n)),.sl 4 (flR (z1e o).fs)]])),(56,I 2),(57,I (i.1:Int))],
   [(9,[I u.k,I u.n,S (str u.s),.pv (.sl 4 (V.rows u.l))])],[],[]⟩) (fun i=>2-i.1) ⟨0,by decide⟩ ?_ ?_
  ·exact lwA
  rintro⟨i,hi⟩;have hi:i=0∨i=1∨i=2:=by omega
  rcases hi with rfl|rfl|rfl
  ·simp only[vW,seval,wL];refine⟨⟨by omega,by unfold maxLen;omega⟩,⟨by omega,by unfold maxLen;omega⟩,?_⟩;refine z6 HP ?_;simp only[vW,seval,eA,eT];refine⟨⟨by omega,hj0⟩,?_⟩;refine zE (σ:={j:Nat // j≤4}) (fun j=>⟨[(3,I at_),(9,.ptr 9 0),(11,.pv (.v (.bool true))),(13,.pv (.sl 4 (V.rows vals))),(14,.pv (.sl 4 (V.rows T))),(16,.ptr 16 0),(55,.pv (.sl 2 [[.v (.string (str c.n)),.sl 4 (flR c.fs)],[.v (.string (str (z1e o).n)),.sl 4 (flR (z1e o).fs)]])),(56,I 2),(57,I 0),(75,.pv (.sl 1 [[.sl 4 (V.rows vals)],[.sl 4 (V.rows T)],[.sl 4 (V.rows (vals++[u]))],[.sl 4 (V.rows (vals.take j0))]])),(76,I 4),(77,I (j.1:Int))],
    [(9,[I u.k,I u.n,S (str u.s),.pv (.sl 4 (V.rows u.l))]),(16,[S (str c.n),.pv (.sl 4 (flR c.fs))])],[],[]⟩) (fun j=>4-j.1) ⟨0,by decide⟩ ?_ ?_
   ·exact lwA
   rintro⟨j,hj⟩;have hj:j=0∨j=1∨j=2∨j=3∨j=4:=by omega
   rcases hj with rfl|rfl|rfl|rfl|rfl
   ·obtain⟨A,B⟩:=CK (z3L hg) Y0;simp only[vW,seval];refine z6 A ?_;simp only[vW,seval];refine z6 B ?_;simp only[vW,seval];refine zc ⟨1,by decide⟩ (by show 4-1<4-0;decide) ?_;apply z0l<;>simp[leL,lk,sv,Nat.beq,I,S,ES.kill,has,drp,zM,w1]
   ·obtain⟨A,B⟩:=CK (z3L hg) Y1;simp only[vW,seval];refine z6 A ?_;simp only[vW,seval];refine z6 B ?_;simp only[vW,seval];refine zc ⟨2,by decide⟩ (by show 4-2<4-1;decide) ?_;apply z0l<;>simp[leL,lk,sv,Nat.beq,I,S,ES.kill,has,drp,zM,w2]
   ·obtain⟨A,B⟩:=CK (z3L hg) Y2;simp only[vW,seval];refine z6 A ?_;simp only[vW,seval];refine z6 B ?_;simp only[vW,seval];refine zc ⟨3,by decide⟩ (by show 4-3<4-2;decide) ?_;apply z0l<;>simp[leL,lk,sv,Nat.beq,I,S,ES.kill,has,drp,zM,w3]
   ·obtain⟨A,B⟩:=CK (z3L hg) Y3;simp only[vW,seval];refine z6 A ?_;simp only[vW,seval];refine z6 B ?_;simp only[vW,seval];refine zc ⟨4,by decide⟩ (by show 4-4<4-3;decide) ?_;apply z0l<;>simp[leL,lk,sv,Nat.beq,I,S,ES.kill,has,drp,zM,w4]
   ·simp only[vW,seval];refine zc ⟨1,by decide⟩ (by show 2-1<2-0;decide) ?_;apply z0l<;>simp[leL,lk,sv,Nat.beq,I,S,ES.kill,has,drp,zM,w1]
  ·simp only[vW,seval,wL];refine⟨⟨by omega,by unfold maxLen;omega⟩,⟨by omega,by unfold maxLen;omega⟩,?_⟩;refine z6 HP ?_;simp only[vW,seval,eA,eT];refine⟨⟨by omega,hj0⟩,?_⟩;refine zE (σ:={j:Nat // j≤4}) (fun j=>⟨[(3,I at_),(9,.ptr 9 0),(11,.pv (.v (.bool true))),(13,.pv (.sl 4 (V.rows vals))),(14,.pv (.sl 4 (V.rows T))),(16,.ptr 16 0),(55,.pv (.sl 2 [[.v (.string (str c.n)),.sl 4 (flR c.fs)],[.v (.string (str (z1e o).n)),.sl 4 (flR (z1e o).fs)]])),(56,I 2),(57,I 1),(75,.pv (.sl 1 [[.sl 4 (V.rows vals)],[.sl 4 (V.rows T)],[.sl 4 (V.rows (vals++[u]))],[.sl 4 (V.rows (vals.take j0))]])),(76,I 4),(77,I (j.1:Int))],
    [(9,[I u.k,I u.n,S (str u.s),.pv (.sl 4 (V.rows u.l))]),(16,[S (str (z1e o).n),.pv (.sl 4 (flR (z1e o).fs))])],[],[]⟩) (fun j=>4-j.1) ⟨0,by decide⟩ ?_ ?_
   ·exact lwA
   rintro⟨j,hj⟩;have hj:j=0∨j=1∨j=2∨j=3∨j=4:=by omega
   rcases hj with rfl|rfl|rfl|rfl|rfl
   ·obtain⟨A,B⟩:=CK (z3G o) Y0;simp only[vW,seval];refine z6 A ?_;simp only[vW,seval];refine z6 B ?_;simp only[vW,seval];refine zc ⟨1,by decide⟩ (by show 4-1<4-0;decide) ?_;apply z0l<;>simp[leL,lk,sv,Nat.beq,I,S,ES.kill,has,drp,zM,w1]
   ·obtain⟨A,B⟩:=CK (z3G o) Y1;simp only[vW,seval];refine z6 A ?_;simp only[vW,seval];refine z6 B ?_;simp only[vW,seval];refine zc ⟨2,by decide⟩ (by show 4-2<4-1;decide) ?_;apply z0l<;>simp[leL,lk,sv,Nat.beq,I,S,ES.kill,has,drp,zM,w2]
   ·obtain⟨A,B⟩:=CK (z3G o) Y2;simp only[vW,seval];refine z6 A ?_;simp only[vW,seval];refine z6 B ?_;simp only[vW,seval];refine zc ⟨3,by decide⟩ (by show 4-3<4-2;decide) ?_;apply z0l<;>simp[leL,lk,sv,Nat.beq,I,S,ES.kill,has,drp,zM,w3]
   ·obtain⟨A,B⟩:=CK (z3G o) Y3;simp only[vW,seval];refine z6 A ?_;simp only[vW,seval];refine z6 B ?_;simp only[vW,seval];refine zc ⟨4,by decide⟩ (by show 4-4<4-3;decide) ?_;apply z0l<;>simp[leL,lk,sv,Nat.beq,I,S,ES.kill,has,drp,zM,w4]
   ·simp only[vW,seval];refine zc ⟨2,by decide⟩ (by show 2-2<2-1;decide) ?_;apply z0l<;>simp[leL,lk,sv,Nat.beq,I,S,ES.kill,has,drp,zM,w2]
  ·simp only[vW,seval]
end
end Go.Proofs.YtcpaleaajdilgaaDoor
end

section
namespace Go.Proofs.YtcpaleaajdilgaaDoor.ClassChecks
open Go.ChangeShapes Go.WideShapes Go.ChangeAt Go.RowKit Go.Lib Go.Mor Go.Deep Go.Joins
open Go.ChangeMaps (open_string shut_string)
theorem z4t(a0 a1:Addr)(W:World)(x0:Raw)(x0v:Value)(x1:Cls)(x1v:Value)(x2:List Int)(x2v:Value)(x3:Int)(x4:V)(x4v:Value)(hx0:RawOk x0)(rx0:∀r,Go.Sh.RelT W (z0e W) r (z4m x0) x0v)(hx1:x1.fs.length≤9223372036854775807)(rx1:∀r,Go.Sh.RelT W (z0e W) r (clT x1) x1v)(hx2:x2.length≤9223372036854775807)(rx2:∀r,Go.Sh.RelT W (z0e W) r (.pv (.sl 1 (iiR x2))) x2v)(hx3:I64 x3)(hx4:x4.s.length≤9223372036854775807)(rx4:∀r,Go.Sh.RelT W (z0e W) r (.agg [.pv (.v (.int .i64 x4.k)),.pv (.v (.int .i64 x4.n)),.pv (.v (.string (str x4.s))),.unk]) x4v)(hG:(gl a0 a1 W.heap.size).G W):
  Calls Tryd.prog 3 #[x0v,x1v,x2v,.int .i64 x3,x4v] W fun e w'=>e=.returned (.bool true)∧Below W.heap.size W w':=
 z6I (vs:=[x0v,x1v,x2v,.int .i64 x3,x4v]) (z51 a0 a1 W.heap.size x0 x1 x2 x3 x4 hx0 hx1 hx2 hx3 hx4) hG rfl (fun j q u hq hu=>by
  match j with
  |0=>simp at hq hu;subst hq;subst hu;exact rx0 _
  |1=>simp at hq hu;subst hq;subst hu;exact rx1 _
  |2=>simp at hq hu;subst hq;subst hu;exact rx2 _
  |3=>simp at hq hu;subst hq;subst hu;exact .pv (.v _)
  |4=>simp at hq hu;subst hq;subst hu;exact rx4 _
  |j+5=>simp at hq)
theorem z6Z(os:Os){H:Type}(enc:TypeId×Value→H):
  (OpenSpec.ofChange Rows.classChecksSpec).preRow enc Tryd.prog Tryd.f3 Rows.classChecksRow.domain false Rows.classChecksRow.laid ((z2d os).forCall (fun _ _=>0) ⟨#[],#[.agg #[.int .i64 0,.slice none 0 0],.agg #[.string ⟨#[]⟩,.slice none 0 0],.slice none 0 0,.int .i64 0,.agg #[.int .i64 0,.int .i64 0,.string ⟨#[]⟩,.slice none 0 0]],[]⟩).memory #[.agg #[.int .i64 0,.slice none 0 0],.agg #[.string ⟨#[]⟩,.slice none 0 0],.slice none 0 0,.int .i64 0,.agg #[.int .i64 0,.int .i64 0,.string ⟨#[]⟩,.slice none 0 0]]:=by
 have hw:(DataW.whole enc Tryd.prog ((z2d os).forCall (fun _ _=>0) ⟨#[],#[.agg #[.int .i64 0,.slice none 0 0],.agg #[.string ⟨#[]⟩,.slice none 0 0],.slice none 0 0,.int .i64 0,.agg #[.int .i64 0,.int .i64 0,.string ⟨#[]⟩,.slice none 0 0]],[]⟩).memory Tryd.f3.params.toList Rows.classChecksSpec.vars false (#[.agg #[.int .i64 0,.slice none 0 0],.agg #[.string ⟨#[]⟩,.slice none 0 0],.slice none 0 0,.int .i64 0,.agg #[.int .i64 0,.int .i64 0,.string ⟨#[]⟩,.slice none 0 0]]:Array Value).toList 8).map (fun x=>(x.1,x.2.1))=
   some ([.agg [.lit (.int .i64 0),.nil],.agg [.lit (.string []),.nil],.nil,.lit (.int .i64 0),.agg [.lit (.int .i64 0),.lit (.int .i64 0),.lit (.string []),.nil]],[]):=by kernel_rfl
 obtain⟨⟨x1,x2,x3⟩,hx,hx1⟩:=gO hw;simp only[Prod.mk.injEq]at hx1;obtain⟨rfl,rfl⟩:=hx1;exact OpenSpec.preRow_of_cond 8 hx (by kernel_rfl) (fun k hk=>by cases hk) (by kernel_rfl) (z7L os _)
theorem zb2(os:Os)(started:os.Started)(H:Type)(enc:TypeId×Value→H)(F:Stop.Interp):
  ReturnsInHanded {} Tryd.checked os 3 .any ((OpenSpec.ofChange Rows.classChecksSpec).preRow enc Tryd.prog Tryd.f3 Rows.classChecksRow.domain false Rows.classChecksRow.laid) (((OpenSpec.ofChange Rows.classChecksSpec).at F).post enc Tryd.prog Tryd.f3 false true false false):=by
 refine returnsInHanded_of_row (C:=Tryd.checked) (s:=(OpenSpec.ofChange Rows.classChecksSpec)) own started (by kernel_rfl) Tryd.func3
  (witness_row_atRef (enc:=enc) (C:=Tryd.checked) false (z2d os) #[.agg #[.int .i64 0,.slice none 0 0],.agg #[.string ⟨#[]⟩,.slice none 0 0],.slice none 0 0,.int .i64 0,.agg #[.int .i64 0,.int .i64 0,.string ⟨#[]⟩,.slice none 0 0]] rfl (by kernel_rfl) (by kernel_rfl) (by kernel_rfl) (z6Z os enc)) ?_
 intro W base args ds gs before hval0 hW _ hcond _ hL hsh _;have hval:∀(j:Nat) t v,Tryd.f3.params[j]?=some t→args[j]?=some v→Value.okWide Tryd.prog W .any base t v:=hval0;have hW':DataW.Whole enc Tryd.prog Tryd.f3.params.toList Rows.classChecksSpec.vars false W args.toList ds gs before:=hW;obtain⟨p,q,hA0,hV0,rfl,_,_⟩:=hW;have hA:DataW.TrodAll enc Tryd.prog W 0 (fun _=>true) true Tryd.f3.params.toList args.toList ds p:=hA0;rw[Tryd.params3]at hA hval;obtain⟨rfl,rfl⟩:=trodVars_none hV0;clear hA0 hV0 hval0;obtain⟨a0,a1,hG⟩:=z55 hL hsh;obtain⟨v0,vs0,d0,ds0,p0,q0,hargs,rfl,rfl,h0,r0⟩:=trodAll_cons hA;obtain⟨v1,vs1,d1,ds1,p1,q1,rfl,rfl,rfl,h1,r1⟩:=trodAll_cons r0;obtain⟨v2,vs2,d2,ds2,p2,q2,rfl,rfl,rfl,h2,r2⟩:=trodAll_cons r1;obtain⟨v3,vs3,d3,ds3,p3,q3,rfl,rfl,rfl,h3,r3⟩:=trodAll_cons r2;obtain⟨v4,vs4,d4,ds4,p4,q4,rfl,rfl,rfl,h4,r4⟩:=trodAll_cons r3;obtain⟨rfl,rfl,rfl⟩:=trodAll_nil r4;obtain rfl:args= #[v0,v1,v2,v3,v4]:=by cases args;simp_all
 obtain⟨x0,hx0,rx0⟩:=z8O (hval 0 _ v0 rfl rfl) h0;obtain⟨x1,hx1,rx1⟩:=z9C (hval 1 _ v1 rfl rfl) h1;obtain⟨x2,_,hx2,rx2⟩:=z8N Tryd.underlying28 Tryd.underlying3 (by kernel_rfl) (hval 2 _ v2 rfl rfl) h2;obtain⟨x3,rfl,rfl,rfl,wx3⟩:=open_int Tryd.underlying3 (hval 3 _ v3 rfl rfl) h3;obtain⟨x4,hx4,rx4⟩:=z9F (hval 4 _ v4 rfl rfl) h4;have hc:=z4t a0 a1 W x0 v0 x1 v1 x2 v2 x3 x4 v4 hx0 rx0 hx1.2.2 rx1 hx2 rx2 (bounds_i64 wx3) hx4.2.2 rx4 hG;refine(hc).mono ?_;rintro e W' ⟨rfl,hb⟩;exact⟨_,rfl,zbB 3 Tryd.f3 Rows.classChecksSpec rfl (by kernel_rfl) (by kernel_rfl) rfl hW' hb⟩
set_option maxHeartbeats 0 in
theorem zaS:joinedFacts Tryd.pinned.checked.prog 3 Tryd.f3 (OpenSpec.ofChange Rows.classChecksSpec).bare Rows.classChecksRow=true:=by
 unfold joinedFacts
 repeat' (with_reducible refine Bool.and_eq_true_iff.2 ⟨?_,?_⟩)
 all_goals(as_aux_lemma=>kernel_rfl)
theorem zbM:Rows.ClassChecksSaid:=
 OpenClaim.holds_of_cond 3 Tryd.f3 rfl rfl rfl rfl rfl rfl rfl ⟨rfl,rfl,rfl,rfl,rfl⟩ rfl rfl rfl rfl rfl (by kernel_rfl) Tryd.func3 zaS
  (of_decide_eq_true (by kernel_rfl)) (by unfold Func.isWrapper;rw[if_neg (of_decide_eq_false (by kernel_rfl))];exact⟨rfl,rfl⟩)
  (fun os started H enc _ F=>by rw[OpenClaim.pre_eq_preRow];exact zb2 os started H enc F)
end Go.Proofs.YtcpaleaajdilgaaDoor.ClassChecks
end
