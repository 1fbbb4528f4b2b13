/- Merged texts: S26 Zg2 PrT PrE Zw1 Zy2 Zg3 RegIn Zg4 S23. No statement of the program is proved here. -/
import Derived.Test.YtpmlapgbmgbilaaGreatDoorR19
import Derived.Lib.SmallJoins
import Derived.Lib.ItoaMem
import Derived.Shelf.Strconv.AtoiAll
import Derived.StillTailTactics
import Derived.TacticsIn
import Derived.RangeFuncCalls
import Derived.Lib.AtoiAllCases
import Derived.Lib.AtoiErrMem
import Derived.RangeFuncWrites
set_option linter.unusedSimpArgs false
set_option linter.unusedVariables false
set_option maxRecDepth 100000
set_option maxHeartbeats 8000000
section
namespace Go.Sh
open Go Go.RowKit
def z3o:Nat→Nat→List TV
 |_,0=>[]
 |d,n+1=> .ptr d 0::z3o (d+1) n
theorem zfT:∀(n d j:Nat),j<n→(z3o d n)[j]?=some (.ptr (d+j) 0)
 |0,d,j,h=>by omega
 |n+1,d,0,_=>rfl
 |n+1,d,j+1,h=>by
  rw[z3o,List.getElem?_cons_succ,zfT n (d+1) j (by omega)]
  grind
theorem zfU:∀(n d:Nat),(z3o d n).length=n
 |0,_=>rfl
 |n+1,d=>by rw[z3o,List.length_cons,zfU n (d+1)]
theorem SCalls.frz{P:Program}{g:Glob}{f:Nat}{xs:List TV}{k:Fn}{pss:List (List PV)}(h:SCalls P g f xs [] (.fn k [] (z3o 1000 pss.length)) (pss.map fun ps=> .box (ps.map .pv))):SCalls P g f xs [] (.pv (.fn k [] (pss.map .el))) []:=by
 refine⟨h.1,fun w E vs hG hm hX hl hr=>(h.2 w E vs hG hm hX hl hr).mono ?_⟩;rintro e w' ⟨v,E',h1,h2,h3,h4⟩;have hob:∀(j:Nat) ps,pss[j]?=some ps→z0q (pss.map fun ps=>MO.box (ps.map TV.pv)) (1000+j)=some (ps.map TV.pv):=fun j ps hj=>by
  grind [z0q,Nat.add_sub_cancel_left]
 let K':Nat→Nat→Prop:=fun b o=>E'.K b o∨∃(j:Nat) (ps:List PV),pss[j]?=some ps∧b=E'.β (1000+j)∧o<ps.length
 have hk:∀b o u,E'.K b o→w'.cell? ⟨b,o,none⟩=some u→K' b o∧w'.cell? ⟨b,o,none⟩=some u:=fun b o u h1 h2=>⟨.inl h1,h2⟩
 have ho:∀d,¬(start w E [] 0).old d:=fun d h=>by have h1:=h.1;have h2:d<1000+0:=h.2;omega
 refine⟨v,{ E' with K:=K' },h1,⟨fun d cs hd=> ?_,fun d e W n hd=> ?_,fun d d' cs cs' hd=> ?_,fun d d' cs q k cap hd=> ?_,fun d d' q q' k cap cap' hd=> ?_,fun k o hko=> ?_,h2.low,fun k o u a1 a2=>⟨.inl (h2.keep k o u a1 a2).1,(h2.keep k o u a1 a2).2⟩,fun k o hko=> ?_,⟨fun d hd=>absurd hd (ho d),fun d hd=>absurd hd (ho d),fun d e W n hd=>absurd hd (ho d)⟩⟩,?_,⟨fun d h1 h2=> ?_,fun d h1 h2=> ?_,fun d e W n hd=> ?_⟩⟩
 ·simp[z0q]at hd
 ·simp[zA]at hd
 ·simp[z0q]at hd
 ·simp[z0q]at hd
 ·simp[zA]at hd
 ·rcases hko with hko|⟨j,ps,hj,rfl,_⟩
  ·exact h2.lt k o hko
  ·exact(h2.box _ _ (hob j ps hj)).1.lt
 ·rcases hko with hko|⟨j,ps,hj,rfl,_⟩
  ·exact h2.knew k o hko
  ·rcases(h2.box _ _ (hob j ps hj)).2 with h5|h5<;>grind
 ·cases h3 with
  |fn _ _ _ us us' e1 e2 r1 r2=>
   have hus:us=[]:=List.eq_nil_of_length_eq_zero e1.symm;subst hus;rw[zfU]at e2;refine .pv (.fn k [] (pss.map .el) [] us' rfl (by grind) (fun j c v hc=>by simp at hc) (fun j c u hc hu=> ?_));rw[List.getElem?_map]at hc;obtain⟨ps,hps,rfl⟩:=gO hc;have hjl:j<pss.length:=(gJ hps).1;have hrel:=r2 j _ u (zfT pss.length 1000 j hjl) hu;cases hrel;obtain⟨hbx,_⟩:=h2.box _ _ (hob j ps hps);have hcell:∀(i:Nat) c,ps[i]?=some c→∃v,w'.cell? ⟨E'.β (1000+j),i,none⟩=some v∧one v∧RelV w' E'.K c v:=fun i c hi=>by
    obtain⟨v,c1,c2,c3⟩:=hbx.cell i (.pv c) (by grind);cases c3 with|pv c3=>exact⟨v,c1,c2,c3⟩
   refine .el ps (E'.β (1000+j)) 0 (fun i=>(w'.cell? ⟨E'.β (1000+j),i,none⟩).getD undef) (fun i c hi=> ?_) (fun i c hi=> ?_)
   ·grind
   ·obtain⟨v,c1,c2,c3⟩:=hcell i c hi;rw[c1];exact c3.mono hk
 ·grind
 ·grind
 ·simp[zA]at hd
end Go.Sh
end

section
namespace Go.Proofs.YtpmlapgbmgbilaaGreatDoor
open Go Go.RowKit Go.Mor Go.Sh
section
open Go.Sh.Cd1 Go.Sh.Cd6
def tyP(t:Ty):List PV:=[.v (.int .i64 t.k),.v (.int .i64 t.o)]
def tyC(ps:List Ty):List TV:=pvC (ps.flatMap tyP)
def inR(l:List Int):List (List PV):=l.map fun n=>[.v (.int .i64 n)]
def tyB(r:Ty×Bool):TV:=.tuple [tyT r.1,B r.2]
theorem zj1{ps:List Ty}{i:Nat}{t:Ty}(h:ps[i]?=some t):List.take 2 (List.drop (i*2) (tyC ps))=[I t.k,I t.o]:=by
 induction ps generalizing i with
 |nil=>simp at h
 |cons p ps ih=>
  cases i with
  |zero=>simp at h;subst h;rfl
  |succ i=>
   have:=ih (i:=i) (by simpa using h);rw[←this];show List.take 2 (List.drop ((i+1)*2) (I p.k::I p.o::tyC ps))=_;rw[show(i+1)*2=i*2+2 by omega];rfl
theorem zij(ps:List Ty):(tyC ps).length=ps.length*2:=by
 induction ps with
 |nil=>rfl
 |cons p ps ih=>
  show(I p.k::I p.o::tyC ps).length=_;simp[ih];omega
theorem zih(ids:List Nat)(ps:List Ty):List.map (fgt3 ids) (tyC ps)=tyC ps:=z9X ids _
theorem zii(ps:List Ty):List.flatMap TV.ids1 (tyC ps)=[]:=z9Y _
theorem zik(ρ:Nat→Option Nat)(ps:List Ty):seqO (TV.ren1 ρ) (tyC ps)=some (tyC ps):=z9Z ρ _
theorem zpi(l:List Int)(k:Nat):(inR l)[k]?=(l[k]?).map fun n=>[.v (.int .i64 n)]:=by unfold inR;rw[List.getElem?_map]
theorem zpj(l:List Int):(inR l).length=l.length:=by unfold inR;rw[List.length_map]
theorem tyV:(type_of% @zih)∧(type_of% @zii)∧(type_of% @zik)∧(type_of% @zij)∧(type_of% @zpi)∧(type_of% @zpj)∧(type_of% @tyB.eq_1)∧(type_of% @B.eq_1):=⟨@zih,@zii,@zik,@zij,@zpi,@zpj,@tyB.eq_1,@B.eq_1⟩
def z09(k:Int)(ks:List Int):TV:=.pv (.fn (.func 216) [] [.el [.sl 1 (inR ks)],.el [.v (.int .i64 k)]])
theorem z2p(g:Sh.Glob)(k:Int)(ks:List Int):zC g 183 [I k,.pv (.sl 1 (inR ks))] [] (z09 k ks) []:=by
 refine SCalls.frz (pss:=[[.sl 1 (inR ks)],[.v (.int .i64 k)]]) ?_;refine zi9 tf_95 ?_;rfl
theorem z1n(g:Sh.Glob)(k:Int)(ks:List Int)(ps:List Ty)(hl:ps.length=ks.length)(h60:ps.length≤60):zC g 216 [.bs 1000 0 ps.length ps.length,.pv (.el [.sl 1 (inR ks)]),.pv (.el [.v (.int .i64 k)])] [.box (tyC ps)] (tyB (zG k ks ps)) [.box (tyC ps)]:=by
 obtain⟨R,hR⟩:∃R,zG k ks ps=R:=⟨_,rfl⟩
 rw[hR];refine zj tf_96 ?_;simp only[vW,seval,tyV];refine zk (σ:={i:Nat // i≤ps.length∧(if z2h (ps.drop i) (ks.drop i)then((⟨k,0⟩:Ty),true)else(ty0,false))=R}) (fun i=>⟨[(1,.pv (.el [.sl 1 (inR ks)])),(2,.pv (.el [.v (.int .i64 k)])),(8,.bs 1000 0 ps.length ps.length),(9,I (ps.length:Int)),(10,I (i.1:Int)),(4,.ptr 4 0)],[(1000,tyC ps),(4,[I 0,I 0])],[],[]⟩) (fun i=>ps.length-i.1) ⟨0,Nat.zero_le _,hR⟩ ?_ ?_
 ·exact lwA
 rintro⟨i,hi,hT⟩;by_cases hlt:i<ps.length
 ·have d1:(i:Int)<(ps.length:Int):=by omega
  obtain⟨t,et⟩:∃t,ps[i]?=some t:=⟨_,gE hlt⟩
  obtain⟨q,eq⟩:∃q,ks[i]?=some q:=⟨_,gE (by omega)⟩
  have w1:=wS i;have hdr:ps.drop i=t::ps.drop (i+1):=by
   rw[List.drop_eq_getElem_cons hlt];congr 1;rw[gE hlt]at et;exact Option.some.inj et
  have hdk:ks.drop i=q::ks.drop (i+1):=by
   rw[List.drop_eq_getElem_cons (show i<ks.length by omega)];congr 1;rw[gE (show i<ks.length by omega)]at eq;exact Option.some.inj eq
  rw[hdr,hdk,z2h]at hT;have f2:=zj1 et;by_cases h:t.k=q
  ·have hb:(t.k==q)=true:=by simpa using h
   rw[hb,Bool.true_and]at hT;simp only[vW,seval,tyV,d1,f2,eq,h,w1];refine⟨by omega,zc ⟨i+1,hlt,hT⟩ (by show ps.length-(i+1)<ps.length-i;omega) ?_⟩;exact lwA
  ·have hb:(t.k==q)=false:=by simpa using h
   rw[hb,Bool.false_and,if_neg (by decide)]at hT;simp only[vW,seval,tyV,d1,f2,eq,h];refine⟨by omega,?_⟩;rw[←hT];rfl
 ·have d1:¬(i:Int)<(ps.length:Int):=by omega
  have hdr:ps.drop i=[]:=List.drop_eq_nil_of_le (by omega);rw[hdr,z2h,if_pos rfl]at hT;simp only[vW,seval,tyV,d1];rw[←hT]
theorem zbh:∃f g:Field,(Tryz.prog.fieldsOf 27).toList=[f,g]∧f.name≠ "_" ∧g.name≠ "_" ∧(∀a b:Int,zq Tryz.prog (part f.type #[.int .i64 a,.int .i64 b] f.offset)=some (.int .i64 a))∧(∀a b:Int,zq Tryz.prog (part g.type #[.int .i64 a,.int .i64 b] g.offset)=some (.int .i64 b))∧
  (∀(n:Nat) (a c:Int),zq Tryz.prog (Op.equalIn (n+1) f.type (.int .i64 a) (.int .i64 c))=some (a==c))∧(∀(n:Nat) (a c:Int),zq Tryz.prog (Op.equalIn (n+1) g.type (.int .i64 a) (.int .i64 c))=some (a==c)):=by
 refine⟨(Tryz.prog.fieldsOf 27).toList.getD 0 default,(Tryz.prog.fieldsOf 27).toList.getD 1 default,by kernel_rfl,?_,?_,fun a b=>by kernel_rfl,fun a b=>by kernel_rfl,fun n a c=>by kernel_rfl,fun n a c=>by kernel_rfl⟩
 ·exact of_decide_eq_true (by kernel_rfl)
 ·exact of_decide_eq_true (by kernel_rfl)
theorem z5d(a b c d:Int):z05 Tryz.prog (do eqGuard .eql 27 (.const (.agg #[.int .i64 a,.int .i64 b])) (.const (.agg #[.int .i64 c,.int .i64 d])) (.agg #[.int .i64 a,.int .i64 b]) (.agg #[.int .i64 c,.int .i64 d]);binOp .eql 27 (.agg #[.int .i64 a,.int .i64 b]) (.agg #[.int .i64 c,.int .i64 d]))=
  some (.pv (.v (.bool (z0g ⟨a,b⟩ ⟨c,d⟩))),.no):=by
 unfold z05;rw[z02];have hg:zq Tryz.prog (eqGuard .eql 27 (.const (.agg #[.int .i64 a,.int .i64 b])) (.const (.agg #[.int .i64 c,.int .i64 d])) (.agg #[.int .i64 a,.int .i64 b]) (.agg #[.int .i64 c,.int .i64 d]))=some ():=by kernel_rfl
 rw[hg,Option.bind_some];have hb:binOp .eql 27 (.agg #[.int .i64 a,.int .i64 b]) (.agg #[.int .i64 c,.int .i64 d])=(Op.equal 27 (.agg #[.int .i64 a,.int .i64 b]) (.agg #[.int .i64 c,.int .i64 d])>>=fun r=>pure (.bool r)):=rfl;rw[hb,z02];have he:zq Tryz.prog (Op.equal 27 (.agg #[.int .i64 a,.int .i64 b]) (.agg #[.int .i64 c,.int .i64 d]))=some (z0g ⟨a,b⟩ ⟨c,d⟩):=by
  unfold Op.equal;obtain⟨n,hn⟩:∃n,Op.maxDepth=n+1+1:=⟨_,rfl⟩
  rw[hn,z2q _ _ _ _ (by kernel_rfl) (by kernel_rfl)];obtain⟨f,g,hl,nf,ng,pf,pg,ef,eg⟩:=zbh;rw[hl];simp only[Op.eqFields,nf,ng,ne_eq,not_false_eq_true,if_true,z02,pf,pg,ef,eg,Option.bind_some];unfold z0g;cases h:(a==c)
  ·simp[h,z2a]
  ·cases h2:(b==d)<;>simp[h,h2,z2a,z02,pg,eg,ng]
 rw[he];rfl
theorem zks(g:Sh.Glob)(a b:Ty):zC g 221 [.bs 1000 0 2 2] [.box (tyC [a,b])] (B (z1S a b)) [.box (tyC [a,b])]:=by
 have e:tyC [a,b]=[I a.k,I a.o,I b.k,I b.o]:=rfl;rw[e];unfold z1S;refine zj tf_72 ?_;obtain⟨ak,ao⟩:=a;obtain⟨bk,bo⟩:=b;simp only;cases h:z0g ⟨ak,ao⟩ ⟨bk,bo⟩
 ·simp only[vW,seval,tyV,z5d,h]
 ·by_cases h1:ak=1
  ·subst h1;simp only[vW,seval,tyV,z5d,h]
  ·have hb:(ak==1)=false:=by simpa using h1
   have hc:decide (ak=2)=(ak==2):=by rw[Bool.eq_iff_iff];simp
   simp only[vW,seval,tyV,z5d,h,h1,hb,hc]
theorem zkt(g:Sh.Glob)(c a b:Ty):zC g 221 [.bs 1000 2 2 2] [.box (tyC [c,a,b])] (B (z1S a b)) [.box (tyC [c,a,b])]:=by
 have e:tyC [c,a,b]=[I c.k,I c.o,I a.k,I a.o,I b.k,I b.o]:=rfl;rw[e];unfold z1S;refine zj tf_72 ?_;obtain⟨ak,ao⟩:=a;obtain⟨bk,bo⟩:=b;simp only;cases h:z0g ⟨ak,ao⟩ ⟨bk,bo⟩
 ·simp only[vW,seval,tyV,z5d,h]
 ·by_cases h1:ak=1
  ·subst h1;simp only[vW,seval,tyV,z5d,h]
  ·have hb:(ak==1)=false:=by simpa using h1
   have hc:decide (ak=2)=(ak==2):=by rw[Bool.eq_iff_iff];simp
   simp only[vW,seval,tyV,z5d,h,h1,hb,hc]
theorem zkB(g:Sh.Glob)(a b c:Ty):zC g 198 [.bs 1000 0 3 3] [.box (tyC [a,b,c])] (tyB (z2m [a,b,c])) [.box (tyC [a,b,c])]:=by
 have HA:=zkt g a b c;have e:tyC [a,b,c]=[I a.k,I a.o,I b.k,I b.o,I c.k,I c.o]:=rfl;have hu:z2m [a,b,c]=if a.k=1∧z1S b c=true then(b,true)else(ty0,false):=rfl
 rw[e]at HA ⊢;rw[hu];refine zj tf_84 ?_;unfold B at HA;obtain⟨ak,ao⟩:=a;simp only at HA ⊢;by_cases h1:ak=1
 ·subst h1;simp only[vW,seval,tyV];refine z7 HA ?_;cases h2:z1S b c
  ·simp only[vW,seval,tyV];simp[ty0]
  ·simp only[vW,seval,tyV]
 ·rw[if_neg (fun h=>h1 h.1)];simp only[vW,seval,tyV,h1];rfl
theorem zob(g:Sh.Glob)(a b:Ty):zC g 222 [.bs 1000 0 2 2] [.box (tyC [a,b])] (tyB (⟨1,0⟩,z1S a b)) [.box (tyC [a,b])]:=by
 have HA:=zks g a b;have e:tyC [a,b]=[I a.k,I a.o,I b.k,I b.o]:=rfl;rw[e]at HA ⊢;refine zj tf_91 ?_;unfold B at HA;simp only[vW,seval,tyV];refine z7 HA ?_;simp only[vW,seval,tyV]
def zju(s:zB):TV:=if s=[43]∨s=[45]∨s=[42]∨s=[47]∨s=[37] then z09 1 [1,1] else if s=[38] then z09 2 [2,2] else .pv (.v (.func (.func 222) #[] #[]))
theorem in2(a b:Int):inR [a,b]=[[.v (.int .i64 a)],[.v (.int .i64 b)]]:=rfl
theorem zh0(g:Sh.Glob)(s:zB):zC g 202 [S (str s)] [] (zju s) []:=by
 have H1:=z2p g 1 [1,1];have H2:=z2p g 2 [2,2];have q1:=bS [43];have q2:=bS [45];have q3:=bS [42];have q4:=bS [47];have q5:=bS [37];have q6:=bS [38];have hb:∀a b:zB,a≠b→(a==b)=false:=fun a b h=>by simpa using h
 unfold zju;unfold z09 at*;refine za tf_90 ?_;by_cases h1:s=[43]
 ·subst h1;simp only[vW,seval,q1];(with_reducible apply zF);simp only[vW,seval,in2];rfl;rfl;exact H1;exact km;simp only[vW,seval,in2];rfl;simp only[vW,seval];rfl
 have d1:=hb _ _ h1;by_cases h2:s=[45]
 ·subst h2;simp only[vW,seval,q1,q2,d1];(with_reducible apply zF);simp only[vW,seval,in2];rfl;rfl;exact H1;exact km;simp only[vW,seval,in2];rfl;simp only[vW,seval];rfl
 have d2:=hb _ _ h2;by_cases h3:s=[42]
 ·subst h3;simp only[vW,seval,q1,q2,q3,d1,d2];(with_reducible apply zF);simp only[vW,seval,in2];rfl;rfl;exact H1;exact km;simp only[vW,seval,in2];rfl;simp only[vW,seval];rfl
 have d3:=hb _ _ h3;by_cases h4:s=[47]
 ·subst h4;simp only[vW,seval,q1,q2,q3,q4,d1,d2,d3];(with_reducible apply zF);simp only[vW,seval,in2];rfl;rfl;exact H1;exact km;simp only[vW,seval,in2];rfl;simp only[vW,seval];rfl
 have d4:=hb _ _ h4;by_cases h5:s=[37]
 ·subst h5;simp only[vW,seval,q1,q2,q3,q4,q5,d1,d2,d3,d4];(with_reducible apply zF);simp only[vW,seval,in2];rfl;rfl;exact H1;exact km;simp only[vW,seval,in2];rfl;simp only[vW,seval];rfl
 have d5:=hb _ _ h5;rw[if_neg (by simp[h1,h2,h3,h4,h5])];by_cases h6:s=[38]
 ·subst h6;simp only[vW,seval,q1,q2,q3,q4,q5,q6,d1,d2,d3,d4,d5];(with_reducible apply zF);simp only[vW,seval,in2];rfl;rfl;exact H2;exact km;simp only[vW,seval,in2];rfl;simp only[vW,seval];rfl
 have d6:=hb _ _ h6;rw[if_neg h6];simp only[vW,seval,q1,q2,q3,q4,q5,q6,d1,d2,d3,d4,d5,d6]
end
structure GlobT(w:World):Prop where
 tab:Lib.TabIs Tryz.prog w "internal/strconv.uint64pow10" .u64 Lib.pow10Tab
 mx:∃k,w.cell? ⟨4,0,none⟩=some (.int .i64 k)
theorem zan:Tryz.prog.globalNamed "internal/strconv.uint64pow10" =some 5:=by kernel_rfl
theorem zsi{P:Program}{w w':World}{n g:Nat}{nm:String}{k:IntKind}{zs:List Int}(hg:P.globalNamed nm=some g)(hn:g<n)(h:Lib.TabIs P w nm k zs)(hk:∀k,k<n→w'.heap[k]?=w.heap[k]?):Lib.TabIs P w' nm k zs:=by
 unfold Lib.TabIs World.var? at*;rw[hg]at*;simp only[Option.bind_some]at*;rw[hk g hn];exact h
theorem zfj{w w':World}{n:Nat}(hv:10≤n)(h:GlobT w)(hk:∀k,k<n→w'.heap[k]?=w.heap[k]?):GlobT w':=by
 refine⟨zsi zan (by omega) h.tab hk,?_⟩;obtain⟨k,h0⟩:=h.mx;exact⟨k,by rw[World.cell?_of_block (w:=w) (hk _ (show 4<n by omega))];exact h0⟩
structure GlobNT(n:Nat)(w:World):Prop extends GlobN0 n w where
 t:GlobT w
def glT(n:Nat):Sh.Glob where
 G:=GlobNT n
 n:=n
 st:=fun w w' h hk=>⟨⟨zaN h.hv h.u hk,zcX h.sz hk,h.hv⟩,zfj h.hv h.t hk⟩
 le:=fun w h=>h.sz
theorem zt5{m f:Nat}{xs:List TV}{os:List MO}{y:TV}{os':List MO}(h:zC (gl0 m) f xs os y os'):zC (glT m) f xs os y os':=
 za3 (g:=gl0 m) (g':=glT m) rfl (fun w (hG:GlobNT m w)=>hG.toGlobN0) h
structure GlobE(w:World):Prop where
 sy:∃t p,w.cell? ⟨6,0,none⟩=some (.iface t p)
 rg:∃t p,w.cell? ⟨7,0,none⟩=some (.iface t p)
theorem zfi{w w':World}{n:Nat}(hv:10≤n)(h:GlobE w)(hk:∀k,k<n→w'.heap[k]?=w.heap[k]?):GlobE w':=by
 obtain⟨⟨t,p,h1⟩,⟨t',p',h2⟩⟩:=h;exact⟨⟨t,p,by rw[World.cell?_of_block (w:=w) (hk _ (show 6<n by omega))];exact h1⟩,⟨t',p',by rw[World.cell?_of_block (w:=w) (hk _ (show 7<n by omega))];exact h2⟩⟩
structure GlobNE(n:Nat)(w:World):Prop extends GlobNT n w where
 e:GlobE w
def glE(n:Nat):Sh.Glob where
 G:=GlobNE n
 n:=n
 st:=fun w w' h hk=>⟨(glT n).st w w' h.toGlobNT hk,zfi h.hv h.e hk⟩
 le:=fun w h=>h.sz
theorem zk6{m f:Nat}{xs:List TV}{os:List MO}{y:TV}{os':List MO}(h:zC (glT m) f xs os y os'):zC (glE m) f xs os y os':=
 za3 (g:=glT m) (g':=glE m) rfl (fun w (hG:GlobNE m w)=>hG.toGlobNT) h
theorem zch{m f:Nat}{xs:List TV}{os:List MO}{y:TV}{os':List MO}(h:zC (gl0 m) f xs os y os'):zC (glE m) f xs os y os':=zk6 (zt5 h)
theorem zbq{w:World}{k:Nat}{os:Array Obj}:Below w.heap.size w (Go.Sort.grow (w.drewN k) os):=by
 have h1:∀k,Below w.heap.size w (w.drewN k):=by
  intro k
  induction k with
  |zero=>exact Below.refl _ _
  |succ k ih=>exact ih.trans (by have:=(Below.refl w.heap.size (w.drewN k)).drew;exact this)
 have h:=h1 k;refine⟨h.os,h.tape,h.output,?_,fun j hj=> ?_⟩
 ·show _≤((w.drewN k).heap++os).size;rw[Array.size_append];have:=h.size;omega
 ·show((w.drewN k).heap++os)[j]?=_;rw[Array.getElem?_append_left (by have:=h.size;omega)];exact h.block j hj
theorem zq2(m:Nat)(n:Int)(h0: -9223372036854775808≤n)(h1:n≤9223372036854775807):zC (glT m) 195 [I n] [] (S (str (Lib.itoa n))) []:=
 z2s (vs:=[.int .i64 n]) (z1k (by kernel_rfl)) (fun w E r=> .pv (.v _)) (fun w hG=>(Tryz.strconv_Itoa n h0 h1 w hG.t.tab).mono fun e w' ⟨he,k,os,hw⟩=>⟨he,by rw[hw];exact zbq⟩)
section
open Go.Sh.Cd1
theorem zhU(g:Sh.Glob)(a:Int):zC g 257 [I a] [] (.pv (.v (.bool false))) []:=by
 refine za tf_68 ?_;simp only[vW,seval]
theorem zhV(g:Sh.Glob)(a:ByteArray):zC g 258 [S a] [] (.pv (.v (.bool false))) []:=by
 refine za tf_69 ?_;simp only[vW,seval]
theorem zcC(g:Sh.Glob)(a b:Int):zC g 240 [I a,I b] [] (I (z2k a b)) []:=by
 refine z0u tf_66 ?_;refine z8 (zhU g _) ?_;refine z8 (zhU g _) ?_;unfold z2k;refine⟨fun h=>by rw[if_pos h],fun h=>⟨fun h'=>by rw[if_neg h,if_pos h'],fun h'=>by rw[if_neg h,if_neg h']⟩⟩
theorem zpJ(g:Sh.Glob)(a b:zB):zC g 241 [S (str a),S (str b)] [] (I (z30 a b)) []:=by
 refine z0u tf_67 ?_;refine z8 (zhV g _) ?_;refine z8 (zhV g _) ?_;unfold z30;cases hb:Op.bytesLess a b
 ·by_cases he:a=b
  ·subst he;simp[z0z]
  ·simp[z0z,he]
 ·simp[z0z]
theorem ziA(g:Sh.Glob)(l l':List V)(hl:l.length≤maxLen)(H:∀(i:Nat) x y,l[i]?=some x→l'[i]?=some y→zC g 226 [tv x,tv y] [] (I (cmpV x y)) []):
  zC g 242 [.pv (.sl 4 (V.rows l)),.pv (.sl 4 (V.rows l')),.pv (.v (.func (.func 226) #[] #[]))] [] (I (z1H l l')) []:=by
 refine z0u tf_199 ?_;refine zk (σ:={ i:Nat // i≤min l.length l'.length∧z1H l l'=z1H (l.drop i) (l'.drop i) }) (fun i=>⟨[(0,.pv (.sl 4 (V.rows l))),(1,.pv (.sl 4 (V.rows l'))),(2,.pv (.v (.func (.func 226) #[] #[]))),(13,I (min (l.length:Int) (l'.length:Int))),(14,I (i.1:Int))],[],[],[]⟩) (fun i=>min l.length l'.length-i.1) ⟨0,Nat.zero_le _,rfl⟩ (z18 rfl) ?_;rintro⟨i,hi,hc⟩;simp only[vW,seval];have hm:maxLen=9223372036854775807:=rfl;refine⟨fun hlt=> ?_,fun hge=> ?_⟩
 ·refine⟨by omega,fun x hx=>⟨by omega,fun y hy=> ?_⟩⟩;(with_reducible apply zr);exact kv;exact H i x y hx hy;rfl;exact kv;have hd:=zdf hx hy;rw[←hc]at hd;unfold z0f at hd;simp only[vW,seval];refine⟨fun h0=> ?_,fun h0=> ?_⟩
  ·rw[if_pos h0]at hd;have w1:IntKind.i64.wrap ((i:Int)+1)=(i:Int)+1:=wrap64 (by omega) (by omega);refine zc ⟨i+1,by omega,hd⟩ (by show _-(i+1)<_-i;omega) ?_;apply z0e<;>simp[leL,lk,sv,Nat.beq,I,S,ES.kill,has,drp,zn,w1]
  ·rw[if_neg h0]at hd;rw[hd]
 ·refine z8 (zcC g _ _) ?_;rw[hc,zaE (by omega)]
theorem zdg(g:Sh.Glob):∀(n:Nat) (x y:V),SizeOf.sizeOf x≤n→VSmall x→zC g 226 [tv x,tv y] [] (I (cmpV x y)) []
 |0,x,y,h,_=>by cases x;simp at h
 |n+1,x,y,h,hx=>by
  have HB:=ziA g x.l y.l hx.len (fun i a b ha hb=>zdg g n a b (by
   have hm:=gM ha;have:=List.sizeOf_lt_of_mem hm;cases x;simp[V.l]at h this ⊢;omega) (hx.sub (gM ha)))
  refine za tf_193 ?_;rw[z9t];simp only[vW,seval];refine z8 (zcC g _ _) ?_;refine⟨fun h1=> ?_,fun h1=>by rw[z0f,if_neg h1]⟩;rw[z0f,if_pos h1];refine z8 (zcC g _ _) ?_;refine⟨fun h2=> ?_,fun h2=>by rw[z0f,if_neg h2]⟩;rw[z0f,if_pos h2];refine z8 (zpJ g _ _) ?_;refine⟨fun h3=> ?_,fun h3=>by rw[z0f,if_neg h3]⟩;rw[z0f,if_pos h3];exact zf HB
theorem ziH(g:Sh.Glob)(x y:V)(hx:VSmall x):zC g 226 [tv x,tv y] [] (I (cmpV x y)) []:=zdg g _ x y (Nat.le_refl _) hx
theorem zqx(g:Sh.Glob)(x y:V)(hx:VSmall x)(H:∀(i:Nat) a b,x.l[i]?=some a→y.l[i]?=some b→zC g 82 [tv a,tv b] [] (I (cmpV a b)) [])(c:Int):
  swp Tryz.prog g (.loop c_133_12) (z1q 0 (z2G (swp Tryz.prog g (.seq (.seq c_133_13 (.cond (.tmp 67) (.seq c_133_14 .ret) .skip)) (.seq c_133_15 .ret)) (Post0 [.tmp 4] (I (z0f c (z1H x.l y.l))))) (Post0 [.tmp 4] (I (z0f c (z1H x.l y.l))))))
   ⟨[(2,.ptr 2 0),(3,.ptr 3 0),(5,I c),(6,I 0)],[(2,[I x.k,I x.n,S (str x.s),.pv (.sl 4 (V.rows x.l))]),(3,[I y.k,I y.n,S (str y.s),.pv (.sl 4 (V.rows y.l))])],[],[]⟩:=by
 refine zk (σ:={ p:Nat×Int // p.1≤min x.l.length y.l.length∧z0f c (z1H x.l y.l)=z0f p.2 (z1H (x.l.drop p.1) (y.l.drop p.1)) })
  (fun p=>⟨[(2,.ptr 2 0),(3,.ptr 3 0),(5,I p.1.2),(6,I (p.1.1:Int))],[(2,[I x.k,I x.n,S (str x.s),.pv (.sl 4 (V.rows x.l))]),(3,[I y.k,I y.n,S (str y.s),.pv (.sl 4 (V.rows y.l))])],[],[]⟩)
  (fun p=>min x.l.length y.l.length-p.1.1) ⟨(0,c),Nat.zero_le _,rfl⟩ (z18 rfl) ?_
 rintro⟨⟨i,d⟩,hi,hc⟩;have hm:maxLen=9223372036854775807:=rfl;have hl:=hx.len;simp only at hi hc;simp only[vW,seval];refine⟨fun h0=>⟨fun h1=>⟨fun h2=>⟨by omega,fun a ha=>⟨by omega,fun b hb=> ?_⟩⟩,fun h2=>⟨fun _=> ?_,fun h=>absurd h0 h⟩⟩,fun h1=>⟨fun _=> ?_,fun h=>absurd h0 h⟩⟩,fun h0=>⟨fun h=>absurd h h0,fun _=> ?_⟩⟩
 ·refine z8 (H i a b ha hb) ?_;have w1:IntKind.i64.wrap ((i:Int)+1)=(i:Int)+1:=wrap64 (by omega) (by omega);refine zc ⟨(i+1,cmpV a b),by show i+1≤_;omega,?_⟩ (by show _-(i+1)<_-i;omega) ?_
  ·show _=z0f (cmpV a b) (z1H (x.l.drop (i+1)) (y.l.drop (i+1)));rw[hc,h0,zdf ha hb];simp[z0f]
  apply z0e<;>simp[leL,lk,sv,Nat.beq,I,S,ES.kill,has,drp,zn,w1]
 ·refine z8 (z68 g _ _) ?_;rw[hc,h0,z0f,if_pos rfl,zaE (by omega)]
 ·refine z8 (z68 g _ _) ?_;rw[hc,h0,z0f,if_pos rfl,zaE (by omega)]
 ·rw[hc,z0f,if_neg h0]
theorem z93(g:Sh.Glob):∀(n:Nat) (x y:V),SizeOf.sizeOf x≤n→VSmall x→zC g 82 [tv x,tv y] [] (I (cmpV x y)) []
 |0,x,y,h,_=>by cases x;simp at h
 |n+1,x,y,h,hx=>by
  have H:∀(i:Nat) a b,x.l[i]?=some a→y.l[i]?=some b→zC g 82 [tv a,tv b] [] (I (cmpV a b)) []:=fun i a b ha hb=>z93 g n a b (by
   have hm:=gM ha;have:=List.sizeOf_lt_of_mem hm;cases x;simp[V.l]at h this ⊢;omega) (hx.sub (gM ha))
  have HL:=zqx g x y hx H;refine z7x ze tf_133 rfl ?_;rw[z9t];by_cases h1:z2k x.k y.k=0
  ·rw[h1,z0f,if_pos rfl];simp only[vW,seval];refine z7 (z68 g _ _) ?_;simp only[vW,seval,h1];refine z7 (z68 g _ _) ?_;by_cases h2:z2k x.n y.n=0
   ·rw[h2,z0f,if_pos rfl];cases hb:Op.bytesLess x.s y.s
    ·by_cases he:x.s=y.s
     ·have e:z30 x.s y.s=0:=by rw[z30,hb];simp[he]
      have he':(x.s==y.s)=true:=by simp[he]
      rw[e];simp only[vW,seval,h2,hb,he'];exact HL 0
     ·have e:z30 x.s y.s=1:=by simp[z30,hb,he]
      have he':(x.s==y.s)=false:=by simp[he]
      rw[e];simp only[vW,seval,h2,hb,he'];exact HL 1
    ·have e:z30 x.s y.s= -1:=by simp[z30,hb]
     rw[e];simp only[vW,seval,h2,hb];exact HL (-1)
   ·rw[show z0f (z2k x.n y.n) (z0f (z30 x.s y.s) (z1H x.l y.l))=z0f (z2k x.n y.n) (z1H x.l y.l) by simp[z0f,h2]];simp only[vW,seval,h2];exact HL _
  ·rw[show z0f (z2k x.k y.k) (z0f (z2k x.n y.n) (z0f (z30 x.s y.s) (z1H x.l y.l)))=z0f (z2k x.k y.k) (z1H x.l y.l) by simp[z0f,h1]];simp only[vW,seval];refine z7 (z68 g _ _) ?_;simp only[vW,seval,h1];exact HL _
theorem zeb(g:Sh.Glob)(x y:V)(hx:VSmall x):zC g 82 [tv x,tv y] [] (I (cmpV x y)) []:=z93 g _ x y (Nat.le_refl _) hx
theorem zjO(g:Sh.Glob)(x y:V)(hx:VSmall x):zC g 55 [tv x,tv y] [] (.pv (.v (.bool (decide (cmpV x y=0))))) []:=by
 refine z0u tf_137 ?_;exact zf (zeb g x y hx)
end
section
open Go.Sh.Cd1 Go.Sh.Cd6
theorem zba(g:Sh.Glob)(l:zB)(hl:l.length≤4611686018427387904):zC g 186 [S (str l)] [] (I (z16 l:Int)) []:=by
 obtain⟨R,hR⟩:∃R,z16 l=R:=⟨_,rfl⟩
 rw[hR];have hle:=zgg _ l (Nat.le_refl _);refine z0u tf_94 ?_;refine zk (σ:={q:Nat×Nat // q.1≤l.length∧q.2+z16 (l.drop q.1)=R}) (fun q=>⟨[(3,I (q.1.2:Int)),(5,.it 5)],[],[],[(5,(str l,q.1.1))]⟩) (fun q=>l.length-q.1.1) ⟨(0,0),Nat.zero_le _,by simpa using hR⟩ ?_ ?_
 ·exact lwA
 rintro⟨⟨p,n⟩,hp,hd⟩;simp only at hp hd;rw[zcl]at hd;by_cases hlt:p<l.length
 ·have hne:l.drop p≠[]:=by rw[Ne,List.drop_eq_nil_iff];omega
  rw[if_neg hne,List.drop_drop]at hd;have hw:=z2M hne;rw[List.length_drop]at hw;have w1:=wS n;simp only[vW,seval,hlt,z3v,w1];refine zc ⟨(p+(Lib.decodeL (l.drop p)).2,n+1),by omega,by simp only;omega⟩ (by show l.length-(p+_)<l.length-p;omega) ?_;exact lwA
 ·have hn:l.drop p=[]:=List.drop_eq_nil_of_le (by omega);rw[if_pos hn]at hd;simp only[vW,seval,hlt];rw[←hd];rfl
theorem z8q(g:Sh.Glob)(l:zB)(m:Int)(hl:l.length≤4611686018427387904):zC g 189 [S (str l),I m] [] (I (z1W l m:Int)) []:=by
 obtain⟨R,hR⟩:∃R,z1W l m=R:=⟨_,rfl⟩
 rw[hR];rw[zkv]at hR;refine z0u tf_73 ?_;refine zk (σ:={q:Nat×Nat // q.1≤l.length∧q.2≤q.1∧zaD (l.drop q.1) q.1 q.2 m=R}) (fun q=>⟨[(0,S (str l)),(1,I m),(5,I (q.1.2:Int)),(8,.it 8)],[],[],[(8,(str l,q.1.1))]⟩) (fun q=>l.length-q.1.1) ⟨(0,0),Nat.zero_le _,Nat.zero_le _,by simpa using hR⟩ ?_ ?_
 ·exact lwA
 rintro⟨⟨p,n⟩,hp,hnp,hd⟩;simp only at hp hd hnp;rw[zda]at hd;by_cases hlt:p<l.length
 ·have hne:l.drop p≠[]:=by rw[Ne,List.drop_eq_nil_iff];omega
  rw[if_neg hne,List.drop_drop]at hd;have hw:=z2M hne;rw[List.length_drop]at hw;have w1:=wS n;by_cases h:m≤(n:Int)
  ·rw[if_pos h]at hd;simp only[vW,seval,hlt,z3v,h];rw[hd]
  ·rw[if_neg h]at hd;simp only[vW,seval,hlt,z3v,w1,h];refine zc ⟨(p+(Lib.decodeL (l.drop p)).2,n+1),by omega,by simp only;omega,hd⟩ (by show l.length-(p+_)<l.length-p;omega) ?_;exact lwA
 ·have hn:l.drop p=[]:=List.drop_eq_nil_of_le (by omega);rw[if_pos hn]at hd;simp only[vW,seval,hlt];have:p=l.length:=by omega
  rw[←this,hd]
theorem zk3(g:Sh.Glob)(r:Int):zC g 217 [.pv (.v (.int .i32 r))] [] (I (Lib.runeLen r)) []:=
 z2s (vs:=[.int .i32 r]) (z1k (by kernel_rfl)) (fun w E r=> .pv (.v _)) (fun w hG=>(Tryz.utf8_RuneLen r w).mono fun e w' ⟨he,hw⟩=>⟨he,by rw[hw];exact Below.refl _ _⟩)
theorem znO(m:Nat)(s t:zB)(hs:s.length<4294967281):zC (glT m) 218 [S (str s),S (str t)] [] (I (Lib.index s t)) []:=
 z2s (vs:=[.string (str s),.string (str t)]) (z1k (by kernel_rfl)) (fun w E r=> .pv (.v _)) (fun w hG=>by
  obtain⟨k,hk⟩:=hG.t.mx;have:=Tryz.strings_Index (str s) (str t) k w (by rw[zbc];exact hs) hk;simp only[str_toList]at this;exact this.mono fun e w' ⟨he,hw⟩=>⟨he,by rw[hw];exact Below.refl _ _⟩)
theorem zlm(t u:zB): -1≤Lib.index t u∧Lib.index t u≤t.length:=by
 rcases Lib.index_spec t u with⟨h1,_⟩|⟨p,h1,h2,_⟩
 ·rw[h1];omega
 ·rw[h1];omega
theorem zl0(m:Nat)(t u:zB)(ht:t.length<4294967281):zC (glT m) 193 [S (str t),S (str u)] [] (I (z9y t u)) []:=by
 have HI:=znO m t u ht;have hb:=zlm t u;unfold z9y;refine z0u tf_85 ?_;refine z7 HI ?_;by_cases h:Lib.index t u<0
 ·rw[if_pos h];simp only[vW,seval,h]
 ·rw[if_neg h];obtain⟨n,hn⟩:∃n:Nat,Lib.index t u=n:=⟨(Lib.index t u).toNat,by omega⟩
  rw[hn]at hb h ⊢;have HS:=zba (glT m) (t.take n) (by rw[List.length_take];omega);simp only[vW,seval,h,List.drop_zero];refine⟨by omega,?_⟩;exact zf HS
theorem z0W(g:Sh.Glob)(n:Int):zC g 185 [I n] [] (nv (z0p n)) []:=by
 unfold z0p zeY nv;refine z0u tf_88 ?_;rfl
theorem zs3(k:Int): -1≤Lib.runeLen k∧Lib.runeLen k≤4:=by
 unfold Lib.runeLen
 repeat' split
 all_goals omega
theorem z5a(g:Sh.Glob)(l:zB)(hl:l.length≤4611686018427387904):zC g 188 [S (str l)] [] (nv (z22 l)) []:=by
 obtain⟨R,hR⟩:∃R,zcE l 0=R:=⟨_,rfl⟩
 unfold z22 nv;rw[zrh,hR];refine z0u tf_97 ?_;refine zk (σ:={q:Nat // q≤l.length∧zcE (l.drop q) q=R}) (fun q=>⟨[(0,S (str l)),(2,.ptr 2 0),(6,.it 6)],[(2,[I 0,I 0,S ⟨#[]⟩,.pv (.v (.slice none 0 0))])],[],[(6,(str l,q.1))]⟩) (fun q=>l.length-q.1) ⟨0,Nat.zero_le _,by simpa using hR⟩ ?_ ?_
 ·exact lwA
 rintro⟨p,hp,hd⟩;rw[zkM]at hd;by_cases hlt:p<l.length
 ·have hne:l.drop p≠[]:=by rw[Ne,List.drop_eq_nil_iff];omega
  rw[if_neg hne,List.drop_drop]at hd;have hw:=z2M hne;rw[List.length_drop]at hw;have HR:=zk3 g (((Lib.decodeL (l.drop p)).1:Nat):Int);have hrl:=zs3 (((Lib.decodeL (l.drop p)).1:Nat):Int);generalize Lib.runeLen (((Lib.decodeL (l.drop p)).1:Nat):Int)=k at*;have w1:IntKind.i64.wrap ((p:Int)+k)=(p:Int)+k:=wrap64 (by omega) (by omega);by_cases h:60<(p:Int)+k
  ·rw[if_pos h]at hd;subst hd;simp only[vW,seval,hlt,z3v];refine z7 HR ?_;simp only[vW,seval,w1,h,List.drop_zero];exact⟨by omega,by omega⟩
  ·rw[if_neg h]at hd;simp only[vW,seval,hlt,z3v];refine z7 HR ?_;simp only[vW,seval,w1,h];refine zc ⟨p+(Lib.decodeL (l.drop p)).2,by omega,hd⟩ (by show l.length-(p+_)<l.length-p;omega) ?_;exact lwA
 ·have hn:l.drop p=[]:=List.drop_eq_nil_of_le (by omega);rw[if_pos hn]at hd;simp only[vW,seval,hlt];have:p=l.length:=by omega
  rw[←hd,this,List.take_length]
theorem znN(g:Sh.Glob)(s:zB)(c:Int)(hs:s=[61]∨s=[60,62]∨s=[60]∨s=[60,61]∨s=[62]∨s=[62,61]):zC g 225 [S (str s),I c] [] (B (z3Q s c)) []:=by
 have q1:=bS [60,61];have q2:=bS [61];have q3:=bS [62,61];have q4:=bS [62];have q5:=bS [60,62];unfold B;have e1:(([60,62]:zB)==[60,61])=false:=rfl;have e2:(([60,62]:zB)==[61])=false:=rfl;have e3:(([60,62]:zB)==[62,61])=false:=rfl;have e4:(([60,62]:zB)==[62])=false:=rfl;have f1:(([61]:zB)==[60,61])=false:=rfl;have g1:(([60]:zB)==[60,61])=false:=rfl;have g2:(([60]:zB)==[61])=false:=rfl;have g3:(([60]:zB)==[62,61])=false:=rfl;have g4:(([60]:zB)==[62])=false:=rfl;have g5:(([60]:zB)==[60,62])=false:=rfl;have h1:(([62]:zB)==[60,61])=false:=rfl;have h2:(([62]:zB)==[61])=false:=rfl;have h3:(([62]:zB)==[62,61])=false:=rfl;have i1:(([62,61]:zB)==[60,61])=false:=rfl;have i2:(([62,61]:zB)==[61])=false:=rfl;refine za tf_87 ?_;rcases hs with rfl|rfl|rfl|rfl|rfl|rfl
 ·rw[show z3Q [61] c=decide (c=0) from rfl];simp only[vW,seval,q1,q2,q3,q4,q5,f1]
 ·rw[show z3Q [60,62] c=decide (c≠0) from rfl];simp only[vW,seval,q1,q2,q3,q4,q5,e1,e2,e3,e4];simp
 ·rw[show z3Q [60] c=decide (c<0) from rfl];simp only[vW,seval,q1,q2,q3,q4,q5,g1,g2,g3,g4,g5]
 ·rw[show z3Q [60,61] c=decide (c≤0) from rfl];by_cases h:c<0
  ·simp only[vW,seval,q1,q2,q3,q4,q5,h];simp;omega
  ·simp only[vW,seval,q1,q2,q3,q4,q5,h];simp;omega
 ·rw[show z3Q [62] c=decide (0<c) from rfl];simp only[vW,seval,q1,q2,q3,q4,q5,h1,h2,h3]
 ·rw[show z3Q [62,61] c=decide (0≤c) from rfl];by_cases h:c=0
  ·simp only[vW,seval,q1,q2,q3,q4,q5,i1,i2,h]
  ·simp only[vW,seval,q1,q2,q3,q4,q5,i1,i2,h];simp;omega
end
end Go.Proofs.YtpmlapgbmgbilaaGreatDoor
end

section
namespace Go.Mor
open Go
section
structure Open(F:Fence):Prop where
 fn:∀f,F.fn f
 depth:F.depth=none
 calls:∀(n:Nat) (P:Program) (f:FuncId) (args:Array Value) (w:World) (R:Ending→World→Prop),Calls P f args w R→CallsIn F n P f args w R
theorem zlT:Open Fence.wide:=⟨fun _=>trivial,rfl,fun _ _ _ _ _ _ h=>callsIn_wide.2 h⟩
theorem zbU(l:Nat):Open (Fence.wide.inRound l):=⟨fun _=>trivial,rfl,fun _ _ _ _ _ _ h=>CallsIn.inRound l (callsIn_wide.2 h)⟩
def z52(ops:Array Oper):Bool:=ops.all fun o=>match o.op with| .defer _=>false|_=>true
theorem zfD{ops:Array Oper}(h:z52 ops=true){i:Nat}{o:Oper}(hi:ops[i]?=some o):∀c,o.op≠ .defer c:=by
 intro c hc;have hlt:=(gA hi)
 obtain⟨hl,rfl⟩:=hlt;have:=Array.all_eq_true.1 h i hl;rw[hc]at this;cases this
section
variable{F:Fence}{n:Nat}{P:Program}{ops:Array Oper}{md:Region.Mode}{w:World}
theorem zd4(hF:Open F)(hnd:z52 ops=true){i:Nat}{a:Act}{K:Act→Prop}{K':Act→World→Prop}{Q':Exit→Act→World→Prop}(h:∀a,K a→K' a w)(hh:stOp P ops w i K a):
  wpOpIn F n P ops Q' i K' a w:=by
 unfold stOp at hh;unfold wpOpIn;split
 ·rename_i ho;simp only[ho]at hh;exact h _ hh
 ·rename_i o ho;simp only[ho]at hh;split
  ·rename_i hw;simp only[hw,if_true]at hh;refine⟨fun f _=>hF.fn f,?_⟩;rw[Oper.semAt_eq _ _ _ (zfD hnd ho)];unfold Oper.still at hh;generalize(execOp a.eval o).run P w=r at*;cases r with
   |ok x w'=>
    cases x<;>simp only[Oper.stillUpon,Oper.uponIn]at hh ⊢
    ·obtain⟨rfl,hh⟩:=hh;exact h _ hh
    ·obtain⟨rfl,hh⟩:=hh;exact h _ hh
    ·obtain⟨rfl,v,hc,hh⟩:=hh;refine⟨fun hd=>(by rw[hF.depth]at hd;cases hd),hF.calls _ _ _ _ _ _ (hc.mono ?_)⟩;rintro e w'' ⟨rfl,rfl⟩;exact h _ hh
   |halt x w'=>exact hh.elim
  ·rename_i hw;simp only[hw]at hh;exact⟨fun f _=>hF.fn f,h _ hh⟩
theorem z6N(hF:Open F)(hnd:z52 ops=true){m g:Nat}{L:Array Bool→Act→Prop}{Q':Exit→Act→World→Prop}(hL:∀listed a,L listed a→wpAnyIn F n P md ops Q' g listed a w):
  ∀(f:Nat) (listed:Array Bool) (a:Act),wpAnyL P md ops w m L f listed a→wpAnyIn F n P md ops Q' (f+g) listed a w
 |0,listed,a,h=>by rw[Nat.zero_add];exact hL _ _ h
 |f+1,listed,a,h=>by
  rw[show f+1+g=(f+g)+1 by omega];exact⟨fun h0=>absurd h0 h.1,fun i hi=>zd4 hF hnd (fun a' h'=>z6N hF hnd hL f _ a' h') (h.2 i hi).2⟩
theorem z7p{Q':Exit→Act→World→Prop}:∀(l:List Oper) (k:Nat) (listed:Array Bool) (a:Act) (w:World),(∀j,l[j]?=ops[k+j]?)→
  Region.seqB md ops l.length k listed=true→wpListIn F n P ops Q' l a w→wpAnyIn F n P md ops Q' l.length listed a w
 |[],_,_,_,_,_,hB,h=>⟨by simpa [Region.seqB]using hB,h⟩
 |o::l,k,listed,a,w,hl,hB,h=>by
  have h0:ops[k]?=some o:=by simpa using(hl 0).symm
  simp only[List.length_cons,Region.seqB,Bool.and_eq_true,decide_eq_true_eq]at hB;refine⟨fun h1=>(by rw[hB.1]at h1;cases h1),fun i hi=> ?_⟩;rw[hB.1]at hi;have hik:i=k:=by simpa using hi
  subst hik;have hw:wpOpIn F n P ops Q' i (wpListIn F n P ops Q' l) a w:=by unfold wpOpIn;simp only[h0];exact h
  exact wpOpIn_mono (fun a' w' h'=>z7p l (i+1) _ a' w' (fun j=>by have:=hl (j+1);simpa [Nat.add_assoc,Nat.add_comm 1 j]using this) hB.2 h') hw
theorem z2z{id:Nat}{Q:Exit→Act→World→Prop}{a:Act}{w:World}{l:List Oper}(hF:Open F)(m:Nat)(hm:P.follows .mixedOrders=true)(hB:(Region.lexTailB .any l.toArray m&&z52 l.toArray)=true)
  (h:wpStill P l.toArray w.drew (fun a'=>wpListIn F n P l.toArray Q (l.drop m) a' w.drew) (l.take m) a):(Code.region id l.toArray true).wpIn F n P Q a w:=by
 rw[Bool.and_eq_true]at hB;obtain⟨hB,hnd⟩:=hB;simp only[Region.lexTailB,Bool.and_eq_true,decide_eq_true_eq]at hB;obtain⟨⟨⟨⟨hsel,hn⟩,hs⟩,hc⟩,hlex⟩:=hB;have hn':m<l.length:=by simpa using hn
 have htl:(l.take m).length=m:=by simp;omega
 have hdl:(l.drop m).length=l.toArray.size-m:=by simp
 have inv0:HeadInv .any l.toArray m (Array.replicate l.toArray.size false):=
  ⟨by simp,fun j oj _ hl=>(by rw[getD_replicate_false]at hl;cases hl),fun t _ ht=>getD_in (by simpa using ht) (getD_replicate_false _ _)⟩
 have H:=wpAnyL_lex (md:=.any) (g:=l.toArray.size-m) hsel hs hc hn (l.take m) 0 _ a (fun j hj=>by
  have hj':j<m:=by rw[htl]at hj;exact hj
  simp[hj']) (by simpa using htl) inv0 (by rw[htl];exact hlex) h
 refine wpIn_region_any hm ?_;have:=z6N (n:=n) hF hnd (Q':=Q) (g:=l.toArray.size-m) (fun listed a' hL=>by
  have:=z7p (F:=F) (n:=n) (P:=P) (md:=.any) (Q':=Q) (l.drop m) m listed a' w.drew (fun j=>by simp[List.getElem?_drop]) (by rw[hdl];exact hL.1) hL.2
  rwa [hdl]at this) _ _ _ H
 rw[htl,show m+(l.toArray.size-m)=l.toArray.size by omega]at this;exact this
theorem z0S{id:Nat}{Q:Exit→Act→World→Prop}{a:Act}{w:World}{l:List Oper}(m:Nat)(hm:P.follows .mixedOrders=true)(hB:Region.lexTailB .any l.toArray m=true)
  (h:wpStill P l.toArray w.drew (fun a'=>wpList P l.toArray Q (l.drop m) a' w.drew) (l.take m) a):(Code.region id l.toArray true).wp P Q a w:=wp_region_still_tail m hm hB h
end
end
end Go.Mor
end

section
namespace Go.Proofs.YtpmlapgbmgbilaaGreatDoor
open Go Go.RowKit Go.Mor Go.Sh Go.Lib Go.Deep
theorem zq1(m:Nat)(w:World)(hG:(glE m).G w)(n:Int)(h0: -9223372036854775808≤n)(h1:n≤9223372036854775807):Calls Tryz.prog 195 #[.int .i64 n] w fun e w'=>e=.returned (.string (str (Lib.itoa n)))∧Below w.heap.size w w':=
 (Tryz.strconv_Itoa n h0 h1 w hG.t.tab).mono fun e w' ⟨he,k,os,hw⟩=>⟨he,by rw[hw];exact zbq⟩
theorem zgF{w w':World}{t5:TypeId}{s:ByteArray}(h:w'=w∨∃t,w'=Lib.bytesWorld w t5 t):Below w.heap.size w w':=by
 rcases h with rfl|⟨t,rfl⟩
 ·exact Below.refl _ _
 ·exact Lib.bytesWorld_below _ _ _
theorem zdb{w w1 w2:World}(h1:Below w.heap.size w w1)(h2:Below w1.heap.size w1 w2):Below w.heap.size w w2:=
 ⟨h2.os.trans h1.os,h2.tape.trans h1.tape,h2.output.trans h1.output,Nat.le_trans h1.size h2.size,fun k hk=>(h2.block k (Nat.lt_of_lt_of_le hk h1.size)).trans (h1.block k hk)⟩
theorem zle{m:Nat}{w w1:World}(hG:(glE m).G w)(hb:Below w.heap.size w w1):(glE m).G w1:=
 (glE m).st w w1 hG (fun k hk=>hb.block k (by have:=(glE m).le w hG;exact Nat.lt_of_lt_of_le hk this))
theorem zgq(m:Nat)(s:zB)(w:World)(x:Int)(t:TypeId)(HA:Calls Tryz.prog 220 #[.string (str s)] w fun e w'=>∃N,e=.returned (.tuple #[.int .i64 x,.iface t (.pointer (some ⟨N,0,none⟩))])∧Below w.heap.size w w'):
  Calls Tryz.prog 197 #[.string (str s)] w fun e w'=>e=.returned (.int .i64 0)∧Below w.heap.size w w':=by
 go_enter Tryz.func197,Tryz.ntmps197
 go_wp2_with (go_at_call 220;refine HA.mono ?_;rintro e w1 ⟨N,rfl,hb1⟩)
 go_ret
 exact⟨rfl,hb1⟩
theorem zmu(m:Nat)(s:zB)(w:World)(hG:(glE m).G w)(v:Int)(HA:Calls Tryz.prog 220 #[.string (str s)] w fun e w'=>e=.returned (.tuple #[.int .i64 v,.nilIface])∧Below w.heap.size w w')(hv: -9223372036854775808≤v∧v≤9223372036854775807):
  Calls Tryz.prog 197 #[.string (str s)] w fun e w'=>e=.returned (.int .i64 (if v< -1000000000000000∨1000000000000000<v∨Lib.itoa v≠s then 0 else v))∧Below w.heap.size w w':=by
 have HI:=fun w1 (hb1:Below w.heap.size w w1)=>zq1 m w1 (zle hG hb1) v hv.1 hv.2;by_cases h1:v< -1000000000000000
 ·rw[if_pos (.inl h1)]
  go_enter Tryz.func197,Tryz.ntmps197
  go_wp2_with (go_at_call 220;refine HA.mono ?_;rintro e w1 ⟨rfl,hb1⟩)
  go_ret
  exact⟨rfl,hb1⟩
 by_cases h2:1000000000000000<v
 ·rw[if_pos (.inr (.inl h2))]
  go_enter Tryz.func197,Tryz.ntmps197
  go_wp2_with (go_at_call 220;refine HA.mono ?_;rintro e w1 ⟨rfl,hb1⟩)
  go_ret
  exact⟨rfl,hb1⟩
 by_cases h3:Lib.itoa v=s
 ·rw[if_neg (by rintro(h|h|h)<;>first|exact h1 h|exact h2 h|exact h h3)];have hne:(Lib.itoa v==s)=true:=by simpa using h3
  go_enter Tryz.func197,Tryz.ntmps197
  go_wp2_with (first|(go_at_call 220;refine HA.mono ?_;rintro e w1 ⟨rfl,hb1⟩)|(go_at_call 195;refine(HI _ hb1).mono ?_;rintro e w2 ⟨rfl,hb2⟩))
  go_ret
  exact⟨rfl,zdb hb1 hb2⟩
 ·rw[if_pos (.inr (.inr h3))];have hne:(Lib.itoa v==s)=false:=by simpa using h3
  go_enter Tryz.func197,Tryz.ntmps197
  go_wp2_with (first|(go_at_call 220;refine HA.mono ?_;rintro e w1 ⟨rfl,hb1⟩)|(go_at_call 195;refine(HI _ hb1).mono ?_;rintro e w2 ⟨rfl,hb2⟩))
  go_ret
  exact⟨rfl,zdb hb1 hb2⟩
theorem zqL(m:Nat)(s:zB)(hs:s.length≤281474976710656):zC (glE m) 197 [S (str s)] [] (I (z3Z s)) []:=
 z2s (vs:=[.string (str s)]) (v:=.int .i64 (z3Z s)) (z1k (by kernel_rfl)) (fun w E r=> .pv (.v _)) (fun w hG=>by
  have hG:GlobNE m w:=hG;obtain⟨⟨t1,p1,hs1⟩,⟨t2,p2,hr1⟩⟩:=hG.e;have hsz:(str s).size≤281474976710656:=by rw[zbc];exact hs
  have htl:(str s).data.toList=s:=str_toList s;rcases he:Lib.atoiAll s with v|_|_
  ·have hv:=Lib.atoiAll_bounds he;have hu:z3Z s=if v< -1000000000000000∨1000000000000000<v∨Lib.itoa v≠s then 0 else v:=by unfold z3Z;rw[he]
   rw[hu];exact zmu m s w hG v ((Any.strconv_Atoi_ok Tryz.laysC172 (str s) (by omega) v (by rw[htl];exact he) w).mono fun e w' ⟨h1,h2⟩=>⟨h1,zgF (s:=str s) h2⟩) hv
  ·have hu:z3Z s=0:=by unfold z3Z;rw[he]
   rw[hu];exact zgq m s w 0 _ ((Any.strconv_Atoi_syntax Tryz.laysC172 (str s) hsz (by rw[htl];exact he) _ w hs1 (.inr ⟨_,_,rfl⟩)).mono fun e w' ⟨N,h1,_,_,h2⟩=>⟨N,h1,h2⟩)
  ·have hu:z3Z s=0:=by unfold z3Z;rw[he]
   rw[hu];exact zgq m s w _ _ ((Any.strconv_Atoi_range Tryz.laysC172 (str s) hsz (by rw[htl];exact he) _ w hr1 (.inr ⟨_,_,rfl⟩)).mono fun e w' ⟨N,h1,_,_,h2⟩=>⟨N,h1,h2⟩))
end Go.Proofs.YtpmlapgbmgbilaaGreatDoor
end

section
namespace Go.Sh
open Go Go.RowKit
section
def TV.flat(x:TV):Prop:=(∃p,x=.pv p)∨∃d W es,x=.own d W es
theorem RelT.still{w w':World}{E:Env}{r:Rows}{x:TV}{v:Value}(hx:x.flat)(h:RelT w E r x v)(hk:∀b o u,E.K b o→w.cell? ⟨b,o,none⟩=some u→E.K b o∧w'.cell? ⟨b,o,none⟩=some u):RelT w' E r x v:=by
 rcases hx with⟨p,rfl⟩|⟨d,W,es,rfl⟩
 ·cases h with|pv h=>exact .pv (h.mono hk)
 ·cases h with|own _ _ _ _ h h2=>exact .own d W es v (h.mono hk) h2
theorem z6t{w w':World}{b o:Nat}(h:w'.heap[b]?=w.heap[b]?):w'.frozen? ⟨b,o,none⟩=w.frozen? ⟨b,o,none⟩:=by
 simp only[World.frozen?,h]
theorem zby{w:World}{b o:Nat}{u:Value}(h:w.cell? ⟨b,o,none⟩=some u):∃ob:Obj,w.heap[b]?=some ob∧ob.isCells=true:=by
 unfold World.cell? at h;split at h
 ·rename_i c e z hb;exact⟨_,hb,rfl⟩
 ·cases h
section
variable{B:Base}{b:Nat→Option (List TV)}{r:Rows}{w w':World}{E:Env}{row:Option Nat}
theorem MSim.grown(h:MSim B b r w E)(hfl:∀d cs,b d=some cs→∀x∈cs,x.flat)(hg:w.grownBy w' row)(hr:∀k,row=some k→B.w0.heap.size≤k∧∃o:Obj,w.heap[k]?=some o∧o.isCells=false):MSim B b r w' E:=by
 have hcs:∀(k:Nat) (o:Obj),w.heap[k]?=some o→o.isCells=true→w'.heap[k]?=w.heap[k]?:=fun k o hk ho=>by
  refine hg.block k (gA hk).1 (fun he=> ?_)
  grind
 have hce:∀(k o:Nat) (u:Value),w.cell? ⟨k,o,none⟩=some u→w'.cell? ⟨k,o,none⟩=some u:=fun k o u hu=>by
  grind [zby,World.cell?_of_block]
 have hk:∀b o u,E.K b o→w.cell? ⟨b,o,none⟩=some u→E.K b o∧w'.cell? ⟨b,o,none⟩=some u:=fun b o u h1 h2=>⟨h1,hce b o u h2⟩
 refine⟨fun d cs hd=> ?_,fun d e W n hd=> ?_,h.bb,h.br,h.rr,fun k o hk=>Nat.lt_of_lt_of_le (h.lt k o hk) hg.size,?_,fun k o u h1 h2=>⟨(h.keep k o u h1 h2).1,hce _ _ _ (h.keep k o u h1 h2).2⟩,h.knew,h.pas⟩
 ·obtain⟨⟨lt,⟨c,e,z,hob⟩,fz,cell,out⟩,hq⟩:=h.box d cs hd;have hs:=hcs _ _ hob rfl;refine⟨⟨Nat.lt_of_lt_of_le lt hg.size,⟨c,e,z,hs.trans hob⟩,fun o=>(z6t hs).trans (fz o),fun j c hj=> ?_,out⟩,hq⟩;obtain⟨v,h1,h2,h3⟩:=cell j c hj;exact⟨v,hce _ _ _ h1,h2,h3.still (hfl d cs hd c (gM hj)) hk⟩
 ·rcases h.row d e W n hd with h1|⟨k,cap,h1,h2,⟨⟨cur,h3,h4⟩,h5,h6,h7⟩⟩
  ·grind
  ·exact .inr ⟨k,cap,h1,h2,⟨⟨cur,(hcs _ _ h3 rfl).trans h3,h4⟩,h5,h6,h7⟩⟩
 ·exact⟨hg.os.trans h.low.os,hg.tape.trans h.low.tape,hg.output.trans h.low.output,Nat.le_trans h.low.size hg.size,fun k hk hX=>(hg.block k (Nat.lt_of_lt_of_le hk h.low.size) (fun he=>by have:=(hr k he.symm).1;omega)).trans (h.low.block k hk hX)⟩
end
def g00:Glob:=⟨fun _=>True,0,fun _ _ _ _=>trivial,fun _ _=>Nat.zero_le _⟩
def z8Z(β:Nat)(W:World)(k:Nat):Prop:=∃p n c,W.cell? ⟨β,0,none⟩=some (.slice (some p) n c)∧p.block=k
structure Kp(O:List Nat)(β n:Nat)(W W':World):Prop where
 size:W.heap.size≤W'.heap.size
 same:∀(k:Nat) (o:Obj),W.heap[k]?=some o→o.isCells=true→k∉O→¬z8Z β W k→W'.heap[k]?=some o
 rb:∀k,z8Z β W' k→z8Z β W k∨W.heap.size≤k
 lt:(∀k,z8Z β W k→k<W.heap.size)→∀k,z8Z β W' k→k<W'.heap.size
 glob:∀k,k<n→W'.heap[k]?=W.heap[k]?
theorem Kp.refl{O:List Nat}{β n:Nat}(W:World):Kp O β n W W:=⟨Nat.le_refl _,fun _ _ h _ _ _=>h,fun _ h=> .inl h,fun h=>h,fun _ _=>rfl⟩
theorem Kp.trans{O:List Nat}{β n:Nat}{A B C:World}(h:Kp O β n A B)(k:Kp O β n B C):Kp O β n A C:=by
 refine⟨Nat.le_trans h.size k.size,fun j o h1 h2 h3 h4=>k.same j o (h.same j o h1 h2 h3 h4) h2 h3 (fun h5=> ?_),fun j h1=> ?_,fun h1=>k.lt (h.lt h1),fun j hj=>(k.glob j hj).trans (h.glob j hj)⟩
 ·rcases h.rb j h5 with h6|h6<;>grind
 ·rcases k.rb j h1 with h2|h2
  ·exact h.rb j h2
  ·have:=h.size;exact .inr (by omega)
theorem zdK{β:Nat}{W W':World}(h:W'.heap[β]?=W.heap[β]?)(k:Nat):z8Z β W' k ↔ z8Z β W k:=by
 grind [z8Z,World.cell?_of_block]
theorem Kp.put{O:List Nat}{β n m:Nat}(hβ:β<m)(hn:n≤m)(W:World)(l:Nat)(o o':Obj)(hl:m≤l)(ho:W.heap[l]?=some o)(hc:o.isCells=false):Kp O β n W (W.putObj l o'):=by
 have hne:∀k,k≠l→(W.putObj l o').heap[k]?=W.heap[k]?:=fun k hk=>World.putObj_heap_other hk;refine⟨by simp,fun k ob h1 h2 _ _=>(hne k (fun he=> ?_)).trans h1,fun k h=> .inl ((zdK (hne β (by omega)) k).1 h),fun h k h1=> ?_,fun k hk=>hne k (by omega)⟩
 ·grind
 ·have:=h k ((zdK (hne β (by omega)) k).1 h1);simp_all
end
end Go.Sh
end
