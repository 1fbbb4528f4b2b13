/- Merged texts: S26 Zg2 PrT PrE Zw1 Zy2 Zg3 RegIn Zg4 S23. No statement of the program is proved here. -/
import Derived.Test.YthinnldeogflgaaGreatDoorQ19
import Derived.Lib.SmallJoins
import Derived.Lib.ItoaMem
import Derived.Shelf.Strconv.AtoiAll
import Derived.StillTailTactics
import Derived.TacticsIn
import Derived.RangeFuncCalls
import Derived.Lib.AtoiAllCases
import Derived.Lib.AtoiErrMem
import Derived.RangeFuncWrites
set_option linter.unusedSimpArgs false
set_option linter.unusedVariables false
set_option maxRecDepth 100000
set_option maxHeartbeats 8000000
section
namespace Go.Sh
open Go Go.RowKit
def z2v:Nat→Nat→List TV
 |_,0=>[]
 |d,n+1=> .ptr d 0::z2v (d+1) n
theorem zcC:∀(n d j:Nat),j<n→(z2v d n)[j]?=some (.ptr (d+j) 0)
 |0,d,j,h=>by omega
 |n+1,d,0,_=>rfl
 |n+1,d,j+1,h=>by
  rw[z2v,List.getElem?_cons_succ,zcC n (d+1) j (by omega)]
  grind
theorem zcD:∀(n d:Nat),(z2v d n).length=n
 |0,_=>rfl
 |n+1,d=>by rw[z2v,List.length_cons,zcD n (d+1)]
theorem SCalls.frz{P:Program}{g:Glob}{f:Nat}{xs:List TV}{k:Fn}{pss:List (List PV)}(h:SCalls P g f xs [] (.fn k [] (z2v 1000 pss.length)) (pss.map fun ps=> .box (ps.map .pv))):SCalls P g f xs [] (.pv (.fn k [] (pss.map .el))) []:=by
 refine⟨h.1,fun w E vs hG hm hX hl hr=>(h.2 w E vs hG hm hX hl hr).mono ?_⟩;rintro e w' ⟨v,E',h1,h2,h3,h4⟩;have hob:∀(j:Nat) ps,pss[j]?=some ps→z08 (pss.map fun ps=>MO.box (ps.map TV.pv)) (1000+j)=some (ps.map TV.pv):=fun j ps hj=>by
  grind [z08,Nat.add_sub_cancel_left]
 let K':Nat→Nat→Prop:=fun b o=>E'.K b o∨∃(j:Nat) (ps:List PV),pss[j]?=some ps∧b=E'.β (1000+j)∧o<ps.length
 have hk:∀b o u,E'.K b o→w'.cell? ⟨b,o,none⟩=some u→K' b o∧w'.cell? ⟨b,o,none⟩=some u:=fun b o u h1 h2=>⟨.inl h1,h2⟩
 have ho:∀d,¬(start w E [] 0).old d:=fun d h=>by have h1:=h.1;have h2:d<1000+0:=h.2;omega
 refine⟨v,{ E' with K:=K' },h1,⟨fun d cs hd=> ?_,fun d e W n hd=> ?_,fun d d' cs cs' hd=> ?_,fun d d' cs q k cap hd=> ?_,fun d d' q q' k cap cap' hd=> ?_,fun k o hko=> ?_,h2.low,fun k o u a1 a2=>⟨.inl (h2.keep k o u a1 a2).1,(h2.keep k o u a1 a2).2⟩,fun k o hko=> ?_,⟨fun d hd=>absurd hd (ho d),fun d hd=>absurd hd (ho d),fun d e W n hd=>absurd hd (ho d)⟩⟩,?_,⟨fun d h1 h2=> ?_,fun d h1 h2=> ?_,fun d e W n hd=> ?_⟩⟩
 ·simp[z08]at hd
 ·simp[zq]at hd
 ·simp[z08]at hd
 ·simp[z08]at hd
 ·simp[zq]at hd
 ·rcases hko with hko|⟨j,ps,hj,rfl,_⟩
  ·exact h2.lt k o hko
  ·exact(h2.box _ _ (hob j ps hj)).1.lt
 ·rcases hko with hko|⟨j,ps,hj,rfl,_⟩
  ·exact h2.knew k o hko
  ·rcases(h2.box _ _ (hob j ps hj)).2 with h5|h5<;>grind
 ·cases h3 with
  |fn _ _ _ us us' e1 e2 r1 r2=>
   have hus:us=[]:=List.eq_nil_of_length_eq_zero e1.symm;subst hus;rw[zcD]at e2;refine .pv (.fn k [] (pss.map .el) [] us' rfl (by grind) (fun j c v hc=>by simp at hc) (fun j c u hc hu=> ?_));rw[List.getElem?_map]at hc;obtain⟨ps,hps,rfl⟩:=gO hc;have hjl:j<pss.length:=(gJ hps).1;have hrel:=r2 j _ u (zcC pss.length 1000 j hjl) hu;cases hrel;obtain⟨hbx,_⟩:=h2.box _ _ (hob j ps hps);have hcell:∀(i:Nat) c,ps[i]?=some c→∃v,w'.cell? ⟨E'.β (1000+j),i,none⟩=some v∧one v∧RelV w' E'.K c v:=fun i c hi=>by
    obtain⟨v,c1,c2,c3⟩:=hbx.cell i (.pv c) (by grind);cases c3 with|pv c3=>exact⟨v,c1,c2,c3⟩
   refine .el ps (E'.β (1000+j)) 0 (fun i=>(w'.cell? ⟨E'.β (1000+j),i,none⟩).getD undef) (fun i c hi=> ?_) (fun i c hi=> ?_)
   ·grind
   ·obtain⟨v,c1,c2,c3⟩:=hcell i c hi;rw[c1];exact c3.mono hk
 ·grind
 ·grind
 ·simp[zq]at hd
end Go.Sh
end

section
namespace Go.Proofs.YthinnldeogflgaaGreatDoor
open Go Go.RowKit Go.Mor Go.Sh
section
open Go.Sh.Cd1 Go.Sh.Cd6
def tyP(t:Ty):List PV:=[.v (.int .i64 t.k),.v (.int .i64 t.o)]
def tyC(ps:List Ty):List TV:=pvC (ps.flatMap tyP)
def inR(l:List Int):List (List PV):=l.map fun n=>[.v (.int .i64 n)]
def tyB(r:Ty×Bool):TV:=.tuple [tyT r.1,B r.2]
theorem zeY{ps:List Ty}{i:Nat}{t:Ty}(h:ps[i]?=some t):List.take 2 (List.drop (i*2) (tyC ps))=[I t.k,I t.o]:=by
 induction ps generalizing i with
 |nil=>simp at h
 |cons p ps ih=>
  cases i with
  |zero=>simp at h;subst h;rfl
  |succ i=>
   have:=ih (i:=i) (by simpa using h);rw[←this];show List.take 2 (List.drop ((i+1)*2) (I p.k::I p.o::tyC ps))=_;rw[show(i+1)*2=i*2+2 by omega];rfl
theorem zeo(ps:List Ty):(tyC ps).length=ps.length*2:=by
 induction ps with
 |nil=>rfl
 |cons p ps ih=>
  show(I p.k::I p.o::tyC ps).length=_;simp[ih];omega
theorem zem(ids:List Nat)(ps:List Ty):List.map (fgt3 ids) (tyC ps)=tyC ps:=z7N ids _
theorem zen(ps:List Ty):List.flatMap TV.ids1 (tyC ps)=[]:=z7O _
theorem zep(ρ:Nat→Option Nat)(ps:List Ty):seqO (TV.ren1 ρ) (tyC ps)=some (tyC ps):=z7P ρ _
theorem zjG(l:List Int)(k:Nat):(inR l)[k]?=(l[k]?).map fun n=>[.v (.int .i64 n)]:=by unfold inR;rw[List.getElem?_map]
theorem zjH(l:List Int):(inR l).length=l.length:=by unfold inR;rw[List.length_map]
theorem tyV:(type_of% @zem)∧(type_of% @zen)∧(type_of% @zep)∧(type_of% @zeo)∧(type_of% @zjG)∧(type_of% @zjH)∧(type_of% @tyB.eq_1)∧(type_of% @B.eq_1):=⟨@zem,@zen,@zep,@zeo,@zjG,@zjH,@tyB.eq_1,@B.eq_1⟩
def zW(k:Int)(ks:List Int):TV:=.pv (.fn (.func 217) [] [.el [.sl 1 (inR ks)],.el [.v (.int .i64 k)]])
theorem z1D(g:Sh.Glob)(k:Int)(ks:List Int):zC g 184 [I k,.pv (.sl 1 (inR ks))] [] (zW k ks) []:=by
 refine SCalls.frz (pss:=[[.sl 1 (inR ks)],[.v (.int .i64 k)]]) ?_;refine zei tf_78 ?_;rfl
theorem z0G(g:Sh.Glob)(k:Int)(ks:List Int)(ps:List Ty)(hl:ps.length=ks.length)(h60:ps.length≤60):zC g 217 [.bs 1000 0 ps.length ps.length,.pv (.el [.sl 1 (inR ks)]),.pv (.el [.v (.int .i64 k)])] [.box (tyC ps)] (tyB (zK k ks ps)) [.box (tyC ps)]:=by
 obtain⟨R,hR⟩:∃R,zK k ks ps=R:=⟨_,rfl⟩
 rw[hR];refine zp tf_79 ?_;simp only[vW,seval,tyV];refine zz (σ:={i:Nat // i≤ps.length∧(if z2l (ps.drop i) (ks.drop i)then((⟨k,0⟩:Ty),true)else(ty0,false))=R}) (fun i=>⟨[(1,.pv (.el [.sl 1 (inR ks)])),(2,.pv (.el [.v (.int .i64 k)])),(8,.bs 1000 0 ps.length ps.length),(9,I (ps.length:Int)),(10,I (i.1:Int)),(4,.ptr 4 0)],[(1000,tyC ps),(4,[I 0,I 0])],[],[]⟩) (fun i=>ps.length-i.1) ⟨0,Nat.zero_le _,hR⟩ ?_ ?_
 ·exact lwA
 rintro⟨i,hi,hT⟩;by_cases hlt:i<ps.length
 ·have d1:(i:Int)<(ps.length:Int):=by omega
  obtain⟨t,et⟩:∃t,ps[i]?=some t:=⟨_,gE hlt⟩
  obtain⟨q,eq⟩:∃q,ks[i]?=some q:=⟨_,gE (by omega)⟩
  have w1:=wS i;have hdr:ps.drop i=t::ps.drop (i+1):=by
   rw[List.drop_eq_getElem_cons hlt];congr 1;rw[gE hlt]at et;exact Option.some.inj et
  have hdk:ks.drop i=q::ks.drop (i+1):=by
   rw[List.drop_eq_getElem_cons (show i<ks.length by omega)];congr 1;rw[gE (show i<ks.length by omega)]at eq;exact Option.some.inj eq
  rw[hdr,hdk,z2l]at hT;have f2:=zeY et;by_cases h:t.k=q
  ·have hb:(t.k==q)=true:=by simpa using h
   rw[hb,Bool.true_and]at hT;simp only[vW,seval,tyV,d1,f2,eq,h,w1];refine⟨by omega,zb ⟨i+1,hlt,hT⟩ (by show ps.length-(i+1)<ps.length-i;omega) ?_⟩;exact lwA
  ·have hb:(t.k==q)=false:=by simpa using h
   rw[hb,Bool.false_and,if_neg (by decide)]at hT;simp only[vW,seval,tyV,d1,f2,eq,h];refine⟨by omega,?_⟩;rw[←hT];rfl
 ·have d1:¬(i:Int)<(ps.length:Int):=by omega
  have hdr:ps.drop i=[]:=List.drop_eq_nil_of_le (by omega);rw[hdr,z2l,if_pos rfl]at hT;simp only[vW,seval,tyV,d1];rw[←hT]
theorem z8P:∃f g:Field,(Tryz.prog.fieldsOf 27).toList=[f,g]∧f.name≠ "_" ∧g.name≠ "_" ∧(∀a b:Int,zj Tryz.prog (part f.type #[.int .i64 a,.int .i64 b] f.offset)=some (.int .i64 a))∧(∀a b:Int,zj Tryz.prog (part g.type #[.int .i64 a,.int .i64 b] g.offset)=some (.int .i64 b))∧
  (∀(n:Nat) (a c:Int),zj Tryz.prog (Op.equalIn (n+1) f.type (.int .i64 a) (.int .i64 c))=some (a==c))∧(∀(n:Nat) (a c:Int),zj Tryz.prog (Op.equalIn (n+1) g.type (.int .i64 a) (.int .i64 c))=some (a==c)):=by
 refine⟨(Tryz.prog.fieldsOf 27).toList.getD 0 default,(Tryz.prog.fieldsOf 27).toList.getD 1 default,by kernel_rfl,?_,?_,fun a b=>by kernel_rfl,fun a b=>by kernel_rfl,fun n a c=>by kernel_rfl,fun n a c=>by kernel_rfl⟩
 ·exact of_decide_eq_true (by kernel_rfl)
 ·exact of_decide_eq_true (by kernel_rfl)
theorem z7r(a b c d:Int):zR Tryz.prog (do eqGuard .eql 27 (.const (.agg #[.int .i64 a,.int .i64 b])) (.const (.agg #[.int .i64 c,.int .i64 d])) (.agg #[.int .i64 a,.int .i64 b]) (.agg #[.int .i64 c,.int .i64 d]);binOp .eql 27 (.agg #[.int .i64 a,.int .i64 b]) (.agg #[.int .i64 c,.int .i64 d]))=
  some (.pv (.v (.bool (z0B ⟨a,b⟩ ⟨c,d⟩))),.no):=by
 unfold zR;rw[zU];have hg:zj Tryz.prog (eqGuard .eql 27 (.const (.agg #[.int .i64 a,.int .i64 b])) (.const (.agg #[.int .i64 c,.int .i64 d])) (.agg #[.int .i64 a,.int .i64 b]) (.agg #[.int .i64 c,.int .i64 d]))=some ():=by kernel_rfl
 rw[hg,Option.bind_some];have hb:binOp .eql 27 (.agg #[.int .i64 a,.int .i64 b]) (.agg #[.int .i64 c,.int .i64 d])=(Op.equal 27 (.agg #[.int .i64 a,.int .i64 b]) (.agg #[.int .i64 c,.int .i64 d])>>=fun r=>pure (.bool r)):=rfl;rw[hb,zU];have he:zj Tryz.prog (Op.equal 27 (.agg #[.int .i64 a,.int .i64 b]) (.agg #[.int .i64 c,.int .i64 d]))=some (z0B ⟨a,b⟩ ⟨c,d⟩):=by
  unfold Op.equal;obtain⟨n,hn⟩:∃n,Op.maxDepth=n+1+1:=⟨_,rfl⟩
  rw[hn,z1F _ _ _ _ (by kernel_rfl) (by kernel_rfl)];obtain⟨f,g,hl,nf,ng,pf,pg,ef,eg⟩:=z8P;rw[hl];simp only[Op.eqFields,nf,ng,ne_eq,not_false_eq_true,if_true,zU,pf,pg,ef,eg,Option.bind_some];unfold z0B;cases h:(a==c)
  ·simp[h,z1q]
  ·cases h2:(b==d)<;>simp[h,h2,z1q,zU,pg,eg,ng]
 rw[he];rfl
theorem zfY(g:Sh.Glob)(a b:Ty):zC g 222 [.bs 1000 0 2 2] [.box (tyC [a,b])] (B (z1T a b)) [.box (tyC [a,b])]:=by
 have e:tyC [a,b]=[I a.k,I a.o,I b.k,I b.o]:=rfl;rw[e];unfold z1T;refine zp tf_55 ?_;obtain⟨ak,ao⟩:=a;obtain⟨bk,bo⟩:=b;simp only;cases h:z0B ⟨ak,ao⟩ ⟨bk,bo⟩
 ·simp only[vW,seval,tyV,z7r,h]
 ·by_cases h1:ak=1
  ·subst h1;simp only[vW,seval,tyV,z7r,h]
  ·have hb:(ak==1)=false:=by simpa using h1
   have hc:decide (ak=2)=(ak==2):=by rw[Bool.eq_iff_iff];simp
   simp only[vW,seval,tyV,z7r,h,h1,hb,hc]
theorem zfZ(g:Sh.Glob)(c a b:Ty):zC g 222 [.bs 1000 2 2 2] [.box (tyC [c,a,b])] (B (z1T a b)) [.box (tyC [c,a,b])]:=by
 have e:tyC [c,a,b]=[I c.k,I c.o,I a.k,I a.o,I b.k,I b.o]:=rfl;rw[e];unfold z1T;refine zp tf_55 ?_;obtain⟨ak,ao⟩:=a;obtain⟨bk,bo⟩:=b;simp only;cases h:z0B ⟨ak,ao⟩ ⟨bk,bo⟩
 ·simp only[vW,seval,tyV,z7r,h]
 ·by_cases h1:ak=1
  ·subst h1;simp only[vW,seval,tyV,z7r,h]
  ·have hb:(ak==1)=false:=by simpa using h1
   have hc:decide (ak=2)=(ak==2):=by rw[Bool.eq_iff_iff];simp
   simp only[vW,seval,tyV,z7r,h,h1,hb,hc]
theorem zg5(g:Sh.Glob)(a b c:Ty):zC g 199 [.bs 1000 0 3 3] [.box (tyC [a,b,c])] (tyB (z4y [a,b,c])) [.box (tyC [a,b,c])]:=by
 have HA:=zfZ g a b c;have e:tyC [a,b,c]=[I a.k,I a.o,I b.k,I b.o,I c.k,I c.o]:=rfl;have hu:z4y [a,b,c]=if a.k=1∧z1T b c=true then(b,true)else(ty0,false):=rfl
 rw[e]at HA ⊢;rw[hu];refine zp tf_67 ?_;unfold B at HA;obtain⟨ak,ao⟩:=a;simp only at HA ⊢;by_cases h1:ak=1
 ·subst h1;simp only[vW,seval,tyV];refine z7 HA ?_;cases h2:z1T b c
  ·simp only[vW,seval,tyV];simp[ty0]
  ·simp only[vW,seval,tyV]
 ·rw[if_neg (fun h=>h1 h.1)];simp only[vW,seval,tyV,h1];rfl
theorem ziN(g:Sh.Glob)(a b:Ty):zC g 223 [.bs 1000 0 2 2] [.box (tyC [a,b])] (tyB (⟨1,0⟩,z1T a b)) [.box (tyC [a,b])]:=by
 have HA:=zfY g a b;have e:tyC [a,b]=[I a.k,I a.o,I b.k,I b.o]:=rfl;rw[e]at HA ⊢;refine zp tf_74 ?_;unfold B at HA;simp only[vW,seval,tyV];refine z7 HA ?_;simp only[vW,seval,tyV]
def zfg(s:zB):TV:=if s=[43]∨s=[45]∨s=[42]∨s=[47]∨s=[37] then zW 1 [1,1] else if s=[38] then zW 2 [2,2] else .pv (.v (.func (.func 223) #[] #[]))
theorem in2(a b:Int):inR [a,b]=[[.v (.int .i64 a)],[.v (.int .i64 b)]]:=rfl
theorem zdl(g:Sh.Glob)(s:zB):zC g 203 [S (str s)] [] (zfg s) []:=by
 have H1:=z1D g 1 [1,1];have H2:=z1D g 2 [2,2];have q1:=bS [43];have q2:=bS [45];have q3:=bS [42];have q4:=bS [47];have q5:=bS [37];have q6:=bS [38];have hb:∀a b:zB,a≠b→(a==b)=false:=fun a b h=>by simpa using h
 unfold zfg;unfold zW at*;refine z8 tf_73 ?_;by_cases h1:s=[43]
 ·subst h1;simp only[vW,seval,q1];(with_reducible apply zy);simp only[vW,seval,in2];rfl;rfl;exact H1;exact km;simp only[vW,seval,in2];rfl;simp only[vW,seval];rfl
 have d1:=hb _ _ h1;by_cases h2:s=[45]
 ·subst h2;simp only[vW,seval,q1,q2,d1];(with_reducible apply zy);simp only[vW,seval,in2];rfl;rfl;exact H1;exact km;simp only[vW,seval,in2];rfl;simp only[vW,seval];rfl
 have d2:=hb _ _ h2;by_cases h3:s=[42]
 ·subst h3;simp only[vW,seval,q1,q2,q3,d1,d2];(with_reducible apply zy);simp only[vW,seval,in2];rfl;rfl;exact H1;exact km;simp only[vW,seval,in2];rfl;simp only[vW,seval];rfl
 have d3:=hb _ _ h3;by_cases h4:s=[47]
 ·subst h4;simp only[vW,seval,q1,q2,q3,q4,d1,d2,d3];(with_reducible apply zy);simp only[vW,seval,in2];rfl;rfl;exact H1;exact km;simp only[vW,seval,in2];rfl;simp only[vW,seval];rfl
 have d4:=hb _ _ h4;by_cases h5:s=[37]
 ·subst h5;simp only[vW,seval,q1,q2,q3,q4,q5,d1,d2,d3,d4];(with_reducible apply zy);simp only[vW,seval,in2];rfl;rfl;exact H1;exact km;simp only[vW,seval,in2];rfl;simp only[vW,seval];rfl
 have d5:=hb _ _ h5;rw[if_neg (by simp[h1,h2,h3,h4,h5])];by_cases h6:s=[38]
 ·subst h6;simp only[vW,seval,q1,q2,q3,q4,q5,q6,d1,d2,d3,d4,d5];(with_reducible apply zy);simp only[vW,seval,in2];rfl;rfl;exact H2;exact km;simp only[vW,seval,in2];rfl;simp only[vW,seval];rfl
 have d6:=hb _ _ h6;rw[if_neg h6];simp only[vW,seval,q1,q2,q3,q4,q5,q6,d1,d2,d3,d4,d5,d6]
end
structure GlobT(w:World):Prop where
 tab:Lib.TabIs Tryz.prog w "internal/strconv.uint64pow10" .u64 Lib.pow10Tab
 mx:∃k,w.cell? ⟨4,0,none⟩=some (.int .i64 k)
theorem z8b:Tryz.prog.globalNamed "internal/strconv.uint64pow10" =some 5:=by kernel_rfl
theorem zm2{P:Program}{w w':World}{n g:Nat}{nm:String}{k:IntKind}{zs:List Int}(hg:P.globalNamed nm=some g)(hn:g<n)(h:Lib.TabIs P w nm k zs)(hk:∀k,k<n→w'.heap[k]?=w.heap[k]?):Lib.TabIs P w' nm k zs:=by
 unfold Lib.TabIs World.var? at*;rw[hg]at*;simp only[Option.bind_some]at*;rw[hk g hn];exact h
theorem zir{w w':World}{n:Nat}(hv:10≤n)(h:GlobT w)(hk:∀k,k<n→w'.heap[k]?=w.heap[k]?):GlobT w':=by
 refine⟨zm2 z8b (by omega) h.tab hk,?_⟩;obtain⟨k,h0⟩:=h.mx;exact⟨k,by rw[World.cell?_of_block (w:=w) (hk _ (show 4<n by omega))];exact h0⟩
structure GlobNT(n:Nat)(w:World):Prop extends GlobN0 n w where
 t:GlobT w
def glT(n:Nat):Sh.Glob where
 G:=GlobNT n
 n:=n
 st:=fun w w' h hk=>⟨⟨zcc h.hv h.u hk,zeg h.sz hk,h.hv⟩,zir h.hv h.t hk⟩
 le:=fun w h=>h.sz
theorem zmE{m f:Nat}{xs:List TV}{os:List MO}{y:TV}{os':List MO}(h:zC (gl0 m) f xs os y os'):zC (glT m) f xs os y os':=
 zjQ (g:=gl0 m) (g':=glT m) rfl (fun w (hG:GlobNT m w)=>hG.toGlobN0) h
structure GlobE(w:World):Prop where
 sy:∃t p,w.cell? ⟨6,0,none⟩=some (.iface t p)
 rg:∃t p,w.cell? ⟨7,0,none⟩=some (.iface t p)
theorem ziq{w w':World}{n:Nat}(hv:10≤n)(h:GlobE w)(hk:∀k,k<n→w'.heap[k]?=w.heap[k]?):GlobE w':=by
 obtain⟨⟨t,p,h1⟩,⟨t',p',h2⟩⟩:=h;exact⟨⟨t,p,by rw[World.cell?_of_block (w:=w) (hk _ (show 6<n by omega))];exact h1⟩,⟨t',p',by rw[World.cell?_of_block (w:=w) (hk _ (show 7<n by omega))];exact h2⟩⟩
structure GlobNE(n:Nat)(w:World):Prop extends GlobNT n w where
 e:GlobE w
def glE(n:Nat):Sh.Glob where
 G:=GlobNE n
 n:=n
 st:=fun w w' h hk=>⟨(glT n).st w w' h.toGlobNT hk,ziq h.hv h.e hk⟩
 le:=fun w h=>h.sz
theorem zfF{m f:Nat}{xs:List TV}{os:List MO}{y:TV}{os':List MO}(h:zC (glT m) f xs os y os'):zC (glE m) f xs os y os':=
 zjQ (g:=glT m) (g':=glE m) rfl (fun w (hG:GlobNE m w)=>hG.toGlobNT) h
theorem z9E{m f:Nat}{xs:List TV}{os:List MO}{y:TV}{os':List MO}(h:zC (gl0 m) f xs os y os'):zC (glE m) f xs os y os':=zfF (zmE h)
theorem z8U{w:World}{k:Nat}{os:Array Obj}:Below w.heap.size w (Go.Sort.grow (w.drewN k) os):=by
 have h1:∀k,Below w.heap.size w (w.drewN k):=by
  intro k
  induction k with
  |zero=>exact Below.refl _ _
  |succ k ih=>exact ih.trans (by have:=(Below.refl w.heap.size (w.drewN k)).drew;exact this)
 have h:=h1 k;refine⟨h.os,h.tape,h.output,?_,fun j hj=> ?_⟩
 ·show _≤((w.drewN k).heap++os).size;rw[Array.size_append];have:=h.size;omega
 ·show((w.drewN k).heap++os)[j]?=_;rw[Array.getElem?_append_left (by have:=h.size;omega)];exact h.block j hj
theorem zkp(m:Nat)(n:Int)(h0: -9223372036854775808≤n)(h1:n≤9223372036854775807):zC (glT m) 196 [I n] [] (S (str (Lib.itoa n))) []:=
 z4b (vs:=[.int .i64 n]) (z1z (by kernel_rfl)) (fun w E r=> .pv (.v _)) (fun w hG=>(Tryz.strconv_Itoa n h0 h1 w hG.t.tab).mono fun e w' ⟨he,k,os,hw⟩=>⟨he,by rw[hw];exact z8U⟩)
section
open Go.Sh.Cd1
theorem ze2(g:Sh.Glob)(a:Int):zC g 258 [I a] [] (.pv (.v (.bool false))) []:=by
 refine z8 tf_51 ?_;simp only[vW,seval]
theorem ze3(g:Sh.Glob)(a:ByteArray):zC g 259 [S a] [] (.pv (.v (.bool false))) []:=by
 refine z8 tf_52 ?_;simp only[vW,seval]
theorem z9W(g:Sh.Glob)(a b:Int):zC g 241 [I a,I b] [] (I (z1y a b)) []:=by
 refine z1b tf_49 ?_;refine z6 (ze2 g _) ?_;refine z6 (ze2 g _) ?_;unfold z1y;refine⟨fun h=>by rw[if_pos h],fun h=>⟨fun h'=>by rw[if_neg h,if_pos h'],fun h'=>by rw[if_neg h,if_neg h']⟩⟩
theorem zk8(g:Sh.Glob)(a b:zB):zC g 242 [S (str a),S (str b)] [] (I (z28 a b)) []:=by
 refine z1b tf_50 ?_;refine z6 (ze3 g _) ?_;refine z6 (ze3 g _) ?_;unfold z28;cases hb:Op.bytesLess a b
 ·by_cases he:a=b
  ·subst he;simp[z0d]
  ·simp[z0d,he]
 ·simp[z0d]
theorem zeE(g:Sh.Glob)(l l':List V)(hl:l.length≤maxLen)(H:∀(i:Nat) x y,l[i]?=some x→l'[i]?=some y→zC g 227 [tv x,tv y] [] (I (cmpV x y)) []):
  zC g 243 [.pv (.sl 4 (V.rows l)),.pv (.sl 4 (V.rows l')),.pv (.v (.func (.func 227) #[] #[]))] [] (I (z13 l l')) []:=by
 refine z1b tf_143 ?_;refine zz (σ:={ i:Nat // i≤min l.length l'.length∧z13 l l'=z13 (l.drop i) (l'.drop i) }) (fun i=>⟨[(0,.pv (.sl 4 (V.rows l))),(1,.pv (.sl 4 (V.rows l'))),(2,.pv (.v (.func (.func 227) #[] #[]))),(13,I (min (l.length:Int) (l'.length:Int))),(14,I (i.1:Int))],[],[],[]⟩) (fun i=>min l.length l'.length-i.1) ⟨0,Nat.zero_le _,rfl⟩ (z1u rfl) ?_;rintro⟨i,hi,hc⟩;simp only[vW,seval];have hm:maxLen=9223372036854775807:=rfl;refine⟨fun hlt=> ?_,fun hge=> ?_⟩
 ·refine⟨by omega,fun x hx=>⟨by omega,fun y hy=> ?_⟩⟩;(with_reducible apply zl);exact kv;exact H i x y hx hy;rfl;exact kv;have hd:=zat hx hy;rw[←hc]at hd;unfold z01 at hd;simp only[vW,seval];refine⟨fun h0=> ?_,fun h0=> ?_⟩
  ·rw[if_pos h0]at hd;have w1:IntKind.i64.wrap ((i:Int)+1)=(i:Int)+1:=wrap64 (by omega) (by omega);refine zb ⟨i+1,by omega,hd⟩ (by show _-(i+1)<_-i;omega) ?_;apply z1E<;>simp[leL,lk,sv,Nat.beq,I,S,ES.kill,has,drp,zH,w1]
  ·rw[if_neg h0]at hd;rw[hd]
 ·refine z6 (z9W g _ _) ?_;rw[hc,z8o (by omega)]
theorem zau(g:Sh.Glob):∀(n:Nat) (x y:V),SizeOf.sizeOf x≤n→VSmall x→zC g 227 [tv x,tv y] [] (I (cmpV x y)) []
 |0,x,y,h,_=>by cases x;simp at h
 |n+1,x,y,h,hx=>by
  have HB:=zeE g x.l y.l hx.len (fun i a b ha hb=>zau g n a b (by
   have hm:=gM ha;have:=List.sizeOf_lt_of_mem hm;cases x;simp[V.l]at h this ⊢;omega) (hx.sub (gM ha)))
  refine z8 tf_137 ?_;rw[z7q];simp only[vW,seval];refine z6 (z9W g _ _) ?_;refine⟨fun h1=> ?_,fun h1=>by rw[z01,if_neg h1]⟩;rw[z01,if_pos h1];refine z6 (z9W g _ _) ?_;refine⟨fun h2=> ?_,fun h2=>by rw[z01,if_neg h2]⟩;rw[z01,if_pos h2];refine z6 (zk8 g _ _) ?_;refine⟨fun h3=> ?_,fun h3=>by rw[z01,if_neg h3]⟩;rw[z01,if_pos h3];exact zf HB
theorem zeK(g:Sh.Glob)(x y:V)(hx:VSmall x):zC g 227 [tv x,tv y] [] (I (cmpV x y)) []:=zau g _ x y (Nat.le_refl _) hx
theorem zkH(g:Sh.Glob)(x y:V)(hx:VSmall x)(H:∀(i:Nat) a b,x.l[i]?=some a→y.l[i]?=some b→zC g 83 [tv a,tv b] [] (I (cmpV a b)) [])(c:Int):
  swp Tryz.prog g (.loop c_108_12) (z0M 0 (z2m (swp Tryz.prog g (.seq (.seq c_108_13 (.cond (.tmp 67) (.seq c_108_14 .ret) .skip)) (.seq c_108_15 .ret)) (Post0 [.tmp 4] (I (z01 c (z13 x.l y.l))))) (Post0 [.tmp 4] (I (z01 c (z13 x.l y.l))))))
   ⟨[(2,.ptr 2 0),(3,.ptr 3 0),(5,I c),(6,I 0)],[(2,[I x.k,I x.n,S (str x.s),.pv (.sl 4 (V.rows x.l))]),(3,[I y.k,I y.n,S (str y.s),.pv (.sl 4 (V.rows y.l))])],[],[]⟩:=by
 refine zz (σ:={ p:Nat×Int // p.1≤min x.l.length y.l.length∧z01 c (z13 x.l y.l)=z01 p.2 (z13 (x.l.drop p.1) (y.l.drop p.1)) })
  (fun p=>⟨[(2,.ptr 2 0),(3,.ptr 3 0),(5,I p.1.2),(6,I (p.1.1:Int))],[(2,[I x.k,I x.n,S (str x.s),.pv (.sl 4 (V.rows x.l))]),(3,[I y.k,I y.n,S (str y.s),.pv (.sl 4 (V.rows y.l))])],[],[]⟩)
  (fun p=>min x.l.length y.l.length-p.1.1) ⟨(0,c),Nat.zero_le _,rfl⟩ (z1u rfl) ?_
 rintro⟨⟨i,d⟩,hi,hc⟩;have hm:maxLen=9223372036854775807:=rfl;have hl:=hx.len;simp only at hi hc;simp only[vW,seval];refine⟨fun h0=>⟨fun h1=>⟨fun h2=>⟨by omega,fun a ha=>⟨by omega,fun b hb=> ?_⟩⟩,fun h2=>⟨fun _=> ?_,fun h=>absurd h0 h⟩⟩,fun h1=>⟨fun _=> ?_,fun h=>absurd h0 h⟩⟩,fun h0=>⟨fun h=>absurd h h0,fun _=> ?_⟩⟩
 ·refine z6 (H i a b ha hb) ?_;have w1:IntKind.i64.wrap ((i:Int)+1)=(i:Int)+1:=wrap64 (by omega) (by omega);refine zb ⟨(i+1,cmpV a b),by show i+1≤_;omega,?_⟩ (by show _-(i+1)<_-i;omega) ?_
  ·show _=z01 (cmpV a b) (z13 (x.l.drop (i+1)) (y.l.drop (i+1)));rw[hc,h0,zat ha hb];simp[z01]
  apply z1E<;>simp[leL,lk,sv,Nat.beq,I,S,ES.kill,has,drp,zH,w1]
 ·refine z6 (z4O g _ _) ?_;rw[hc,h0,z01,if_pos rfl,z8o (by omega)]
 ·refine z6 (z4O g _ _) ?_;rw[hc,h0,z01,if_pos rfl,z8o (by omega)]
 ·rw[hc,z01,if_neg h0]
theorem z77(g:Sh.Glob):∀(n:Nat) (x y:V),SizeOf.sizeOf x≤n→VSmall x→zC g 83 [tv x,tv y] [] (I (cmpV x y)) []
 |0,x,y,h,_=>by cases x;simp at h
 |n+1,x,y,h,hx=>by
  have H:∀(i:Nat) a b,x.l[i]?=some a→y.l[i]?=some b→zC g 83 [tv a,tv b] [] (I (cmpV a b)) []:=fun i a b ha hb=>z77 g n a b (by
   have hm:=gM ha;have:=List.sizeOf_lt_of_mem hm;cases x;simp[V.l]at h this ⊢;omega) (hx.sub (gM ha))
  have HL:=zkH g x y hx H;refine z8n za tf_108 rfl ?_;rw[z7q];by_cases h1:z1y x.k y.k=0
  ·rw[h1,z01,if_pos rfl];simp only[vW,seval];refine z7 (z4O g _ _) ?_;simp only[vW,seval,h1];refine z7 (z4O g _ _) ?_;by_cases h2:z1y x.n y.n=0
   ·rw[h2,z01,if_pos rfl];cases hb:Op.bytesLess x.s y.s
    ·by_cases he:x.s=y.s
     ·have e:z28 x.s y.s=0:=by rw[z28,hb];simp[he]
      have he':(x.s==y.s)=true:=by simp[he]
      rw[e];simp only[vW,seval,h2,hb,he'];exact HL 0
     ·have e:z28 x.s y.s=1:=by simp[z28,hb,he]
      have he':(x.s==y.s)=false:=by simp[he]
      rw[e];simp only[vW,seval,h2,hb,he'];exact HL 1
    ·have e:z28 x.s y.s= -1:=by simp[z28,hb]
     rw[e];simp only[vW,seval,h2,hb];exact HL (-1)
   ·rw[show z01 (z1y x.n y.n) (z01 (z28 x.s y.s) (z13 x.l y.l))=z01 (z1y x.n y.n) (z13 x.l y.l) by simp[z01,h2]];simp only[vW,seval,h2];exact HL _
  ·rw[show z01 (z1y x.k y.k) (z01 (z1y x.n y.n) (z01 (z28 x.s y.s) (z13 x.l y.l)))=z01 (z1y x.k y.k) (z13 x.l y.l) by simp[z01,h1]];simp only[vW,seval];refine z7 (z4O g _ _) ?_;simp only[vW,seval,h1];exact HL _
theorem zbh(g:Sh.Glob)(x y:V)(hx:VSmall x):zC g 83 [tv x,tv y] [] (I (cmpV x y)) []:=z77 g _ x y (Nat.le_refl _) hx
theorem zfs(g:Sh.Glob)(x y:V)(hx:VSmall x):zC g 56 [tv x,tv y] [] (.pv (.v (.bool (decide (cmpV x y=0))))) []:=by
 refine z1b tf_110 ?_;exact zf (zbh g x y hx)
end
section
open Go.Sh.Cd1 Go.Sh.Cd6
theorem z8I(g:Sh.Glob)(l:zB)(hl:l.length≤4611686018427387904):zC g 187 [S (str l)] [] (I (z0s l:Int)) []:=by
 obtain⟨R,hR⟩:∃R,z0s l=R:=⟨_,rfl⟩
 rw[hR];have hle:=zcQ _ l (Nat.le_refl _);refine z1b tf_77 ?_;refine zz (σ:={q:Nat×Nat // q.1≤l.length∧q.2+z0s (l.drop q.1)=R}) (fun q=>⟨[(3,I (q.1.2:Int)),(5,.it 5)],[],[],[(5,(str l,q.1.1))]⟩) (fun q=>l.length-q.1.1) ⟨(0,0),Nat.zero_le _,by simpa using hR⟩ ?_ ?_
 ·exact lwA
 rintro⟨⟨p,n⟩,hp,hd⟩;simp only at hp hd;rw[z9J]at hd;by_cases hlt:p<l.length
 ·have hne:l.drop p≠[]:=by rw[Ne,List.drop_eq_nil_iff];omega
  rw[if_neg hne,List.drop_drop]at hd;have hw:=z1W hne;rw[List.length_drop]at hw;have w1:=wS n;simp only[vW,seval,hlt,z2x,w1];refine zb ⟨(p+(Lib.decodeL (l.drop p)).2,n+1),by omega,by simp only;omega⟩ (by show l.length-(p+_)<l.length-p;omega) ?_;exact lwA
 ·have hn:l.drop p=[]:=List.drop_eq_nil_of_le (by omega);rw[if_pos hn]at hd;simp only[vW,seval,hlt];rw[←hd];rfl
theorem z6A(g:Sh.Glob)(l:zB)(m:Int)(hl:l.length≤4611686018427387904):zC g 190 [S (str l),I m] [] (I (z1i l m:Int)) []:=by
 obtain⟨R,hR⟩:∃R,z1i l m=R:=⟨_,rfl⟩
 rw[hR];rw[zg0]at hR;refine z1b tf_56 ?_;refine zz (σ:={q:Nat×Nat // q.1≤l.length∧q.2≤q.1∧z8m (l.drop q.1) q.1 q.2 m=R}) (fun q=>⟨[(0,S (str l)),(1,I m),(5,I (q.1.2:Int)),(8,.it 8)],[],[],[(8,(str l,q.1.1))]⟩) (fun q=>l.length-q.1.1) ⟨(0,0),Nat.zero_le _,Nat.zero_le _,by simpa using hR⟩ ?_ ?_
 ·exact lwA
 rintro⟨⟨p,n⟩,hp,hnp,hd⟩;simp only at hp hd hnp;rw[zap]at hd;by_cases hlt:p<l.length
 ·have hne:l.drop p≠[]:=by rw[Ne,List.drop_eq_nil_iff];omega
  rw[if_neg hne,List.drop_drop]at hd;have hw:=z1W hne;rw[List.length_drop]at hw;have w1:=wS n;by_cases h:m≤(n:Int)
  ·rw[if_pos h]at hd;simp only[vW,seval,hlt,z2x,h];rw[hd]
  ·rw[if_neg h]at hd;simp only[vW,seval,hlt,z2x,w1,h];refine zb ⟨(p+(Lib.decodeL (l.drop p)).2,n+1),by omega,by simp only;omega,hd⟩ (by show l.length-(p+_)<l.length-p;omega) ?_;exact lwA
 ·have hn:l.drop p=[]:=List.drop_eq_nil_of_le (by omega);rw[if_pos hn]at hd;simp only[vW,seval,hlt];have:p=l.length:=by omega
  rw[←this,hd]
theorem zfD(g:Sh.Glob)(r:Int):zC g 218 [.pv (.v (.int .i32 r))] [] (I (Lib.runeLen r)) []:=
 z4b (vs:=[.int .i32 r]) (z1z (by kernel_rfl)) (fun w E r=> .pv (.v _)) (fun w hG=>(Tryz.utf8_RuneLen r w).mono fun e w' ⟨he,hw⟩=>⟨he,by rw[hw];exact Below.refl _ _⟩)
theorem zix(m:Nat)(s t:zB)(hs:s.length<4294967281):zC (glT m) 219 [S (str s),S (str t)] [] (I (Lib.index s t)) []:=
 z4b (vs:=[.string (str s),.string (str t)]) (z1z (by kernel_rfl)) (fun w E r=> .pv (.v _)) (fun w hG=>by
  obtain⟨k,hk⟩:=hG.t.mx;have:=Tryz.strings_Index (str s) (str t) k w (by rw[z8K];exact hs) hk;simp only[str_toList]at this;exact this.mono fun e w' ⟨he,hw⟩=>⟨he,by rw[hw];exact Below.refl _ _⟩)
theorem zgG(t u:zB): -1≤Lib.index t u∧Lib.index t u≤t.length:=by
 rcases Lib.index_spec t u with⟨h1,_⟩|⟨p,h1,h2,_⟩
 ·rw[h1];omega
 ·rw[h1];omega
theorem zgq(m:Nat)(t u:zB)(ht:t.length<4294967281):zC (glT m) 194 [S (str t),S (str u)] [] (I (z7v t u)) []:=by
 have HI:=zix m t u ht;have hb:=zgG t u;unfold z7v;refine z1b tf_68 ?_;refine z7 HI ?_;by_cases h:Lib.index t u<0
 ·rw[if_pos h];simp only[vW,seval,h]
 ·rw[if_neg h];obtain⟨n,hn⟩:∃n:Nat,Lib.index t u=n:=⟨(Lib.index t u).toNat,by omega⟩
  rw[hn]at hb h ⊢;have HS:=z8I (glT m) (t.take n) (by rw[List.length_take];omega);simp only[vW,seval,h,List.drop_zero];refine⟨by omega,?_⟩;exact zf HS
theorem z0p(g:Sh.Glob)(n:Int):zC g 186 [I n] [] (nv (z05 n)) []:=by
 unfold z05 zbX nv;refine z1b tf_71 ?_;rfl
theorem zlU(k:Int): -1≤Lib.runeLen k∧Lib.runeLen k≤4:=by
 unfold Lib.runeLen
 repeat' split
 all_goals omega
theorem z3V(g:Sh.Glob)(l:zB)(hl:l.length≤4611686018427387904):zC g 189 [S (str l)] [] (nv (z1l l)) []:=by
 obtain⟨R,hR⟩:∃R,z9Y l 0=R:=⟨_,rfl⟩
 unfold z1l nv;rw[zlg,hR];refine z1b tf_80 ?_;refine zz (σ:={q:Nat // q≤l.length∧z9Y (l.drop q) q=R}) (fun q=>⟨[(0,S (str l)),(2,.ptr 2 0),(6,.it 6)],[(2,[I 0,I 0,S ⟨#[]⟩,.pv (.v (.slice none 0 0))])],[],[(6,(str l,q.1))]⟩) (fun q=>l.length-q.1) ⟨0,Nat.zero_le _,by simpa using hR⟩ ?_ ?_
 ·exact lwA
 rintro⟨p,hp,hd⟩;rw[zgb]at hd;by_cases hlt:p<l.length
 ·have hne:l.drop p≠[]:=by rw[Ne,List.drop_eq_nil_iff];omega
  rw[if_neg hne,List.drop_drop]at hd;have hw:=z1W hne;rw[List.length_drop]at hw;have HR:=zfD g (((Lib.decodeL (l.drop p)).1:Nat):Int);have hrl:=zlU (((Lib.decodeL (l.drop p)).1:Nat):Int);generalize Lib.runeLen (((Lib.decodeL (l.drop p)).1:Nat):Int)=k at*;have w1:IntKind.i64.wrap ((p:Int)+k)=(p:Int)+k:=wrap64 (by omega) (by omega);by_cases h:60<(p:Int)+k
  ·rw[if_pos h]at hd;subst hd;simp only[vW,seval,hlt,z2x];refine z7 HR ?_;simp only[vW,seval,w1,h,List.drop_zero];exact⟨by omega,by omega⟩
  ·rw[if_neg h]at hd;simp only[vW,seval,hlt,z2x];refine z7 HR ?_;simp only[vW,seval,w1,h];refine zb ⟨p+(Lib.decodeL (l.drop p)).2,by omega,hd⟩ (by show l.length-(p+_)<l.length-p;omega) ?_;exact lwA
 ·have hn:l.drop p=[]:=List.drop_eq_nil_of_le (by omega);rw[if_pos hn]at hd;simp only[vW,seval,hlt];have:p=l.length:=by omega
  rw[←hd,this,List.take_length]
theorem ziw(g:Sh.Glob)(s:zB)(c:Int)(hs:s=[61]∨s=[60,62]∨s=[60]∨s=[60,61]∨s=[62]∨s=[62,61]):zC g 226 [S (str s),I c] [] (B (z2L s c)) []:=by
 have q1:=bS [60,61];have q2:=bS [61];have q3:=bS [62,61];have q4:=bS [62];have q5:=bS [60,62];unfold B;have e1:(([60,62]:zB)==[60,61])=false:=rfl;have e2:(([60,62]:zB)==[61])=false:=rfl;have e3:(([60,62]:zB)==[62,61])=false:=rfl;have e4:(([60,62]:zB)==[62])=false:=rfl;have f1:(([61]:zB)==[60,61])=false:=rfl;have g1:(([60]:zB)==[60,61])=false:=rfl;have g2:(([60]:zB)==[61])=false:=rfl;have g3:(([60]:zB)==[62,61])=false:=rfl;have g4:(([60]:zB)==[62])=false:=rfl;have g5:(([60]:zB)==[60,62])=false:=rfl;have h1:(([62]:zB)==[60,61])=false:=rfl;have h2:(([62]:zB)==[61])=false:=rfl;have h3:(([62]:zB)==[62,61])=false:=rfl;have i1:(([62,61]:zB)==[60,61])=false:=rfl;have i2:(([62,61]:zB)==[61])=false:=rfl;refine z8 tf_70 ?_;rcases hs with rfl|rfl|rfl|rfl|rfl|rfl
 ·rw[show z2L [61] c=decide (c=0) from rfl];simp only[vW,seval,q1,q2,q3,q4,q5,f1]
 ·rw[show z2L [60,62] c=decide (c≠0) from rfl];simp only[vW,seval,q1,q2,q3,q4,q5,e1,e2,e3,e4];simp
 ·rw[show z2L [60] c=decide (c<0) from rfl];simp only[vW,seval,q1,q2,q3,q4,q5,g1,g2,g3,g4,g5]
 ·rw[show z2L [60,61] c=decide (c≤0) from rfl];by_cases h:c<0
  ·simp only[vW,seval,q1,q2,q3,q4,q5,h];simp;omega
  ·simp only[vW,seval,q1,q2,q3,q4,q5,h];simp;omega
 ·rw[show z2L [62] c=decide (0<c) from rfl];simp only[vW,seval,q1,q2,q3,q4,q5,h1,h2,h3]
 ·rw[show z2L [62,61] c=decide (0≤c) from rfl];by_cases h:c=0
  ·simp only[vW,seval,q1,q2,q3,q4,q5,i1,i2,h]
  ·simp only[vW,seval,q1,q2,q3,q4,q5,i1,i2,h];simp;omega
end
end Go.Proofs.YthinnldeogflgaaGreatDoor
end

section
namespace Go.Mor
open Go
section
structure Open(F:Fence):Prop where
 fn:∀f,F.fn f
 depth:F.depth=none
 calls:∀(n:Nat) (P:Program) (f:FuncId) (args:Array Value) (w:World) (R:Ending→World→Prop),Calls P f args w R→CallsIn F n P f args w R
section
variable{F:Fence}{n:Nat}{P:Program}{ops:Array Oper}{md:Region.Mode}{w:World}
end
end
end Go.Mor
end

section
namespace Go.Proofs.YthinnldeogflgaaGreatDoor
open Go Go.RowKit Go.Mor Go.Sh Go.Lib Go.Deep
theorem zko(m:Nat)(w:World)(hG:(glE m).G w)(n:Int)(h0: -9223372036854775808≤n)(h1:n≤9223372036854775807):Calls Tryz.prog 196 #[.int .i64 n] w fun e w'=>e=.returned (.string (str (Lib.itoa n)))∧Below w.heap.size w w':=
 (Tryz.strconv_Itoa n h0 h1 w hG.t.tab).mono fun e w' ⟨he,k,os,hw⟩=>⟨he,by rw[hw];exact z8U⟩
theorem zd7{w w':World}{t5:TypeId}{s:ByteArray}(h:w'=w∨∃t,w'=Lib.bytesWorld w t5 t):Below w.heap.size w w':=by
 rcases h with rfl|⟨t,rfl⟩
 ·exact Below.refl _ _
 ·exact Lib.bytesWorld_below _ _ _
theorem zaq{w w1 w2:World}(h1:Below w.heap.size w w1)(h2:Below w1.heap.size w1 w2):Below w.heap.size w w2:=
 ⟨h2.os.trans h1.os,h2.tape.trans h1.tape,h2.output.trans h1.output,Nat.le_trans h1.size h2.size,fun k hk=>(h2.block k (Nat.lt_of_lt_of_le hk h1.size)).trans (h1.block k hk)⟩
theorem zgB{m:Nat}{w w1:World}(hG:(glE m).G w)(hb:Below w.heap.size w w1):(glE m).G w1:=
 (glE m).st w w1 hG (fun k hk=>hb.block k (by have:=(glE m).le w hG;exact Nat.lt_of_lt_of_le hk this))
theorem zcX(m:Nat)(s:zB)(w:World)(x:Int)(t:TypeId)(HA:Calls Tryz.prog 221 #[.string (str s)] w fun e w'=>∃N,e=.returned (.tuple #[.int .i64 x,.iface t (.pointer (some ⟨N,0,none⟩))])∧Below w.heap.size w w'):
  Calls Tryz.prog 198 #[.string (str s)] w fun e w'=>e=.returned (.int .i64 0)∧Below w.heap.size w w':=by
 go_enter Tryz.func198,Tryz.ntmps198
 go_wp2_with (go_at_call 221;refine HA.mono ?_;rintro e w1 ⟨N,rfl,hb1⟩)
 go_ret
 exact⟨rfl,hb1⟩
theorem zho(m:Nat)(s:zB)(w:World)(hG:(glE m).G w)(v:Int)(HA:Calls Tryz.prog 221 #[.string (str s)] w fun e w'=>e=.returned (.tuple #[.int .i64 v,.nilIface])∧Below w.heap.size w w')(hv: -9223372036854775808≤v∧v≤9223372036854775807):
  Calls Tryz.prog 198 #[.string (str s)] w fun e w'=>e=.returned (.int .i64 (if v< -1000000000000000∨1000000000000000<v∨Lib.itoa v≠s then 0 else v))∧Below w.heap.size w w':=by
 have HI:=fun w1 (hb1:Below w.heap.size w w1)=>zko m w1 (zgB hG hb1) v hv.1 hv.2;by_cases h1:v< -1000000000000000
 ·rw[if_pos (.inl h1)]
  go_enter Tryz.func198,Tryz.ntmps198
  go_wp2_with (go_at_call 221;refine HA.mono ?_;rintro e w1 ⟨rfl,hb1⟩)
  go_ret
  exact⟨rfl,hb1⟩
 by_cases h2:1000000000000000<v
 ·rw[if_pos (.inr (.inl h2))]
  go_enter Tryz.func198,Tryz.ntmps198
  go_wp2_with (go_at_call 221;refine HA.mono ?_;rintro e w1 ⟨rfl,hb1⟩)
  go_ret
  exact⟨rfl,hb1⟩
 by_cases h3:Lib.itoa v=s
 ·rw[if_neg (by rintro(h|h|h)<;>first|exact h1 h|exact h2 h|exact h h3)];have hne:(Lib.itoa v==s)=true:=by simpa using h3
  go_enter Tryz.func198,Tryz.ntmps198
  go_wp2_with (first|(go_at_call 221;refine HA.mono ?_;rintro e w1 ⟨rfl,hb1⟩)|(go_at_call 196;refine(HI _ hb1).mono ?_;rintro e w2 ⟨rfl,hb2⟩))
  go_ret
  exact⟨rfl,zaq hb1 hb2⟩
 ·rw[if_pos (.inr (.inr h3))];have hne:(Lib.itoa v==s)=false:=by simpa using h3
  go_enter Tryz.func198,Tryz.ntmps198
  go_wp2_with (first|(go_at_call 221;refine HA.mono ?_;rintro e w1 ⟨rfl,hb1⟩)|(go_at_call 196;refine(HI _ hb1).mono ?_;rintro e w2 ⟨rfl,hb2⟩))
  go_ret
  exact⟨rfl,zaq hb1 hb2⟩
theorem zkR(m:Nat)(s:zB)(hs:s.length≤281474976710656):zC (glE m) 198 [S (str s)] [] (I (z2W s)) []:=
 z4b (vs:=[.string (str s)]) (v:=.int .i64 (z2W s)) (z1z (by kernel_rfl)) (fun w E r=> .pv (.v _)) (fun w hG=>by
  have hG:GlobNE m w:=hG;obtain⟨⟨t1,p1,hs1⟩,⟨t2,p2,hr1⟩⟩:=hG.e;have hsz:(str s).size≤281474976710656:=by rw[z8K];exact hs
  have htl:(str s).data.toList=s:=str_toList s;rcases he:Lib.atoiAll s with v|_|_
  ·have hv:=Lib.atoiAll_bounds he;have hu:z2W s=if v< -1000000000000000∨1000000000000000<v∨Lib.itoa v≠s then 0 else v:=by unfold z2W;rw[he]
   rw[hu];exact zho m s w hG v ((Any.strconv_Atoi_ok Tryz.laysC172 (str s) (by omega) v (by rw[htl];exact he) w).mono fun e w' ⟨h1,h2⟩=>⟨h1,zd7 (s:=str s) h2⟩) hv
  ·have hu:z2W s=0:=by unfold z2W;rw[he]
   rw[hu];exact zcX m s w 0 _ ((Any.strconv_Atoi_syntax Tryz.laysC172 (str s) hsz (by rw[htl];exact he) _ w hs1 (.inr ⟨_,_,rfl⟩)).mono fun e w' ⟨N,h1,_,_,h2⟩=>⟨N,h1,h2⟩)
  ·have hu:z2W s=0:=by unfold z2W;rw[he]
   rw[hu];exact zcX m s w _ _ ((Any.strconv_Atoi_range Tryz.laysC172 (str s) hsz (by rw[htl];exact he) _ w hr1 (.inr ⟨_,_,rfl⟩)).mono fun e w' ⟨N,h1,_,_,h2⟩=>⟨N,h1,h2⟩))
end Go.Proofs.YthinnldeogflgaaGreatDoor
end

section
namespace Go.Sh
open Go Go.RowKit
section
def TV.flat(x:TV):Prop:=(∃p,x=.pv p)∨∃d W es,x=.own d W es
theorem RelT.still{w w':World}{E:Env}{r:Rows}{x:TV}{v:Value}(hx:x.flat)(h:RelT w E r x v)(hk:∀b o u,E.K b o→w.cell? ⟨b,o,none⟩=some u→E.K b o∧w'.cell? ⟨b,o,none⟩=some u):RelT w' E r x v:=by
 rcases hx with⟨p,rfl⟩|⟨d,W,es,rfl⟩
 ·cases h with|pv h=>exact .pv (h.mono hk)
 ·cases h with|own _ _ _ _ h h2=>exact .own d W es v (h.mono hk) h2
theorem z59{w w':World}{b o:Nat}(h:w'.heap[b]?=w.heap[b]?):w'.frozen? ⟨b,o,none⟩=w.frozen? ⟨b,o,none⟩:=by
 simp only[World.frozen?,h]
theorem z92{w:World}{b o:Nat}{u:Value}(h:w.cell? ⟨b,o,none⟩=some u):∃ob:Obj,w.heap[b]?=some ob∧ob.isCells=true:=by
 unfold World.cell? at h;split at h
 ·rename_i c e z hb;exact⟨_,hb,rfl⟩
 ·cases h
section
variable{B:Base}{b:Nat→Option (List TV)}{r:Rows}{w w':World}{E:Env}{row:Option Nat}
theorem MSim.grown(h:MSim B b r w E)(hfl:∀d cs,b d=some cs→∀x∈cs,x.flat)(hg:w.grownBy w' row)(hr:∀k,row=some k→B.w0.heap.size≤k∧∃o:Obj,w.heap[k]?=some o∧o.isCells=false):MSim B b r w' E:=by
 have hcs:∀(k:Nat) (o:Obj),w.heap[k]?=some o→o.isCells=true→w'.heap[k]?=w.heap[k]?:=fun k o hk ho=>by
  refine hg.block k (gA hk).1 (fun he=> ?_)
  grind
 have hce:∀(k o:Nat) (u:Value),w.cell? ⟨k,o,none⟩=some u→w'.cell? ⟨k,o,none⟩=some u:=fun k o u hu=>by
  grind [z92,World.cell?_of_block]
 have hk:∀b o u,E.K b o→w.cell? ⟨b,o,none⟩=some u→E.K b o∧w'.cell? ⟨b,o,none⟩=some u:=fun b o u h1 h2=>⟨h1,hce b o u h2⟩
 refine⟨fun d cs hd=> ?_,fun d e W n hd=> ?_,h.bb,h.br,h.rr,fun k o hk=>Nat.lt_of_lt_of_le (h.lt k o hk) hg.size,?_,fun k o u h1 h2=>⟨(h.keep k o u h1 h2).1,hce _ _ _ (h.keep k o u h1 h2).2⟩,h.knew,h.pas⟩
 ·obtain⟨⟨lt,⟨c,e,z,hob⟩,fz,cell,out⟩,hq⟩:=h.box d cs hd;have hs:=hcs _ _ hob rfl;refine⟨⟨Nat.lt_of_lt_of_le lt hg.size,⟨c,e,z,hs.trans hob⟩,fun o=>(z59 hs).trans (fz o),fun j c hj=> ?_,out⟩,hq⟩;obtain⟨v,h1,h2,h3⟩:=cell j c hj;exact⟨v,hce _ _ _ h1,h2,h3.still (hfl d cs hd c (gM hj)) hk⟩
 ·rcases h.row d e W n hd with h1|⟨k,cap,h1,h2,⟨⟨cur,h3,h4⟩,h5,h6,h7⟩⟩
  ·grind
  ·exact .inr ⟨k,cap,h1,h2,⟨⟨cur,(hcs _ _ h3 rfl).trans h3,h4⟩,h5,h6,h7⟩⟩
 ·exact⟨hg.os.trans h.low.os,hg.tape.trans h.low.tape,hg.output.trans h.low.output,Nat.le_trans h.low.size hg.size,fun k hk hX=>(hg.block k (Nat.lt_of_lt_of_le hk h.low.size) (fun he=>by have:=(hr k he.symm).1;omega)).trans (h.low.block k hk hX)⟩
end
def z72(β:Nat)(W:World)(k:Nat):Prop:=∃p n c,W.cell? ⟨β,0,none⟩=some (.slice (some p) n c)∧p.block=k
structure Kp(O:List Nat)(β n:Nat)(W W':World):Prop where
 size:W.heap.size≤W'.heap.size
 same:∀(k:Nat) (o:Obj),W.heap[k]?=some o→o.isCells=true→k∉O→¬z72 β W k→W'.heap[k]?=some o
 rb:∀k,z72 β W' k→z72 β W k∨W.heap.size≤k
 lt:(∀k,z72 β W k→k<W.heap.size)→∀k,z72 β W' k→k<W'.heap.size
 glob:∀k,k<n→W'.heap[k]?=W.heap[k]?
theorem Kp.refl{O:List Nat}{β n:Nat}(W:World):Kp O β n W W:=⟨Nat.le_refl _,fun _ _ h _ _ _=>h,fun _ h=> .inl h,fun h=>h,fun _ _=>rfl⟩
theorem Kp.trans{O:List Nat}{β n:Nat}{A B C:World}(h:Kp O β n A B)(k:Kp O β n B C):Kp O β n A C:=by
 refine⟨Nat.le_trans h.size k.size,fun j o h1 h2 h3 h4=>k.same j o (h.same j o h1 h2 h3 h4) h2 h3 (fun h5=> ?_),fun j h1=> ?_,fun h1=>k.lt (h.lt h1),fun j hj=>(k.glob j hj).trans (h.glob j hj)⟩
 ·rcases h.rb j h5 with h6|h6<;>grind
 ·rcases k.rb j h1 with h2|h2
  ·exact h.rb j h2
  ·have:=h.size;exact .inr (by omega)
theorem zaS{β:Nat}{W W':World}(h:W'.heap[β]?=W.heap[β]?)(k:Nat):z72 β W' k ↔ z72 β W k:=by
 grind [z72,World.cell?_of_block]
theorem Kp.put{O:List Nat}{β n m:Nat}(hβ:β<m)(hn:n≤m)(W:World)(l:Nat)(o o':Obj)(hl:m≤l)(ho:W.heap[l]?=some o)(hc:o.isCells=false):Kp O β n W (W.putObj l o'):=by
 have hne:∀k,k≠l→(W.putObj l o').heap[k]?=W.heap[k]?:=fun k hk=>World.putObj_heap_other hk;refine⟨by simp,fun k ob h1 h2 _ _=>(hne k (fun he=> ?_)).trans h1,fun k h=> .inl ((zaS (hne β (by omega)) k).1 h),fun h k h1=> ?_,fun k hk=>hne k (by omega)⟩
 ·grind
 ·have:=h k ((zaS (hne β (by omega)) k).1 h1);simp_all
end
end Go.Sh
end
