/- Merged texts: Zg7 Zg8. No statement of the program is proved here. -/
import Derived.Test.YtbkgnekfigknhaaGreatDoorR21
set_option linter.unusedSimpArgs false
set_option linter.unusedVariables false
set_option maxRecDepth 100000
set_option maxHeartbeats 8000000
section
namespace Go.Proofs.YtbkgnekfigknhaaGreatDoor
open Go Go.RowKit Go.Mor Go.Sh Go.Sh.Cd1 Go.Sh.Cd6
section
theorem zcj(a:Int):max a (-a)=(a.natAbs:Int):=by omega
theorem znQ{a b:Int}(h0:a≠0)(h:max b (-b)≤(1000000000000000:Int).tdiv (max a (-a))): -1000000000000000≤a*b∧a*b≤1000000000000000:=by
 rw[zcj,zcj]at h;have e:(1000000000000000:Int).tdiv (a.natAbs:Int)=((1000000000000000 / a.natAbs:Nat):Int):=rfl;rw[e]at h;have h1:b.natAbs≤1000000000000000 / a.natAbs:=by omega
 have h2:b.natAbs*a.natAbs≤1000000000000000:=(Nat.le_div_iff_mul_le (by omega)).1 h1;have h3:(a*b).natAbs=b.natAbs*a.natAbs:=by rw[Int.natAbs_mul,Nat.mul_comm]
 omega
theorem zqf(a:Int):0≤(1000000000000000:Int).tdiv (max a (-a))∧(1000000000000000:Int).tdiv (max a (-a))≤1000000000000000:=by
 rw[zcj];have e:(1000000000000000:Int).tdiv (a.natAbs:Int)=((1000000000000000 / a.natAbs:Nat):Int):=rfl;rw[e];have:=Nat.div_le_self 1000000000000000 a.natAbs;exact⟨Int.natCast_nonneg _,Int.ofNat_le.2 this⟩
theorem zjl(g:Sh.Glob)(a b:Int)(ha:RgN a)(hb:RgN b):zC g 180 [I a,I b] [] (I (z9M a b)) []:=by
 obtain⟨a0,a1⟩:=ha;obtain⟨b0,b1⟩:=hb;have w1:IntKind.i64.wrap (0-a)= -a:=wG;have w2:IntKind.i64.wrap (0-b)= -b:=wG;have w1':IntKind.i64.wrap (-a)= -a:=by rw[wrap64 (by omega) (by omega)]
 have w2':IntKind.i64.wrap (-b)= -b:=by rw[wrap64 (by omega) (by omega)]
 have hq:=zqf a;have w3:IntKind.i64.wrap ((1000000000000000:Int).tdiv (max a (-a)))=(1000000000000000:Int).tdiv (max a (-a)):=wrap64 (by omega) (by omega);unfold z9M;refine za tf_88 ?_;by_cases h:a=0
 ·subst h;have w4:IntKind.i64.wrap (0*b)=0*b:=by rw[Int.zero_mul];rfl
  simp only[vW,seval,w4];simp
 ·have hm:¬max a (-a)=0:=by omega
  by_cases h2:max b (-b)≤(1000000000000000:Int).tdiv (max a (-a))
  ·rw[if_pos (.inr h2)];have hr:=znQ h h2;have w4:IntKind.i64.wrap (a*b)=a*b:=wrap64 (by omega) (by omega);simp only[vW,seval,h,w1,w2,w1',w2',w3,w4,hm,h2]
  ·rw[if_neg (by simp only[not_or];exact⟨h,h2⟩)];by_cases c1:a<0
   ·by_cases c2:b<0
    ·simp only[vW,seval,h,w1,w2,w1',w2',w3,hm,h2,c1,c2,zeg]
    ·simp only[vW,seval,h,w1,w2,w1',w2',w3,hm,h2,c1,c2,zeg]
   ·by_cases c2:b<0
    ·simp only[vW,seval,h,w1,w2,w1',w2',w3,hm,h2,c1,c2,zeg]
    ·simp only[vW,seval,h,w1,w2,w1',w2',w3,hm,h2,c1,c2,zeg]
section
variable{a b:V}
theorem znI(g:Sh.Glob)(s:zB)(ha:RgN a.n)(hb:RgN b.n)(hs:s=[45]∨s=[43]∨s=[42]∨s=[47]∨s=[37]):zC g 120 [S (str s),tv a,tv b] [] (nv (opV s a b)) []:=by
 have q1:=bS [45];have q2:=bS [43];have q3:=bS [42];have q4:=bS [47];have q5:=bS [37];have r1:=ha.1;have r2:=ha.2;have r3:=hb.1;have r4:=hb.2;have e1:(([43]:zB)==[45])=false:=rfl;have f1:(([42]:zB)==[45])=false:=rfl;have f2:(([42]:zB)==[43])=false:=rfl;have g1:(([47]:zB)==[45])=false:=rfl;have g2:(([47]:zB)==[43])=false:=rfl;have g3:(([47]:zB)==[42])=false:=rfl;have h1:(([37]:zB)==[45])=false:=rfl;have h2:(([37]:zB)==[43])=false:=rfl;have h3:(([37]:zB)==[42])=false:=rfl;have h4:(([37]:zB)==[47])=false:=rfl;refine za tf_85 ?_;rcases hs with rfl|rfl|rfl|rfl|rfl
 ·have w1:IntKind.i64.wrap (0-b.n)= -b.n:=wG;have w1':IntKind.i64.wrap (-b.n)= -b.n:=by rw[wrap64 (by omega) (by omega)]
  have w2:IntKind.i64.wrap (a.n+ -b.n)=a.n+ -b.n:=wrap64 (by omega) (by omega);have HN:=z0X g (a.n+ -b.n);rw[show opV [45] a b=z0r (a.n+ -b.n) from rfl];generalize z0r (a.n+ -b.n)=r at*;unfold nv at*;simp only[vW,seval,q1,w1,w1',w2];exact zd HN
 ·have w2:IntKind.i64.wrap (a.n+b.n)=a.n+b.n:=wrap64 (by omega) (by omega);have HN:=z0X g (a.n+b.n);rw[show opV [43] a b=z0r (a.n+b.n) from rfl];generalize z0r (a.n+b.n)=r at*;unfold nv at*;simp only[vW,seval,q1,q2,e1,w2];exact zd HN
 ·have HP:=zjl g a.n b.n ha hb;have HN:=z0X g (z9M a.n b.n);rw[show opV [42] a b=z0r (z9M a.n b.n) from rfl];generalize z0r (z9M a.n b.n)=r at*;unfold nv at*;simp only[vW,seval,q1,q2,q3,f1,f2];refine z7 HP ?_;exact zd HN
 ·have HP:=zai g [47] a.n b.n ha (.inl rfl);have HN:=z0X g (z5Q [47] a.n b.n);rw[show opV [47] a b=z0r (z5Q [47] a.n b.n) from rfl];generalize z0r (z5Q [47] a.n b.n)=r at*;unfold nv at*;simp only[vW,seval,q1,q2,q3,q4,g1,g2,g3];refine z7 HP ?_;exact zd HN
 ·have HP:=zai g [37] a.n b.n ha (.inr rfl);have HN:=z0X g (z5Q [37] a.n b.n);rw[show opV [37] a b=z0r (z5Q [37] a.n b.n) from rfl];generalize z0r (z5Q [37] a.n b.n)=r at*;unfold nv at*;simp only[vW,seval,q1,q2,q3,q4,q5,h1,h2,h3,h4];refine z7 HP ?_;exact zd HN
theorem znH(g:Sh.Glob)(ha:z2A a.s)(hb:z2A b.s):zC g 120 [S (str [38]),tv a,tv b] [] (nv (opV [38] a b)) []:=by
 have q1:=bS [45];have q2:=bS [43];have q3:=bS [42];have q4:=bS [47];have q5:=bS [37];have q6:=bS [38];have h1:(([38]:zB)==[45])=false:=rfl;have h2:(([38]:zB)==[43])=false:=rfl;have h3:(([38]:zB)==[42])=false:=rfl;have h4:(([38]:zB)==[47])=false:=rfl;have h5:(([38]:zB)==[37])=false:=rfl;have la:a.s.length≤60:=ha;have lb:b.s.length≤60:=hb;have HT:=z59 g (a.s++b.s) (by rw[List.length_append];omega);rw[show opV [38] a b=z1X (a.s++b.s) from rfl];generalize z1X (a.s++b.s)=r at*;unfold nv at*;refine za tf_85 ?_;simp only[vW,seval,q1,q2,q3,q4,q5,q6,h1,h2,h3,h4,h5];refine⟨by omega,?_⟩;exact zd HT
theorem znG(g:Sh.Glob)(s:zB)(ha:VSmall a)(hs:s=[61]∨s=[60,62]∨s=[60]∨s=[60,61]∨s=[62]∨s=[62,61]):zC g 120 [S (str s),tv a,tv b] [] (nv (opV s a b)) []:=by
 have q1:=bS [45];have q2:=bS [43];have q3:=bS [42];have q4:=bS [47];have q5:=bS [37];have q6:=bS [38];have h1:(s==[45])=false:=by rcases hs with rfl|rfl|rfl|rfl|rfl|rfl<;>rfl
 have h2:(s==[43])=false:=by rcases hs with rfl|rfl|rfl|rfl|rfl|rfl<;>rfl
 have h3:(s==[42])=false:=by rcases hs with rfl|rfl|rfl|rfl|rfl|rfl<;>rfl
 have h4:(s==[47])=false:=by rcases hs with rfl|rfl|rfl|rfl|rfl|rfl<;>rfl
 have h5:(s==[37])=false:=by rcases hs with rfl|rfl|rfl|rfl|rfl|rfl<;>rfl
 have h6:(s==[38])=false:=by rcases hs with rfl|rfl|rfl|rfl|rfl|rfl<;>rfl
 have HC:=ziz g a b ha;have HH:=znh g s (cmpV a b) hs;have N1:=z0X g 1;have N0:=z0X g 0;have hop:opV s a b=if z3Y s (cmpV a b)then z0r 1 else z0r 0:=by rcases hs with rfl|rfl|rfl|rfl|rfl|rfl<;>rfl
 rw[hop];unfold B at HH;refine za tf_85 ?_;cases hh:z3Y s (cmpV a b)
 ·rw[hh]at HH;simp only[Bool.false_eq_true,if_false];generalize z0r 0=r at*;generalize z0r 1=r' at*;unfold nv at*;simp only[vW,seval,q1,q2,q3,q4,q5,q6,h1,h2,h3,h4,h5,h6];refine z7 HC ?_;refine z8 HH ?_;exact zd N0
 ·rw[hh]at HH;simp only[if_true];generalize z0r 0=r at*;generalize z0r 1=r' at*;unfold nv at*;simp only[vW,seval,q1,q2,q3,q4,q5,q6,h1,h2,h3,h4,h5,h6];refine z7 HC ?_;refine z8 HH ?_;exact zd N1
end
theorem zpL(g:Sh.Glob):∀(n:Nat) (x:V),SizeOf.sizeOf x≤n→VFew x→zC g 119 [tv x] [] (tv x) []:=by
 intro n
 induction n with
 |zero=>intro x hx;cases x;simp at hx
 |succ n ih=>
  intro x hx hs;have hl:=hs.len;have hK:∀y∈x.l,zC g 119 [tv y] [] (tv y) []:=fun y hy=>by
   refine ih y ?_ (hs.sub hy);have:=V.size_lt hy x.k x.n x.s;rw[V.eta]at this;omega
  refine z9U tf_82 ?_;refine zp (σ:={i:Nat // i≤x.l.length}) (fun i=>⟨[(1,.ptr 1 0),(2,.ptr 2 0),(3,.own 3000 4 (V.rows (x.l.take i.1))),(7,.pv (.sl 4 (V.rows x.l))),(8,I (x.l.length:Int)),(9,I (i.1:Int))],[(1,[I x.k,I x.n,S (str x.s),.pv (.sl 4 (V.rows x.l))]),(2,[I 0,I 0,S ⟨#[]⟩,.pv (.v (.slice none 0 0))])],[(3000,(62,4,i.1))],[]⟩) (fun i=>x.l.length-i.1) ⟨0,Nat.zero_le _⟩ ?_ ?_
  ·refine ES.Lw.trans ?_ (z7b (k:=3) (d:=3000) (e:=62) (W:=4) (.inr (by decide)) rfl);exact z0M rfl
  rintro⟨i,hi⟩;by_cases hlt:i<x.l.length
  ·have d1:(i:Int)<(x.l.length:Int):=by omega
   obtain⟨y,ey⟩:∃y,x.l[i]?=some y:=⟨_,gE hlt⟩
   have HF:=hK y (gM ey);have w1:=wS i;have ht:(V.rows (x.l.take i)).length=i:=by rw[z1m,List.length_take];omega
   have hsn:V.rows (x.l.take i)++[V.row y]=V.rows (x.l.take (i+1)):=by
    rw[z0j,z0j,List.take_add_one,ey];simp
   rw[z1b]at hsn;simp only[vW,seval,d1,ey];left;unfold tv at HF;refine z7 HF ?_;simp only[vW,seval,ht,w1,hsn];refine⟨⟨by omega,by unfold maxLen;omega⟩,zc ⟨i+1,hlt⟩ (by show x.l.length-(i+1)<x.l.length-i;omega) ?_⟩;exact lwA
  ·have d1:¬(i:Int)<(x.l.length:Int):=by omega
   obtain rfl:i=x.l.length:=by omega
   simp only[vW,seval,d1,List.take_length]
theorem zn5(g:Sh.Glob)(x:V)(hx:VFew x):zC g 119 [tv x] [] (tv x) []:=zpL g _ x (Nat.le_refl _) hx
end
section
theorem zoJ(ids:List Nat):TV.m1 ids callM=false:=rfl
theorem zoK(ids:List Nat):TV.m2 ids callM=false:=rfl
theorem zoL(ids:List Nat):TV.m3 ids callM=false:=rfl
theorem zhk:TV.ids1 callM=[]:=rfl
theorem zhl:TV.ids2 callM=[]:=rfl
theorem zhm:TV.ids3 callM=[]:=rfl
theorem zhn(ρ:Nat→Option Nat):TV.ren1 ρ callM=some callM:=rfl
theorem zho(ρ:Nat→Option Nat):TV.ren2 ρ callM=some callM:=rfl
theorem zhp(ρ:Nat→Option Nat):TV.ren3 ρ callM=some callM:=rfl
theorem zeS:TV.cells callM=some [callM]:=rfl
theorem cmV:(type_of% @zoJ)∧(type_of% @zoK)∧(type_of% @zoL)∧(type_of% @zhk)∧(type_of% @zhl)∧(type_of% @zhm)∧(type_of% @zhn)∧(type_of% @zho)∧(type_of% @zhp)∧(type_of% @zeS):=⟨@zoJ,@zoK,@zoL,@zhk,@zhl,@zhm,@zhn,@zho,@zhp,@zeS⟩
section
variable{g:Sh.Glob}{f m:Nat}{dst fp:Option Nat}{xs:List Arg}{xs':List TV}{I:List Nat}{os os':List MO}{y:TV}{l:List SOper}{K:ES→Prop}{s s':ES}{G:Prop}
theorem z1Z(hc:zC g f xs' os y os')(hk:zQ Tryz.prog g l K s')(hx:callIn s m xs=some (xs',os,I):=by simp only[vW,seval,cmV];rfl)(hfp:z4R fp I=true:=by rfl)(hmo:moOk os os'=true:=by first|rfl|(simp only[vcA,seval];omega))(hs:callOut s dst I y os'=some s':=by simp only[vW,seval,cmV];rfl):
  zQ Tryz.prog g (⟨dst,none,fp,.call f m xs⟩::l) K s:=zR hx hfp hc hmo hs hk
theorem z1I(hc:zC g f xs' os y os')(h:G)(hx:callIn s m xs=some (xs',os,I):=by simp only[vW,seval,cmV];rfl)(hfp:z4R fp I=true:=by rfl)(hmo:moOk os os'=true:=by first|rfl|(simp only[vcA,seval];omega))(hs:callOut s dst I y os'=some s':=by simp only[vW,seval,cmV];rfl)(hr:zQ Tryz.prog g l K s'=G:=by simp only[vW,seval,cmV];rfl):
  zQ Tryz.prog g (⟨dst,none,fp,.call f m xs⟩::l) K s:=zR hx hfp hc hmo hs (hr▸h)
theorem zeJ(hc:zC g f xs' os y os')(hx:callIn s m xs=some (xs',os,I):=by simp only[vW,seval,cmV];rfl)(hfp:z4R fp I=true:=by rfl)(hmo:moOk os os'=true:=by first|rfl|(simp only[vcA,seval];omega))(hs:callOut s dst I y os'=some s':=by simp only[vW,seval,cmV];rfl)(hr:zQ Tryz.prog g l K s':=by simp only[vW,seval,cmV]):
  zQ Tryz.prog g (⟨dst,none,fp,.call f m xs⟩::l) K s:=zR hx hfp hc hmo hs hr
end
def zqR(s:zB):Option TV:=(callL.find? fun p=>p.1==s).map (·.2)
theorem zoI{s:zB}(h:0<zm s):∃y,zqR s=some y∧zfr true (.agg #[.nilFunc,.nilFunc]) (some callM) (some (.string (str s)))=some (y,.no):=by
 rcases z3b h with rfl|rfl|rfl|rfl|rfl|rfl|rfl|rfl|rfl|rfl<;>exact⟨_,rfl,by kernel_rfl⟩
def scp(c:Cls)(vs:PV):List TV:=[S (str c.n),.pv (.sl 4 (flR c.fs)),.pv vs,callM]
theorem zbH{t:V→Ty×Bool}(x:V):∀(l:List V),z0z t (l++[x])=match z0z t l with|some ps=>if(t x).2 then some (ps++[(t x).1])else none|none=>none
 |[]=>by simp only[List.nil_append,z0z];cases(t x).2<;>rfl
 |y::l=>by
  rw[List.cons_append,z0z,z0z,zbH x l];cases(t y).2
  ·rfl
  ·simp only[if_true];cases z0z t l with
   |none=>rfl
   |some ps=>cases(t x).2<;>rfl
theorem zdn{t:V→Ty×Bool}:∀{l:List V} {x:V},x∈l→(t x).2=false→z0z t l=none
 |y::l,x,hx,h=>by
  rw[z0z];rcases List.mem_cons.1 hx with rfl|hx
  ·rw[h];rfl
  ·rw[zdn hx h];cases(t y).2<;>rfl
theorem zqA(L:List Ty)(k:Nat)(t:Ty)(h:k<L.length):List.take (k*2) (tyC L)++[TV.pv (.v (.int .i64 t.k)),TV.pv (.v (.int .i64 t.o))]++List.drop (k*2+2) (tyC L)=tyC (L.set k t):=by
 induction L generalizing k with
 |nil=>simp at h
 |cons p L ih=>
  cases k with
  |zero=>rfl
  |succ k=>
   have:=ih k (by simpa using h);rw[List.set_cons_succ];show List.take ((k+1)*2) (I p.k::I p.o::tyC L)++[I t.k,I t.o]++List.drop ((k+1)*2+2) (I p.k::I p.o::tyC L)=I p.k::I p.o::tyC (L.set k t);rw[show(k+1)*2=k*2+2 by omega];show I p.k::I p.o::(List.take (k*2) (tyC L)++[I t.k,I t.o]++List.drop (k*2+2) (tyC L))=_;rw[show List.take (k*2) (tyC L)++[I t.k,I t.o]++List.drop (k*2+2) (tyC L)=tyC (L.set k t) from this]
theorem zg6{α:Type}(L:List α)(i:Nat)(x:α)(h:i<L.length):(L.set i x).take (i+1)=L.take i++[x]:=by
 rw[List.take_add_one,List.take_set_of_le (Nat.le_refl _),List.getElem?_set_self h];rfl
theorem zop(n:Nat):(List.replicate n [TV.pv (.v (.int .i64 0)),TV.pv (.v (.int .i64 0))]).flatten=tyC (List.replicate n ty0):=by
 induction n with
 |zero=>rfl
 |succ n ih=>
  rw[List.replicate_succ,List.flatten_cons,ih];rfl
def zeC(g:Sh.Glob)(c:Cls)(vs:PV)(d:Nat):Prop:=∀e,okE d e=true→ESmall e→zC g 100 [.ptr 1000 0,tv e] [.box (scp c vs)] (tyB (zl c.fs d e)) [.box (scp c vs)]
theorem zm4(g:Sh.Glob)(c:Cls)(vs:PV)(hc:c.fs.length≤4611686018427387904)(d:Nat)(IH:zeC g c vs d):zeC g c vs (d+1):=by
  intro e he hs
  obtain⟨hn,hk⟩:=z2G he
  have hl3:e.l.length≤3:=by
    rcases z23 hn with k|k|k|k|k|k
    · rw[(z6C hn k).2.2.2];simp
    · rw[(z5g hn k).2.2];simp
    · rw[(z7P hn k).2.2];simp
    · obtain⟨_,_,a,b,h⟩:=z3M hn k;rw[h];simp
    · obtain⟨_,_,a,h⟩:=z5h hn k;rw[h];simp
    · have h1:=(z4E hn k).2.2
      have h2:=z62 e.s
      omega
  obtain⟨R,hR⟩:∃R,zl c.fs (d+1) e=R:=⟨_,rfl⟩
  rw[hR]
  unfold zl at hR
  have hKid:∀y∈e.l,zC g 100 [.ptr 1000 0,tv y] [.box (scp c vs)] (tyB (zl c.fs d y)) [.box (scp c vs)]:=fun y hy=>IH y (hk y hy) (hs.sub hy)
  unfold scp at*
  refine zo tf_18 ?_
  simp only[vW,seval,cmV,tyV,zop]
  refine⟨⟨by omega,by unfold maxLen;omega⟩,?_⟩
  refine zp (σ:={p:Nat×List Ty // p.1≤e.l.length∧p.2.length=e.l.length∧z0z (zl c.fs d) (e.l.take p.1)=some (p.2.take p.1)})
    (fun p=>⟨[(0,.ptr 1000 0),(3,.ptr 3 0),(4,.ptr 4 0),(6,.bs 16 0 e.l.length e.l.length),(18,.pv (.sl 4 (V.rows e.l))),(19,I (e.l.length:Int)),(20,I (p.1.1:Int))],
      [(1000,[S (str c.n),.pv (.sl 4 (flR c.fs)),.pv vs,callM]),(3,[I e.k,I e.n,S (str e.s),.pv (.sl 4 (V.rows e.l))]),(4,[I 0,I 0]),(16,tyC p.1.2)],[],[]⟩) (fun p=>e.l.length-p.1.1)
    ⟨(0,List.replicate e.l.length ty0),Nat.zero_le _,by simp,by simp[z0z]⟩ ?_ ?_
  · exact lwA
  rintro⟨⟨i,L⟩,hi,hL,hT⟩
  simp only at hi hL hT
  by_cases hlt:i<e.l.length
  · have d1:(i:Int)<(e.l.length:Int):=by omega
    obtain⟨y,ey⟩:∃y,e.l[i]?=some y:=⟨_,gE hlt⟩
    have hmem:=gM ey
    have HF:=hKid y hmem
    have w1:=wS i
    have htk:e.l.take (i+1)=e.l.take i++[y]:=by rw[List.take_add_one,ey];rfl
    unfold tyB B at HF
    simp only[vW,seval,d1,ey,cmV,tyV]
    (with_reducible apply zR);simp only[vW,seval,cmV,tyV];rfl;rfl;exact HF;exact km;simp only[vW,seval,cmV,tyV];rfl
    cases h2:(zl c.fs d y).2
    · rw[zdn hmem h2]at hR
      simp only[vW,seval,cmV,tyV]
      rw[←hR];rfl
    · have hset:=zqA L i (zl c.fs d y).1 (by omega)
      simp only[vW,seval,cmV,tyV,w1,hset]
      refine⟨by omega,by omega,zc ⟨(i+1,L.set i (zl c.fs d y).1),hlt,by simp[hL],by simp only;rw[htk,zbH,hT,zg6 L i _ (by omega),h2];rfl⟩ (by show e.l.length-(i+1)<e.l.length-i;omega) ?_⟩
      exact lwA
  · have d1:¬(i:Int)<(e.l.length:Int):=by omega
    obtain rfl:i=e.l.length:=by omega
    rw[List.take_length,←hL,List.take_length]at hT
    rw[hT]at hR
    simp only at hR
    unfold z2m at hR
    rcases z23 hn with k|k|k|k|k|k
    · rw[if_neg (by omega),if_neg (by omega),if_neg (by omega),if_neg (by omega),if_neg (by omega)]at hR
      simp only[vW,seval,d1,cmV,tyV,k]
      rw[←hR]
    · rw[if_pos k]at hR
      simp only[vW,seval,d1,cmV,tyV,k]
      rw[←hR]
    · rw[if_neg (by omega),if_pos k]at hR
      have HA:=z4Q g c e.s hc
      unfold z1L clT B at HA
      by_cases hf:fieldAt c.fs e.s<0
      · rw[if_pos hf]at HA hR
        simp only[vW,seval,d1,cmV,tyV,k]
        refine z1Z HA ?_
        simp only[vW,seval,cmV,tyV]
        rw[←hR];rfl
      · rw[if_neg hf]at HA hR
        obtain⟨q,hq⟩:∃q:Nat,fieldAt c.fs e.s=q:=⟨(fieldAt c.fs e.s).toNat,by omega⟩
        obtain⟨f,hf1,_⟩:=z2R _ _ q hq
        rw[hq]at HA hR
        rw[Int.toNat_natCast,z4T hf1]at hR
        simp only[vW,seval,d1,cmV,tyV,k]
        refine z1Z HA ?_
        simp only[vW,seval,cmV,tyV,clV,hf1]
        rw[←hR]
    · rw[if_neg (by omega),if_neg (by omega),if_pos k]at hR
      obtain⟨_,hb,a,b,hab⟩:=z3M hn k
      have hlen:L.length=2:=by rw[hL,hab];rfl
      obtain⟨p,q,rfl⟩:∃p q,L=[p,q]:=by
        match L,hlen with
        |[p,q],_=>exact⟨p,q,rfl⟩
      have HO:=zgQ g e.s
      have T1:=z1o g 1 [1,1] [p,q] rfl (by simp)
      have T2:=z1o g 2 [2,2] [p,q] rfl (by simp)
      have T3:=znF g p q
      unfold zj8 at HO
      unfold zbL at hR
      have hl2:e.l.length=2:=by rw[hab];rfl
      by_cases h1:e.s=[43]∨e.s=[45]∨e.s=[42]∨e.s=[47]∨e.s=[37]
      · rw[if_pos h1]at HO hR
        unfold z0c at HO
        rw[hR]at T1
        simp only[vW,seval,d1,cmV,tyV,k,hl2]
        refine z1Z HO ?_
        simp only[vW,seval,cmV,tyV]
        unfold tyB B at T1
        (with_reducible apply zG);simp only[vW,seval,cmV,tyV];rfl;exact T1;rfl;simp only[vW,seval,cmV,tyV];rfl
        simp only[vW,seval,cmV,tyV]
      · rw[if_neg h1]at HO hR
        by_cases h2:e.s=[38]
        · rw[if_pos h2]at HO hR
          unfold z0c at HO
          rw[hR]at T2
          simp only[vW,seval,d1,cmV,tyV,k,hl2]
          refine z1Z HO ?_
          simp only[vW,seval,cmV,tyV]
          unfold tyB B at T2
          (with_reducible apply zG);simp only[vW,seval,cmV,tyV];rfl;exact T2;rfl;simp only[vW,seval,cmV,tyV];rfl
          simp only[vW,seval,cmV,tyV]
        · rw[if_neg h2]at HO hR
          have hR:((⟨1,0⟩:Ty),z1Q p q)=R:=hR
          rw[hR]at T3
          simp only[vW,seval,d1,cmV,tyV,k,hl2]
          refine z1Z HO ?_
          simp only[vW,seval,cmV,tyV]
          unfold tyB B at T3
          (with_reducible apply zG);simp only[vW,seval,cmV,tyV];rfl;exact T3;rfl;simp only[vW,seval,cmV,tyV];rfl
          simp only[vW,seval,cmV,tyV]
    · rw[if_neg (by omega),if_neg (by omega),if_neg (by omega),if_pos k]at hR
      obtain⟨_,hb,a,hab⟩:=z5h hn k
      have hl1:e.l.length=1:=by rw[hab];rfl
      obtain⟨p,rfl⟩:∃p,L=[p]:=by
        match L,hL.trans hl1 with
        |[p],_=>exact⟨p,rfl⟩
      have HO:=z2h g 1 [1]
      have T1:=z1o g 1 [1] [p] rfl (by simp)
      unfold z0c at HO
      rw[hR]at T1
      simp only[vW,seval,d1,cmV,tyV,k,hl1]
      (with_reducible apply zR);simp only[vW,seval,cmV,in1];rfl;rfl;exact HO;exact km;simp only[vW,seval,cmV,in1];rfl
      simp only[vW,seval,cmV,tyV]
      unfold tyB B at T1
      (with_reducible apply zG);simp only[vW,seval,cmV,tyV];rfl;exact T1;rfl;simp only[vW,seval,cmV,tyV];rfl
      simp only[vW,seval,cmV,tyV]
    · rw[if_neg (by omega),if_neg (by omega),if_neg (by omega),if_neg (by omega),if_pos k]at hR
      obtain⟨_,hb,hlk⟩:=z4E hn k
      obtain⟨y,hy,hlkp⟩:=zoI hb
      generalize hs':e.s=s' at hb hy hlkp hlk hR
      rcases z3b hb with rfl|rfl|rfl|rfl|rfl|rfl|rfl|rfl|rfl|rfl
      · have hl1 : e.l.length = 1 := by have : zm z4C = 1 := by decide
                                        omega
        obtain⟨p,rfl⟩:∃p,L=[p]:=by
          match L,hL.trans hl1 with
          |[p],_=>exact⟨p,rfl⟩
        obtain rfl:clE (z0c 1 [2]) (fnP 102)=y:=Option.some.inj hy
        have T1:=z1o g 1 [2] [p] rfl (by simp)
        rw[show zK 1 [2] [p]=R from hR]at T1
        unfold clE z0c fnP at hlkp
        unfold tyB B at T1
        simp only[vW,seval,d1,cmV,tyV,k,hl1,hs',hlkp]
        (with_reducible apply zG);simp only[vW,seval,cmV,tyV];rfl;exact T1;rfl;simp only[vW,seval,cmV,tyV];rfl
        simp only[vW,seval,cmV,tyV]
      · have hl1 : e.l.length = 1 := by have : zm z1l = 1 := by decide
                                        omega
        obtain⟨p,rfl⟩:∃p,L=[p]:=by
          match L,hL.trans hl1 with
          |[p],_=>exact⟨p,rfl⟩
        obtain rfl:clE (z0c 2 [1]) (fnP 112)=y:=Option.some.inj hy
        have T1:=z1o g 2 [1] [p] rfl (by simp)
        rw[show zK 2 [1] [p]=R from hR]at T1
        unfold clE z0c fnP at hlkp
        unfold tyB B at T1
        simp only[vW,seval,d1,cmV,tyV,k,hl1,hs',hlkp]
        (with_reducible apply zG);simp only[vW,seval,cmV,tyV];rfl;exact T1;rfl;simp only[vW,seval,cmV,tyV];rfl
        simp only[vW,seval,cmV,tyV]
      · have hl1 : e.l.length = 1 := by have : zm z4D = 1 := by decide
                                        omega
        obtain⟨p,rfl⟩:∃p,L=[p]:=by
          match L,hL.trans hl1 with
          |[p],_=>exact⟨p,rfl⟩
        obtain rfl:clE (z0c 1 [2]) (fnP 113)=y:=Option.some.inj hy
        have T1:=z1o g 1 [2] [p] rfl (by simp)
        rw[show zK 1 [2] [p]=R from hR]at T1
        unfold clE z0c fnP at hlkp
        unfold tyB B at T1
        simp only[vW,seval,d1,cmV,tyV,k,hl1,hs',hlkp]
        (with_reducible apply zG);simp only[vW,seval,cmV,tyV];rfl;exact T1;rfl;simp only[vW,seval,cmV,tyV];rfl
        simp only[vW,seval,cmV,tyV]
      · have hl1 : e.l.length = 2 := by have : zm z1E = 2 := by decide
                                        omega
        obtain⟨p,q,rfl⟩:∃p q,L=[p,q]:=by
          match L,hL.trans hl1 with
          |[p,q],_=>exact⟨p,q,rfl⟩
        obtain rfl:clE (z0c 2 [2,1]) (fnP 105)=y:=Option.some.inj hy
        have T1:=z1o g 2 [2,1] [p,q] rfl (by simp)
        rw[show zK 2 [2,1] [p,q]=R from hR]at T1
        unfold clE z0c fnP at hlkp
        unfold tyB B at T1
        simp only[vW,seval,d1,cmV,tyV,k,hl1,hs',hlkp]
        (with_reducible apply zG);simp only[vW,seval,cmV,tyV];rfl;exact T1;rfl;simp only[vW,seval,cmV,tyV];rfl
        simp only[vW,seval,cmV,tyV]
      · have hl1 : e.l.length = 2 := by have : zm z13 = 2 := by decide
                                        omega
        obtain⟨p,q,rfl⟩:∃p q,L=[p,q]:=by
          match L,hL.trans hl1 with
          |[p,q],_=>exact⟨p,q,rfl⟩
        obtain rfl:clE (z0c 2 [2,1]) (fnP 108)=y:=Option.some.inj hy
        have T1:=z1o g 2 [2,1] [p,q] rfl (by simp)
        rw[show zK 2 [2,1] [p,q]=R from hR]at T1
        unfold clE z0c fnP at hlkp
        unfold tyB B at T1
        simp only[vW,seval,d1,cmV,tyV,k,hl1,hs',hlkp]
        (with_reducible apply zG);simp only[vW,seval,cmV,tyV];rfl;exact T1;rfl;simp only[vW,seval,cmV,tyV];rfl
        simp only[vW,seval,cmV,tyV]
      · have hl1 : e.l.length = 2 := by have : zm z1D = 2 := by decide
                                        omega
        obtain⟨p,q,rfl⟩:∃p q,L=[p,q]:=by
          match L,hL.trans hl1 with
          |[p,q],_=>exact⟨p,q,rfl⟩
        obtain rfl:clE (z0c 2 [2,1]) (fnP 109)=y:=Option.some.inj hy
        have T1:=z1o g 2 [2,1] [p,q] rfl (by simp)
        rw[show zK 2 [2,1] [p,q]=R from hR]at T1
        unfold clE z0c fnP at hlkp
        unfold tyB B at T1
        simp only[vW,seval,d1,cmV,tyV,k,hl1,hs',hlkp]
        (with_reducible apply zG);simp only[vW,seval,cmV,tyV];rfl;exact T1;rfl;simp only[vW,seval,cmV,tyV];rfl
        simp only[vW,seval,cmV,tyV]
      · have hl1 : e.l.length = 2 := by have : zm z2l = 2 := by decide
                                        omega
        obtain⟨p,q,rfl⟩:∃p q,L=[p,q]:=by
          match L,hL.trans hl1 with
          |[p,q],_=>exact⟨p,q,rfl⟩
        obtain rfl:clE (z0c 1 [2,2]) (fnP 110)=y:=Option.some.inj hy
        have T1:=z1o g 1 [2,2] [p,q] rfl (by simp)
        rw[show zK 1 [2,2] [p,q]=R from hR]at T1
        unfold clE z0c fnP at hlkp
        unfold tyB B at T1
        simp only[vW,seval,d1,cmV,tyV,k,hl1,hs',hlkp]
        (with_reducible apply zG);simp only[vW,seval,cmV,tyV];rfl;exact T1;rfl;simp only[vW,seval,cmV,tyV];rfl
        simp only[vW,seval,cmV,tyV]
      · have hl1 : e.l.length = 2 := by have : zm z4X = 2 := by decide
                                        omega
        obtain⟨p,q,rfl⟩:∃p q,L=[p,q]:=by
          match L,hL.trans hl1 with
          |[p,q],_=>exact⟨p,q,rfl⟩
        obtain rfl:clE (z0c 1 [1,1]) (fnP 117)=y:=Option.some.inj hy
        have T1:=z1o g 1 [1,1] [p,q] rfl (by simp)
        rw[show zK 1 [1,1] [p,q]=R from hR]at T1
        unfold clE z0c fnP at hlkp
        unfold tyB B at T1
        simp only[vW,seval,d1,cmV,tyV,k,hl1,hs',hlkp]
        (with_reducible apply zG);simp only[vW,seval,cmV,tyV];rfl;exact T1;rfl;simp only[vW,seval,cmV,tyV];rfl
        simp only[vW,seval,cmV,tyV]
      · have hl1 : e.l.length = 2 := by have : zm z5D = 2 := by decide
                                        omega
        obtain⟨p,q,rfl⟩:∃p q,L=[p,q]:=by
          match L,hL.trans hl1 with
          |[p,q],_=>exact⟨p,q,rfl⟩
        obtain rfl:clE (z0c 1 [1,1]) (fnP 118)=y:=Option.some.inj hy
        have T1:=z1o g 1 [1,1] [p,q] rfl (by simp)
        rw[show zK 1 [1,1] [p,q]=R from hR]at T1
        unfold clE z0c fnP at hlkp
        unfold tyB B at T1
        simp only[vW,seval,d1,cmV,tyV,k,hl1,hs',hlkp]
        (with_reducible apply zG);simp only[vW,seval,cmV,tyV];rfl;exact T1;rfl;simp only[vW,seval,cmV,tyV];rfl
        simp only[vW,seval,cmV,tyV]
      · have hl1 : e.l.length = 3 := by have : zm nIf = 3 := by decide
                                        omega
        obtain⟨p,q,r,rfl⟩:∃p q r,L=[p,q,r]:=by
          match L,hL.trans hl1 with
          |[p,q,r],_=>exact⟨p,q,r,rfl⟩
        obtain rfl:clE (fnP 115) (fnP 116)=y:=Option.some.inj hy
        have T1:=zkf g p q r
        rw[show z2c [p,q,r]=R from hR]at T1
        unfold clE fnP at hlkp
        unfold tyB B at T1
        simp only[vW,seval,d1,cmV,tyV,k,hl1,hs',hlkp]
        (with_reducible apply zG);simp only[vW,seval,cmV,tyV];rfl;exact T1;rfl;simp only[vW,seval,cmV,tyV];rfl
        simp only[vW,seval,cmV,tyV]
theorem zdR(g:Sh.Glob)(c:Cls)(vs:PV)(hc:c.fs.length≤4611686018427387904):∀d,zeC g c vs d
 |0=>fun e he=>by simp[okE]at he
 |d+1=>zm4 g c vs hc d (zdR g c vs hc d)
end
end Go.Proofs.YtbkgnekfigknhaaGreatDoor
end
