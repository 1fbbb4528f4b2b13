/- Merged texts: Zm8 Fl Zm9 Zm10 Zm5 Zm11 Cd2 Po1 Zo6 Zo8 Zo9 Wire1 Wire2 Wire3 Wire4 Wire5 Pr1 PrA PrX Zy4 PRead Zn0 Zn3. No statement of the program is proved here. -/
import Derived.Test.YthinnldeogflgaaGreatDoorQ27
import Derived.Test.YthinnldeogflgaaGreatDoorQ28
import Derived.RangeFuncNested
import Derived.RangeFuncBound
import Derived.RangeFuncLeaves
import Derived.RangeFuncBox
import Derived.Shelf.Abstract
import Derived.Shelf.RegionOpen
import Derived.OwnWalkIn
import Derived.TacticsInMore
import Derived.LoopNIn
import Derived.LoopIn
import Derived.Maps.AppendAt
import Derived.LaidEql
import Derived.Stop.Asserts
import Derived.RowKitTokens
set_option linter.unusedSimpArgs false
set_option linter.unusedVariables false
set_option maxRecDepth 100000
set_option maxHeartbeats 8000000
section
namespace Go.Proofs.YthinnldeogflgaaGreatDoor
open Go Go.RowKit Go.Mor Go.Sh
section
open Go.Sh.Cd1 Go.Sh.Cd7
theorem zh9{l:List V}{i:Nat}{v:V}(h:l[i]?=some v):V.rows (l.take (i+1))=V.rows (l.take i)++[V.row v]:=by rw[List.take_add_one,h];simp[V.rows]
theorem zin(g:Sh.Glob):∀(n:Nat) (l:List V),SizeOf.sizeOf l≤n→l.length≤1000→(∀v∈l,VFew v)→zC g 160 [.pv (.sl 4 (V.rows l))] [] (.own 1000 4 (V.rows l)) [.row 78 4 l.length]:=by
 intro n
 induction n with
 |zero=>intro l hs;cases l<;>simp at hs
 |succ n ih=>
  intro l hs hl hf;have IH:∀v∈l,zC g 160 [.pv (.sl 4 (V.rows v.l))] [] (.own 1000 4 (V.rows v.l)) [.row 78 4 v.l.length]:=fun v hv=>by
   have h1:=List.sizeOf_lt_of_mem hv;have h2:=hf v hv;refine ih v.l ?_ h2.len (fun y hy=>h2.sub hy);cases v with
   |mk k m s vl=>
    have:SizeOf.sizeOf vl<SizeOf.sizeOf (V.mk k m s vl):=by simp;omega
    simp only[Vl];omega
  refine zei tf_33 ?_;refine zz (σ:={i:Nat // i≤l.length}) (fun i=>⟨[(3,.own 3000 4 (V.rows (l.take i.1))),(6,.pv (.sl 4 (V.rows l))),(7,I (l.length:Int)),(8,I (i.1:Int))],[],[(3000,(78,4,i.1))],[]⟩) (fun i=>l.length-i.1) ⟨0,Nat.zero_le _⟩ ?_ ?_
  ·refine ES.Lw.trans ?_ (show ES.Lw ⟨[(3,zH),(6,.pv (.sl 4 (V.rows l))),(7,I (l.length:Int)),(8,I 0)],[],[],[]⟩ _ by exact lwA);refine ES.Lw.trans ?_ (z6z (k:=3) (d:=3000) (e:=78) (W:=4) (.inr (by decide)) rfl);exact z1u rfl
  rintro⟨i,hi⟩;by_cases hlt:i<l.length
  ·have d1:(i:Int)<(l.length:Int):=by omega
   obtain⟨v,ev⟩:∃v,l[i]?=some v:=⟨_,gE hlt⟩
   have w1:=wS i;have HI:=IH v (gM ev);have hm:=zh9 ev;have hlen:(l.take i).length=i:=by rw[List.length_take];omega
   simp only[vW,seval,d1,ev];refine z7 HI ?_;simp only[vW,seval,hlen,w1];refine⟨⟨by omega,by unfold maxLen;omega⟩,zb ⟨i+1,hlt⟩ (by show l.length-(i+1)<l.length-i;omega) ?_⟩;simp only[hm];apply z1E<;>simp[leL,lk,sv,Nat.beq,I,S,ES.kill,has,drp,zH,z1M]
  have d1:¬(i:Int)<(l.length:Int):=by omega
  obtain rfl:i=l.length:=by omega
  rw[List.take_length];simp only[vW,seval,d1]
theorem z22(g:Sh.Glob)(l:List V)(hl:l.length≤1000)(hf:∀v∈l,VFew v):zC g 160 [.pv (.sl 4 (V.rows l))] [] (.own 1000 4 (V.rows l)) [.row 78 4 l.length]:=zin g _ l (Nat.le_refl _) hl hf
end
def flC(l:List Fld):List PV:=(flR l).flatten
theorem flW(l:List Fld):∀cs∈flR l,cs.length=4:=by
 intro cs h;unfold flR at h;obtain⟨f,_,rfl⟩:=List.mem_map.1 h;rfl
theorem z36(l:List Fld):(flC l).length=l.length*4:=by unfold flC;rw[z1J (flW l),z2z]
theorem zlq{l:List Fld}{k j:Nat}{f:Fld}{p:PV}(h:l[k]?=some f)(hj:(flR1 f)[j]?=some p):(flC l)[k*4+j]?=some p:=by
 unfold flC;exact z62 (flW l) (by rw[zeX,h];rfl) hj
theorem z4z{f':Fld}{p:PV}{j:Nat}(hj:j<4):∀{l:List Fld} {k:Nat} {f:Fld},l[k]?=some f→(flR1 f).set j p=flR1 f'→(flC l).set (k*4+j) p=flC (l.set k f')
 |[],k,f,h,_=>by simp at h
 |g::l,0,f,h,he=>by
  obtain rfl:g=f:=by simpa using h
  show(flR1 g++flC l).set (0*4+j) p=flR1 f'++flC l;rw[Nat.zero_mul,Nat.zero_add,List.set_append_left _ _ (by exact hj),he]
 |g::l,k+1,f,h,he=>by
  show(flR1 g++flC l).set ((k+1)*4+j) p=flR1 g++flC (l.set k f');have:(k+1)*4+j=(flR1 g).length+(k*4+j):=by show _=4+_;omega
  rw[this,List.set_append_right _ _ (by omega),Nat.add_sub_cancel_left,z4z hj (by simpa using h) he]
section
open Go.Sh.Cd1 Go.Sh.Cd7
theorem zcG(y z:PV):∀{xs:List PV} {i:Nat},i+1<xs.length→List.take i (pvC xs)++[TV.pv y,TV.pv z]++List.drop (i+2) (pvC xs)=pvC ((xs.set i y).set (i+1) z)
 |[],i,h=>by simp at h
 |[a],i,h=>by simp at h
 |a::b::l,0,h=>rfl
 |a::b::l,i+1,h=>by
  have:=zcG y z (xs:=b::l) (i:=i) (by simpa using h);show TV.pv a::(List.take i (pvC (b::l))++[TV.pv y,TV.pv z]++List.drop (i+2) (pvC (b::l)))=TV.pv a::pvC (((b::l).set i y).set (i+1) z);rw[this]
theorem zg6(g:Sh.Glob)(l:List Fld)(hm:l.length≤1000)(hne:l≠[]):zC g 159 [.pv (.sl 4 (flR l))] [] (.bs 1000 0 l.length l.length) [.box (pvC (flC l))]:=by
 have h:=(zbV g l (by unfold maxLen;omega) (by omega)).boxed (fun h=>hne (by unfold flR at h;simpa using h)) (fun cs hcs=>⟨flW l cs hcs,fun c hc=>by
  unfold flR at hcs;obtain⟨f,_,rfl⟩:=List.mem_map.1 hcs;simp only[flR1,List.mem_cons,List.not_mem_nil,or_false]at hc;rcases hc with rfl|rfl|rfl|rfl<;>rfl⟩)
 rw[z2z]at h;exact h
theorem z6g{α:Type}{l:List α}{i:Nat}{x:α}(h:i<l.length):z0r l i [x]=l.set i x:=by unfold z0r;rw[List.set_eq_take_append_cons_drop,if_pos h];simp
theorem zc5(l:List Fld)(i:Nat)(xs:List Fld):flR (z0r l i xs)=(flR l).take i++flR xs++(flR l).drop (i+1):=by unfold flR z0r;simp[List.map_take,List.map_drop]
theorem z3o{fs:List Fld}{s:zB}(h:z1c fs s=true):∃f,fs[atV fs s]?=some f∧f.n=s∧fs.getD (atV fs s) za2=f:=by
 unfold z1c at h;have h0:¬fieldAt fs s<0:=by simpa using h
 obtain⟨f,hf,hn⟩:=z3j (fun f:Fld=>f.n==s) fs (atV fs s) (by unfold atV fieldAt at*;omega);exact⟨f,hf,by simpa using hn,by rw[List.getD_eq_getElem?_getD,hf];rfl⟩
theorem zgt(g:Sh.Glob)(c:Cls)(h:Chg)(hk:h.k=1∨h.k=2∨h.k=3∨h.k=4∨h.k=5∨h.k=6)(hl:c.fs.length≤1000)(hh:h.k≠1→z1c c.fs h.f=true):zC g (zc6 h.k) [.pv (.el (wkC c h))] [] (.pv (.sl 4 (flR (z18 c h)))) []:=by
 have HC:=zbV g c.fs (by unfold maxLen;omega) (by omega);have HK2:=fun ls h1 h2=>zeL g ls h1 h2;have hidx:h.k≠1→∃f,c.fs[atV c.fs h.f]?=some f∧c.fs.getD (atV c.fs h.f) za2=f:=fun hn=>by
  obtain⟨f,h1,_,h2⟩:=z3o (hh hn);exact⟨f,h1,h2⟩
 have HB:=fun(hne:c.fs≠[])=>zg6 g c.fs hl hne;unfold wkC z18 zc6;generalize tlT c h.t (zt c h.x h.t)=px at*;generalize tlT c h.t (zt c h.o h.t)=po at*;generalize z1c c.fs h.f=hb at*;generalize atV c.fs h.f=i at*;obtain⟨k,f,n,m,t,x,o⟩:=h;simp only[]at*;by_cases h1:k=1
 ·subst h1;rw[if_pos rfl,if_pos rfl];refine z3T tf_0 ?_;unfold wkP;simp only[vW,seval];left;refine z7 HC ?_;simp only[vW,seval,clV];refine⟨⟨by omega,by unfold maxLen;omega⟩,?_⟩;simp[flR,flR1]
 obtain⟨fd,ef,eg⟩:=hidx h1;rw[eg];have hi:=(gJ ef).1;have hne:c.fs≠[]:=fun e=>by rw[e]at hi;simp at hi
 have HB:=HB hne;rcases hk with rfl|rfl|rfl|rfl|rfl|rfl
 ·exact absurd rfl h1
 ·rw[if_neg (by decide),if_pos rfl,if_neg (by decide),if_pos rfl];have w1:=wS i;refine z3T tf_2 ?_;unfold wkP;have HD:=HK2 [(flR c.fs).take i,(flR c.fs).drop (i+1)] (by show 2≤1000;decide) (by simp[z2z];omega);simp only[slR,List.map_cons,List.map_nil]at HD;have tl:List.take c.fs.length (flR c.fs)=flR c.fs:=List.take_of_length_le (by rw[z2z];omega);simp only[vW,seval,w1,clV,tl,List.drop_zero];refine⟨⟨by omega,by omega⟩,by omega,?_⟩;refine z6 HD ?_;rw[zc5];simp[flR]
 ·rw[if_neg (by decide),if_neg (by decide),if_pos rfl,if_neg (by decide),if_neg (by decide),if_pos rfl];refine z11 za tf_13 rfl ?_
  conv in SFunc.code _=>reduce
  unfold wkP;refine zh za ?_;simp only[vW,seval];refine zh za ?_;simp only[vW,seval];refine z6 HB ?_;refine zh za ?_;simp only[vW,seval,clV];refine⟨by omega,by rw[z36];omega,?_⟩;rw[zad (by rw[z36];omega),z4z (by decide) ef (f':=⟨n,fd.t,fd.ix⟩) rfl];refine z1g (z4K (k:=3) (d:=2036) (es:=flR (c.fs.set i ⟨n,fd.t,fd.ix⟩)) (c:=c.fs.length) rfl (flW _) (by show some _=some _;rw[z2z,List.length_set])) (z1a za ?_);simp only[vW,seval];rw[z6g hi]
 ·rw[if_neg (by decide),if_neg (by decide),if_neg (by decide),if_pos rfl,if_neg (by decide),if_neg (by decide),if_neg (by decide),if_pos rfl];refine z11 za tf_16 rfl ?_
  conv in SFunc.code _=>reduce
  unfold wkP;refine zh za ?_;simp only[vW,seval];refine zh za ?_;simp only[vW,seval];refine z6 HB ?_;refine zh za ?_;have hs1:List.take (i*4+1) (pvC (flC c.fs))++[TV.pv (.v (.int .i64 t.k)),TV.pv (.v (.int .i64 t.o))]++List.drop (i*4+1+2) (pvC (flC c.fs))=pvC (flC (c.fs.set i ⟨fd.n,t,fd.ix⟩)):=by
   rw[zcG _ _ (by rw[z36];omega),z4z (by decide) ef (f':=⟨fd.n,⟨t.k,fd.t.o⟩,fd.ix⟩) rfl,z4z (j:=2) (by decide) (f:=⟨fd.n,⟨t.k,fd.t.o⟩,fd.ix⟩) (by simp[hi]) (f':=⟨fd.n,t,fd.ix⟩) rfl,List.set_set]
  simp only[vW,seval,clV,hs1];refine⟨by omega,by rw[z36];omega,by omega,by rw[z36,List.length_set];omega,?_⟩;rw[zad (by rw[z36,List.length_set];omega),z4z (by decide) (f:=⟨fd.n,t,fd.ix⟩) (by simp[hi]) (f':=⟨fd.n,t,false⟩) rfl,List.set_set];refine z1g (z4K (k:=3) (d:=2036) (es:=flR (c.fs.set i ⟨fd.n,t,false⟩)) (c:=c.fs.length) rfl (flW _) (by show some _=some _;rw[z2z,List.length_set])) (z1a za ?_);simp only[vW,seval];rw[z6g hi]
 ·rw[if_neg (by decide),if_neg (by decide),if_neg (by decide),if_neg (by decide),if_pos rfl,if_neg (by decide),if_neg (by decide),if_neg (by decide),if_neg (by decide),if_pos rfl];have w1:=wS i;refine z3T tf_14 ?_;unfold wkP;have HD:=HK2 [(flR c.fs).take i,flR [⟨n,t,false⟩,⟨m,t,false⟩],(flR c.fs).drop (i+1)] (by show 3≤1000;decide) (by simp[flR];omega);simp only[slR,List.map_cons,List.map_nil,flR,flR1]at HD;have tl:List.take c.fs.length (flR c.fs)=flR c.fs:=List.take_of_length_le (by rw[z2z];omega);simp only[vW,seval,w1,clV,tl,List.drop_zero];refine⟨⟨by omega,by omega⟩,by omega,?_⟩;refine z6 HD ?_;rw[zc5];simp[flR,flR1]
 ·rw[if_neg (by decide),if_neg (by decide),if_neg (by decide),if_neg (by decide),if_neg (by decide),if_neg (by decide),if_neg (by decide),if_neg (by decide),if_neg (by decide),if_neg (by decide)];refine z11 za tf_5 rfl ?_
  conv in SFunc.code _=>reduce
  unfold wkP;refine zh za ?_;simp only[vW,seval];refine zh za ?_;simp only[vW,seval];refine z6 HB ?_;refine zh za ?_;have hg:(pvC (flC c.fs))[i*4+3]?=some (TV.pv (.v (.bool fd.ix))):=by rw[zkz,zlq ef (j:=3) (p:=.v (.bool fd.ix)) rfl];rfl
  simp only[vW,seval,clV,hg];refine⟨by omega,by omega,by rw[z36];omega,?_⟩;rw[zad (by rw[z36];omega),z4z (by decide) ef (f':=⟨fd.n,fd.t, !fd.ix⟩) rfl];refine z1g (z4K (k:=3) (d:=2036) (es:=flR (c.fs.set i ⟨fd.n,fd.t, !fd.ix⟩)) (c:=c.fs.length) rfl (flW _) (by show some _=some _;rw[z2z,List.length_set])) (z1a za ?_);simp only[vW,seval];rw[z6g hi]
def z6x(g:Sh.Glob)(vals:List V):Prop:=zC g 160 [.pv (.sl 4 (V.rows vals))] [] (.bs 1000 0 vals.length vals.length) [.box (pvC (V.rows vals).flatten)]
theorem z7T(m:Nat)(c:Cls)(t:Ty)(x:Tl)(vals:List V)(hx:x.is=true)(hs:∀e,x=.ev e→ESmall e)(hc:ClsOk c)(hf:∀v∈vals,VFew v∧VOk v)(hl:vals.length≤1000):
  (∃f p,tlT c t x=.fn (.func f) [] [p]∧zC (glE m) f [.pv (.sl 4 (V.rows vals)),.pv p] [] (tv (x.val c t vals)) [])∨(∃f p q,tlT c t x=.fn (.func f) [] [p,q]∧zC (glE m) f [.pv (.sl 4 (V.rows vals)),.pv p,.pv q] [] (tv (x.val c t vals)) []):=by
 cases x with
 |no=>cases hx
 |zero=>exact .inl ⟨_,_,rfl,zfL (glE m) t vals⟩
 |ev e=>exact .inr ⟨_,_,_,rfl,zfM m c e vals hc (hs e rfl) hf (by omega)⟩
theorem zaV(l:List V)(i:Nat)(xs:List V):V.rows (z0r l i xs)=(V.rows l).take i++V.rows xs++(V.rows l).drop (i+1):=by simp only[z0b];unfold z0r;simp[List.map_take,List.map_drop]
theorem rows_take'(l:List V)(i:Nat):V.rows (l.take i)=(V.rows l).take i:=by simp only[z0b,List.map_take]
theorem rows_drop'(l:List V)(i:Nat):V.rows (l.drop i)=(V.rows l).drop i:=by simp only[z0b,List.map_drop]
theorem zji(m:Nat)(c:Cls)(h:Chg)(vals:List V)(hx:(zt c h.x h.t).is=true)(hs:∀e,zt c h.x h.t=.ev e→ESmall e)(hc:ClsOk c)(hf:∀v∈vals,VFew v∧VOk v)(hl:vals.length≤1000):
  zC (glE m) 120 [.pv (.el (wkC c h)),.pv (.sl 4 (V.rows vals))] [] (.pv (.sl 4 (V.rows (vals++[(zt c h.x h.t).val c h.t vals])))) []:=by
 have HF:=z22 (glE m) vals hl (fun v hv=>(hf v hv).1);have HT:=z7T m c h.t _ vals hx hs hc hf hl;unfold wkC;generalize(zt c h.x h.t).val c h.t vals=r at*;generalize tlT c h.t (zt c h.x h.t)=px at*;generalize tlT c h.t (zt c h.o h.t)=po at*;refine z3T tf_1 ?_;unfold wkP;rcases HT with⟨f,p,rfl,HT⟩|⟨f,p,q,rfl,HT⟩
 ·simp only[vW,seval];left;refine z6 HF ?_;(with_reducible apply zl);exact kv;exact HT;rfl;exact kv;simp only[vW,seval];refine⟨⟨by omega,by unfold maxLen;omega⟩,?_⟩;rw[z3a]
 ·simp only[vW,seval];left;refine z6 HF ?_;(with_reducible apply zl);exact kv;exact HT;rfl;exact kv;simp only[vW,seval];refine⟨⟨by omega,by unfold maxLen;omega⟩,?_⟩;rw[z3a]
theorem zb3(g:Sh.Glob)(c:Cls)(h:Chg)(vals:List V)(hf:∀v∈vals,VFew v∧VOk v)(hl:vals.length≤1000):
  zC g 126 [.pv (.el (wkC c h)),.pv (.sl 4 (V.rows vals))] [] (.pv (.sl 4 (V.rows vals))) []:=by
 have HF:=z22 g vals hl (fun v hv=>(hf v hv).1);refine z7S tf_6 ?_;exact zf HF
theorem zhz(g:Sh.Glob)(c:Cls)(h:Chg)(vals:List V)(hf:∀v∈vals,VFew v∧VOk v)(hl:vals.length≤1000)(hi:atV c.fs h.f<vals.length):
  zC g 123 [.pv (.el (wkC c h)),.pv (.sl 4 (V.rows vals))] [] (.pv (.sl 4 (V.rows (z0r vals (atV c.fs h.f) [])))) []:=by
 unfold wkC;generalize tlT c h.t (zt c h.x h.t)=px at*;generalize tlT c h.t (zt c h.o h.t)=po at*;generalize atV c.fs h.f=i at*;have H1:=z22 g (vals.take i) (by rw[List.length_take];omega) (fun v hv=>(hf v (List.mem_of_mem_take hv)).1);have H2:=z22 g (vals.drop (i+1)) (by rw[List.length_drop];omega) (fun v hv=>(hf v (List.mem_of_mem_drop hv)).1);have HK:=z93 g [(V.rows vals).take i,(V.rows vals).drop (i+1)] (by show 2≤1000;decide) (by simp[z19];omega);simp only[slR,List.map_cons,List.map_nil]at HK;rw[rows_take']at H1;rw[rows_drop']at H2;have tl:List.take vals.length (V.rows vals)=V.rows vals:=List.take_of_length_le (by rw[z19];omega);have w1:=wS i;refine z3T tf_3 ?_;unfold wkP;simp only[vW,seval,w1,tl,List.drop_zero];refine⟨⟨by omega,by omega⟩,?_⟩;refine z7 H1 ?_;simp only[vW,seval,w1,tl,List.drop_zero];refine⟨by omega,?_⟩;refine z6 H2 ?_;refine z6 HK ?_;rw[zaV];simp[V.rows_nil]
theorem zhA(m:Nat)(c:Cls)(h:Chg)(vals:List V)(hb:z6x (glE m) vals)(hx:(zt c h.x h.t).is=true)(hs:∀e,zt c h.x h.t=.ev e→ESmall e)(hc:ClsOk c)(hf:∀v∈vals,VFew v∧VOk v)(hl:vals.length≤1000)(hi:atV c.fs h.f<vals.length):
  zC (glE m) 129 [.pv (.el (wkC c h)),.pv (.sl 4 (V.rows vals))] [] (.pv (.sl 4 (V.rows (z0r vals (atV c.fs h.f) [(zt c h.x h.t).val c h.t vals])))) []:=by
 have HT:=z7T m c h.t _ vals hx hs hc hf hl;unfold z6x at hb;unfold wkC;generalize(zt c h.x h.t).val c h.t vals=r at*;generalize tlT c h.t (zt c h.x h.t)=px at*;generalize tlT c h.t (zt c h.o h.t)=po at*;generalize atV c.fs h.f=i at*;have hset:=zjj vals i r hi;have hln:(V.rows vals).flatten.length=vals.length*4:=by rw[z1J (z9C vals),z19]
 have hput:=z6g (x:=r) hi;refine z11 za tf_17 rfl ?_
 conv in SFunc.code _=>reduce
 unfold wkP;refine zh za ?_;simp only[vW,seval];refine zh za ?_;simp only[vW,seval];refine z6 hb ?_;refine zh za ?_;rcases HT with⟨f,p,rfl,HT⟩|⟨f,p,q,rfl,HT⟩
 ·simp only[vW,seval];(with_reducible apply zl);exact kv;exact HT;rfl;exact kv;simp only[vW,seval,hset];refine⟨by omega,by rw[hln];omega,?_⟩;refine z1g (z4K (k:=5) (d:=2028) (es:=V.rows (vals.set i r)) (c:=vals.length) rfl (z9C _) (by show some _=some _;rw[z19,List.length_set])) (z1a za ?_);simp only[vW,seval];rw[hput]
 ·simp only[vW,seval];(with_reducible apply zl);exact kv;exact HT;rfl;exact kv;simp only[vW,seval,hset];refine⟨by omega,by rw[hln];omega,?_⟩;refine z1g (z4K (k:=5) (d:=2028) (es:=V.rows (vals.set i r)) (c:=vals.length) rfl (z9C _) (by show some _=some _;rw[z19,List.length_set])) (z1a za ?_);simp only[vW,seval];rw[hput]
theorem zfR(m:Nat)(c:Cls)(h:Chg)(vals:List V)(hx:(zt c h.x h.t).is=true)(ho:(zt c h.o h.t).is=true)(hs:∀e,zt c h.x h.t=.ev e→ESmall e)(hs':∀e,zt c h.o h.t=.ev e→ESmall e)(hc:ClsOk c)(hf:∀v∈vals,VFew v∧VOk v)(hl:vals.length≤1000)(hi:atV c.fs h.f<vals.length):
  zC (glE m) 132 [.pv (.el (wkC c h)),.pv (.sl 4 (V.rows vals))] [] (.pv (.sl 4 (V.rows (z0r vals (atV c.fs h.f) [(zt c h.x h.t).val c h.t vals,(zt c h.o h.t).val c h.t vals])))) []:=by
 have HT:=z7T m c h.t _ vals hx hs hc hf hl;have HU:=z7T m c h.t _ vals ho hs' hc hf hl;unfold wkC;generalize(zt c h.x h.t).val c h.t vals=r at*;generalize(zt c h.o h.t).val c h.t vals=u at*;generalize tlT c h.t (zt c h.x h.t)=px at*;generalize tlT c h.t (zt c h.o h.t)=po at*;generalize atV c.fs h.f=i at*;have H1:=z22 (glE m) (vals.take i) (by rw[List.length_take];omega) (fun v hv=>(hf v (List.mem_of_mem_take hv)).1);have H2:=z22 (glE m) (vals.drop (i+1)) (by rw[List.length_drop];omega) (fun v hv=>(hf v (List.mem_of_mem_drop hv)).1);have HK:=z93 (glE m) [(V.rows vals).take i,[[.v (.int .i64 r.k),.v (.int .i64 r.n),.v (.string (str r.s)),.sl 4 (V.rows r.l)],[.v (.int .i64 u.k),.v (.int .i64 u.n),.v (.string (str u.s)),.sl 4 (V.rows u.l)]],(V.rows vals).drop (i+1)] (by show 3≤1000;decide) (by simp[z19];omega);simp only[slR,List.map_cons,List.map_nil]at HK;rw[rows_take']at H1;rw[rows_drop']at H2;have tl:List.take vals.length (V.rows vals)=V.rows vals:=List.take_of_length_le (by rw[z19];omega);have w1:=wS i
 have hend:V.rows (z0r vals i [r,u])=(V.rows vals).take i++([[.v (.int .i64 r.k),.v (.int .i64 r.n),.v (.string (str r.s)),.sl 4 (V.rows r.l)],[.v (.int .i64 u.k),.v (.int .i64 u.n),.v (.string (str u.s)),.sl 4 (V.rows u.l)]]++(V.rows vals).drop (i+1)):=by
  rw[zaV];show _++[V.row r,V.row u]++_=_;rw[z1M r,z1M u,List.append_assoc]
 rw[hend];refine z3T tf_15 ?_;unfold wkP;rcases HT with⟨f,p,rfl,HT⟩|⟨f,p,q,rfl,HT⟩<;>rcases HU with⟨f',p',rfl,HU⟩|⟨f',p',q',rfl,HU⟩
 all_goals(
  simp only[vW,seval];(with_reducible apply zl);exact kv;exact HT;rfl;exact kv;simp only[vW,seval];(with_reducible apply zl);exact kv;exact HU;rfl;exact kv;simp only[vW,seval,tl,List.drop_zero];refine⟨⟨by omega,by omega⟩,?_⟩;refine z7 H1 ?_;simp only[vW,seval,w1,tl,List.drop_zero];refine⟨by omega,?_⟩;refine z6 H2 ?_;refine z6 HK ?_;simp)
def z9f:TV:=.agg [.pv (.v .nilFunc),.pv (.v .nilFunc),.pv (.v .nilFunc)]
theorem zbK(m:Nat)(c:Cls)(h:Chg)(hc:ClsOk c)(hh:ChOk m h)(hno:(zd c&&z1Q h)=false):zC (glE m) 62 [clT c,chT h] [] (.tuple [z9f,B false]) []:=by
 have HR:=z06 (glE m) c hc;have HW:=z6v m h hh;generalize zd c=r at*;generalize z1Q h=w at*;refine z8 tf_31 ?_;unfold clT chT B z9f at*;cases r
 ·simp only[vW,seval];exact zf HR
 ·cases w
  ·simp only[vW,seval];refine z6 HR ?_;exact zf HW
  ·cases hno
theorem zk3(m:Nat)(c:Cls)(h:Chg)(hc:ClsOk c)(hh:ChOk m h)(hr:zd c=true)(hw:z1Q h=true)(hk:h.k=1∨h.k=2∨h.k=3∨h.k=4∨h.k=5∨h.k=6)(j:Nat)
  (hj:findKs (TypeDesc.int .i64) (.int .i64 h.k) kdK 0=some (some j)) (hx:(kdL (wkC c h))[j]?=some (kdT (wkC c h) (zcm h.k) (zc6 h.k) (zcZ h.k))):
  zC (glE m) 62 [clT c,chT h] [] (.tuple [kdT (wkC c h) (zcm h.k) (zc6 h.k) (zcZ h.k),B (z1x c h)]) []:=by
 have HR:=z06 (glE m) c hc;have HW:=z6v m h hh;rw[hr]at HR;rw[hw]at HW;have HF:=z4H (glE m) c h.f hc.len;rw[zaz]at HF;have H1:=zb0 m c h.x h.t hh.x hc;have H2:=zb0 m c h.o h.t hh.o hc;have HM:=zlH (glE m) c h hk hc.len;have HK:=ziB (glE m) (wkC c h);unfold kdL kdT fnW at hx;unfold kdL kdT fnW at HK;unfold kdT fnW;have hps:(wkC c h).map TV.pv=[S (str c.n),.pv (.sl 4 (flR c.fs)),I h.k,S (str h.f),S (str h.n),S (str h.m),I h.t.k,I h.t.o,S (str h.x),S (str h.o),I (atV c.fs h.f:Int),.pv (.v (.bool (z1c c.fs h.f))),.pv (tlT c h.t (zt c h.x h.t)),.pv (tlT c h.t (zt c h.o h.t))]:=rfl;have tc:∀x,(TV.pv (tlT c h.t x)).cells=some [.pv (tlT c h.t x)]:=fun x=>by cases x<;>rfl
 refine z11 za tf_31 rfl ?_
 conv in SFunc.code _=>reduce
 generalize wkC c h=ps at*;unfold clT chT tyT B at*;refine zh za ?_;simp only[vW,seval];refine zh za ?_;simp only[vW,seval];refine z6 HR ?_;refine z6 HW ?_;refine zh za ?_;simp only[vW,seval];refine zh za ?_;simp only[vW,seval];refine z6 HF ?_;refine zh za ?_;simp only[vW,seval];refine z7 H1 ?_;simp only[vW,seval,tc];refine zh za ?_;simp only[vW,seval];refine z7 H2 ?_;simp only[vW,seval,tc];refine z1g (zlr (k:=6) (d:=20) (ps:=ps) (show lk _ 20=_ from congrArg some hps.symm) rfl) (z1a za ?_);simp only[vW,seval];refine z7 HK ?_;simp only[vW,seval,hj,hx];(with_reducible apply zl);exact kv;exact HM;rfl;exact kv;simp only[vW,seval]
theorem zd2{cs ds:List TV}(hl:cs.length=ds.length)(h:∀(j:Nat) c d,cs[j]?=some c→ds[j]?=some d→Wk c d):Wk (.tuple cs) (.tuple ds):=by
 intro w E r v hr;cases hr with
 |tuple cs vs hl' hv=>
  refine .tuple ds vs (hl▸hl') (fun j d v hd hv'=> ?_);have hj:j<cs.length:=by
   rcases Nat.lt_or_ge j ds.length with h|h
   ·omega
   ·rw[List.getElem?_eq_none h]at hd;cases hd
  exact h j _ d (gE hj) hd w E r v (hv j _ v (gE hj) hv')
theorem z52{a b x y:TV}(h:Wk a b)(h':Wk x y):Wk (.tuple [a,x]) (.tuple [b,y]):=zd2 rfl (fun j p q hp hq=>by
 match j with
 |0=>simp at hp hq;subst hp;subst hq;exact h
 |1=>simp at hp hq;subst hp;subst hq;exact h'
 |j+2=>simp at hp)
theorem zfT(s:zB):Wk (.agg [S (str s),zH]) (clT ⟨s,[]⟩):=z7l rfl (fun j p q hp hq=>by
 match j with
 |0=>simp at hp hq;subst hp;subst hq;exact .refl _
 |1=>simp at hp hq;subst hp;subst hq;exact z2g 4
 |j+2=>simp at hp)
def z4C(r:Cls×Int):TV:=.tuple [clT r.1,I r.2]
def zjU(r:List V×Int):TV:=.tuple [.pv (.sl 4 (V.rows r.1)),I r.2]
theorem zd0{h:Chg}(hw:z1Q h=true):h.k=1∨h.k=2∨h.k=3∨h.k=4∨h.k=5∨h.k=6:=by
 unfold z1Q at hw;simp only[Bool.and_eq_true]at hw;have:=hw.1.1.1.1.1.1;unfold z1v at this;by_cases h1:h.k=1
 ·exact .inl h1
 by_cases h2:h.k=2∨h.k=6
 ·omega
 by_cases h3:h.k=3
 ·omega
 by_cases h4:h.k=4
 ·omega
 by_cases h5:h.k=5
 ·omega
 rw[if_neg h1,if_neg h2,if_neg h3,if_neg h4,if_neg h5]at this;cases this
theorem z9L{m:Nat}{c:Cls}{s:zB}{t:Ty}(hs:TxOk m s):∀e,zt c s t=.ev e→ESmall e:=by
 intro e h;unfold zt at h;split at h
 ·cases h
 ·rename_i hne;split at h
  ·cases h
  ·split at h
   ·cases h;exact hs.sm hne
   ·cases h
theorem zan(m:Nat)(c:Cls)(h:Chg)(hc:ClsOk c)(hh:ChOk m h)(hr:zd c=true)(hw:z1Q h=true):
  zC (glE m) 62 [clT c,chT h] [] (.tuple [kdT (wkC c h) (zcm h.k) (zc6 h.k) (zcZ h.k),B (z1x c h)]) []:=by
 have hk:=zd0 hw;have H:=zk3 m c h hc hh hr hw hk;rcases hk with hk|hk|hk|hk|hk|hk
 ·exact H 0 (by rw[hk];rfl) (by rw[hk];rfl)
 ·exact H 1 (by rw[hk];rfl) (by rw[hk];rfl)
 ·exact H 2 (by rw[hk];rfl) (by rw[hk];rfl)
 ·exact H 3 (by rw[hk];rfl) (by rw[hk];rfl)
 ·exact H 4 (by rw[hk];rfl) (by rw[hk];rfl)
 ·exact H 5 (by rw[hk];rfl) (by rw[hk];rfl)
theorem ze1{c:Cls}{h:Chg}(hm:z1x c h=true)(h1:h.k≠1):z1c c.fs h.f=true:=by
 unfold z1x at hm;rw[if_neg h1]at hm;split at hm
 ·exact hm
 split at hm
 ·simp only[Bool.and_eq_true]at hm;exact hm.1
 split at hm
 ·simp only[Bool.and_eq_true]at hm;exact hm.1
 split at hm
 ·simp only[Bool.and_eq_true]at hm;exact hm.1.1.1.1.1.1
 ·simp only[Bool.and_eq_true]at hm;exact hm.1
theorem zlv{fs:List Fld}{s:zB}(h:z1c fs s=true):atV fs s<fs.length:=by
 obtain⟨f,hf,_⟩:=z3o h;exact(gJ hf).1
theorem zjh(m:Nat)(c:Cls)(h:Chg)(vals:List V)(hh:ChOk m h)(hw:z1Q h=true)(hm:z1x c h=true)(hB:h.k=4→vals≠[]→z6x (glE m) vals)(hc:ClsOk c)(hf:∀v∈vals,VFew v∧VOk v)(hl:vals.length≤1000)(he:vals.length=c.fs.length):
  zC (glE m) (zcZ h.k) [.pv (.el (wkC c h)),.pv (.sl 4 (V.rows vals))] [] (.pv (.sl 4 (V.rows (z0Z c h vals)))) []:=by
 have hs:=fun e=>z9L (c:=c) (t:=h.t) hh.x e;have hs':=fun e=>z9L (c:=c) (t:=h.t) hh.o e;have hi:h.k≠1→atV c.fs h.f<vals.length:=fun h1=>by rw[he];exact zlv (ze1 hm h1)
 unfold zcZ z0Z;rcases zd0 hw with hk|hk|hk|hk|hk|hk
 ·rw[hk,if_pos rfl,if_pos rfl];unfold z1x at hm;rw[if_pos hk]at hm;simp only[Bool.and_eq_true]at hm;exact zji m c h vals hm.2 hs hc hf hl
 ·rw[hk,if_neg (by decide),if_pos rfl,if_neg (by decide),if_pos rfl];exact zhz (glE m) c h vals hf hl (hi (by omega))
 ·rw[hk,if_neg (by decide),if_neg (by decide),if_pos rfl,if_neg (by decide),if_neg (by decide),if_neg (by decide),if_neg (by decide)];exact zb3 (glE m) c h vals hf hl
 ·unfold z1x at hm;rw[hk,if_neg (by decide),if_neg (by decide),if_neg (by decide),if_pos rfl]at hm;simp only[Bool.and_eq_true]at hm;rw[hk,if_neg (by decide),if_neg (by decide),if_neg (by decide),if_pos rfl,if_neg (by decide),if_neg (by decide),if_pos rfl];exact zhA m c h vals (hB hk (by intro e;have:=hi (by omega);rw[e]at this;simp at this)) hm.2 hs hc hf hl (hi (by omega))
 ·unfold z1x at hm;rw[hk,if_neg (by decide),if_neg (by decide),if_neg (by decide),if_neg (by decide),if_pos rfl]at hm;simp only[Bool.and_eq_true]at hm;rw[hk,if_neg (by decide),if_neg (by decide),if_neg (by decide),if_neg (by decide),if_pos rfl,if_neg (by decide),if_neg (by decide),if_neg (by decide),if_pos rfl];exact zfR m c h vals hm.1.2 hm.2 hs hs' hc hf hl (hi (by omega))
 ·rw[hk,if_neg (by decide),if_neg (by decide),if_neg (by decide),if_neg (by decide),if_neg (by decide),if_neg (by decide),if_neg (by decide),if_neg (by decide),if_neg (by decide)];exact zb3 (glE m) c h vals hf hl
theorem z4D(m:Nat)(c:Cls)(h:Chg)(hc:ClsOk c)(hh:ChOk m h)(hl:c.fs.length≤1000):zC (glE m) 33 [clT c,chT h] [] (z4C (z09 c h)) []:=by
 have HR:=z06 (glE m) c hc;have HN:=zbK m c h hc hh;have HY:=zan m c h hc hh;unfold z09 okV;cases hr:zd c
 ·rw[hr]at HR;refine SCalls.out ?_ (z52 (zfT []) (.refl _));refine z8 tf_28 ?_;unfold clT chT zH B at*;simp only[vW,seval];refine z6 HR ?_;rfl
 rw[hr]at HR;cases hw:z1Q h
 ·have HN:=HN (by rw[hr,hw];rfl);refine SCalls.out ?_ (z52 (zfT []) (.refl _));refine z8 tf_28 ?_;unfold clT chT z9f zH B at*;simp only[vW,seval];refine z6 HR ?_;refine z6 HN ?_;rfl
 have HY:=HY hr hw;cases hm:z1x c h
 ·rw[hm]at HY;refine SCalls.out ?_ (z52 (zfT []) (.refl _));refine z8 tf_28 ?_;unfold clT chT kdT fnW zH B at*;simp only[vW,seval];refine z6 HR ?_;refine z6 HY ?_;rfl
 ·rw[hm]at HY;have HF:=zgt (glE m) c h (zd0 hw) hl (ze1 hm);refine z8 tf_28 ?_;unfold z4C clT chT kdT fnW B at*;simp only[vW,seval];refine z6 HR ?_;refine z6 HY ?_;(with_reducible apply zl);exact kv;exact HF;rfl;exact kv;simp only[vW,seval]
theorem zb8(m:Nat)(c:Cls)(h:Chg)(vals:List V)(hc:ClsOk c)(hh:ChOk m h)(hB:h.k=4→vals≠[]→z6x (glE m) vals)(hf:∀v∈vals,VFew v∧VOk v)(hl:vals.length≤1000):zC (glE m) 82 [clT c,chT h,.pv (.sl 4 (V.rows vals))] [] (zjU (z5o c h vals)) []:=by
 have HC:=z9E (z4g m c vals hc (fun v hv=>⟨(hf v hv).2,by have:=(hf v hv).1.len;unfold maxLen;omega⟩) (by omega));have HN:=zbK m c h hc hh;have HY:=zan m c h hc hh;have hck:(check c vals).2=0→zd c=true∧vals.length=c.fs.length:=by
  intro h0;unfold check at h0;split at h0
  ·cases h0
  ·rename_i hr;split at h0
   ·cases h0
   ·rename_i he;exact⟨by simpa using hr,by omega⟩
 unfold z5o;by_cases h0:(check c vals).2=0
 ·obtain⟨hr,he⟩:=hck h0;rw[if_neg (by simpa using h0)];generalize check c vals=k at*;obtain⟨k1,k2⟩:=k;simp only at h0;subst h0;unfold okV;cases hw:z1Q h
  ·have HN:=HN (by rw[hr,hw];rfl);rw[show(!(zd c&&false&&z1x c h))=true by simp,if_pos rfl];refine SCalls.out ?_ (z52 (z2g 4) (.refl _));refine z8 tf_30 ?_;unfold z4E clT chT z9f B at*;simp only[vW,seval];refine z6 HC ?_;exact zf HN
  have HY:=HY hr hw;cases hm:z1x c h
  ·rw[hm]at HY;rw[show(!(zd c&&true&&false))=true by simp,if_pos rfl];refine SCalls.out ?_ (z52 (z2g 4) (.refl _));refine z8 tf_30 ?_;unfold z4E clT chT kdT fnW B at*;simp only[vW,seval];refine z6 HC ?_;exact zf HY
  ·rw[hm]at HY;have HV:=zjh m c h vals hh hw hm hB hc hf hl he;rw[hr];refine z8 tf_30 ?_;unfold zjU z4E clT chT kdT fnW B at*;simp only[vW,seval];refine z6 HC ?_;refine z6 HY ?_;(with_reducible apply zl);exact kv;exact HV;rfl;exact kv;simp only[vW,seval]
 ·rw[if_pos h0];refine SCalls.out ?_ (z52 (z2g 4) (.refl _));generalize check c vals=k at*;refine z8 tf_30 ?_;unfold z4E clT chT B at*;simp only[vW,seval];refine z7 HC ?_;simp only[vW,seval,h0]
end
end Go.Proofs.YthinnldeogflgaaGreatDoor
end

section
namespace Go.Sh.Cd2
open Go Go.Sh
abbrev gQ(a:GA):Prop:=gT Go.Proofs.Tryz.prog a
theorem gK{a:GA}(h:gQ a:=by unfold gQ gT;kernel_rfl):gQ a:=h
noncomputable def funcs:Nat→Option SFunc
 |_=>none
end Go.Sh.Cd2
end

section
namespace Go.Mor
open Go
section
def zeU(L:List Pc)(sz p:Nat)(b:Int):Int:=if b<0 then((pkP L sz p).p:Int)else b
def zbG(L:List Pc)(sz:Nat)(t:zB)(p:Nat)(b:Int):Nat×Int:=if 0≤b then(p,b)else if z0n (pkP L sz p) t then(p+1,b)else(p,zeU L sz p b)
mutual
def mE(L:List Pc)(sz:Nat):Nat→Int→Nat→Int→Option (V×Nat×Int)
 |0,_,_,_=>none
 |f+1,zY,p,b=>match mT L sz f p b with
  |some (e,p',b')=>mL L sz f zY e p' b'
  |none=>none
def mL(L:List Pc)(sz:Nat):Nat→Int→V→Nat→Int→Option (V×Nat×Int)
 |0,_,_,_,_=>none
 |f+1,zY,e,p,b=>
  if b<0∧(pkP L sz p).k=4∧zY≤z0f (pkP L sz p).s then(match mE L sz f (z0f (pkP L sz p).s+1) (p+1) b with
   |some (e2,p2,b2)=>mL L sz f zY (.mk 4 0 (pkP L sz p).s [e,e2]) p2 b2
   |none=>none)
  else some (e,p,b)
def mT(L:List Pc)(sz:Nat):Nat→Nat→Int→Option (V×Nat×Int)
 |0,_,_=>none
 |f+1,p,b=>
  if 0≤b∨L.length≤p then some (V.nil,p,zeU L sz p b)
  else if(pkP L sz p).k=1∨(pkP L sz p).k=2 then some (.mk (pkP L sz p).k (pkP L sz p).n (pkP L sz p).s [],p+1,b)
  else if(pkP L sz p).k=3 then(if z0n (pkP L sz (p+1)) [40]=true∧0<zx (pkP L sz p).s then mH L sz f (pkP L sz p).s 0 (p+1+1) b []
   else some (.mk 3 0 (pkP L sz p).s [],p+1,b))
  else if(pkP L sz p).s=[45] then(match mT L sz f (p+1) b with
   |some (e,p',b')=>some (.mk 5 0 [45] [e],p',b')
   |none=>none)
  else if(pkP L sz p).s=[40] then(match mE L sz f 1 (p+1) b with
   |some (e,p',b')=>some (e,zbG L sz [41] p' b')
   |none=>none)
  else some (V.nil,p,zeU L sz p b)
def mH(L:List Pc)(sz:Nat):Nat→zB→Nat→Nat→Int→List V→Option (V×Nat×Int)
 |0,_,_,_,_,_=>none
 |f+1,s,k,p,b,acc=>
  if(k:Int)<zx s∧b<0 then(match mE L sz f 1 (if 0<k then zbG L sz [44] p b else(p,b)).1 (if 0<k then zbG L sz [44] p b else(p,b)).2 with
   |some (e,p2,b2)=>mH L sz f s (k+1) p2 b2 (acc++[e])
   |none=>none)
  else some (.mk 6 0 s acc,zbG L sz [41] p b)
end
structure PcOk(q:Pc):Prop where
 k:q.k=1∨q.k=2∨q.k=3∨q.k=4
 n:q.k=2→q.n=0
 s:q.k=1→q.s=[]
section
variable{L:List Pc}{sz:Nat}
end
end
end Go.Mor
end

section
namespace Go.Proofs.YthinnldeogflgaaGreatDoor
open Go Go.RowKit Go.Mor
section
open Go.Sh Go.Sh.Cd1 Go.Sh.Cd7
def qcK(k:Int):Int:=if k=4 then 0 else k
end
section
open Go.Sh Go.Sh.Cd1 Go.Sh.Cd7
def zn3(q:Pc):List PV:=[.v (.int .i64 (qcK q.k)),.v (.int .i64 q.n),.v (.string (str q.s)),.v (.int .i64 (q.p:Int))]
def qcR(L:List Pc):List (List PV):=L.map zn3
def PB(L:List Pc)(sz p:Nat)(b:Int):MO:=.box [.pv (.sl 4 (qcR L)),I (p:Int),I (sz:Int),I b]
structure PcL(L:List Pc):Prop where
 ok:∀q∈L,PcOk q
 len:L.length≤1000
section
variable{L:List Pc}{sz:Nat}
end
end
section
open Go.Sh Go.Sh.Cd1 Go.Sh.Cd7
section
variable(g:Sh.Glob)(L:List Pc)(sz:Nat)
def HX(F:Nat):Prop:=∀(s:zB) (p:Nat) (b:Int) (r:V×Nat×Int),mH L sz F s 0 p b []=some r→zC g 180 [.ptr 1000 0,S (str s)] [PB L sz p b] (tv r.1) [PB L sz r.2.1 r.2.2]
end
variable{g:Sh.Glob}{L:List Pc}{sz:Nat}
end
section
open Go.Shelf
attribute [local go_sem] Oper.semAt_some
attribute [local go_sem] Oper.semAt_some
def u8(b:UInt8):Value:=.int .u8 b.toNat
end
section
open Go.Stop Go.Extern
structure GlobW(w:World)(a0 a1:Addr):Prop extends GlobU w where
 e0:w.cell? ⟨1,0,none⟩=some (.iface 334 (.pointer (some a0)))
 e1:w.cell? ⟨0,0,none⟩=some (.iface 334 (.pointer (some a1)))
 ne:a0≠a1
 b0:∃ca ta,w.heap[a0.block]?=some (.cells ca ta (0,0))
 b1:∃ca ta,w.heap[a1.block]?=some (.cells ca ta (0,0))
theorem z2C{w:World}{b:Nat}{o:Obj}(h:w.heap[b]?=some o):b<w.heap.size:=(gA h).1
theorem GlobW.ext{w w':World}{a0 a1:Addr}(h:GlobW w a0 a1)(hb:Below w.heap.size w w'):GlobW w' a0 a1 where
 toGlobU:=h.toGlobU.ext hb
 e0:=(hb.cell (z0F h.e0)).trans h.e0
 e1:=(hb.cell (z0F h.e1)).trans h.e1
 ne:=h.ne
 b0:=by obtain⟨ca,ta,h0⟩:=h.b0;exact⟨ca,ta,(hb.block _ (z2C h0)).trans h0⟩
 b1:=by obtain⟨ca,ta,h0⟩:=h.b1;exact⟨ca,ta,(hb.block _ (z2C h0)).trans h0⟩
end
section
open Go.Shelf
attribute [local go_sem] Oper.semAt_some
end
section
open Go.Shelf
attribute [local go_sem] Oper.semAt_some
structure Mids(s:zB)(a h:Nat)(w:World)(pre:List (Mor.Ix×UInt8))(W:World)(m sg:Int):Prop where
 bm:Boxed W (h+1+1) 174 (.int .u64 m)
 bs:Boxed W (h+1+1+1) 174 (.int .u64 sg)
 bz:Boxed W (h+1+1+1+1) 3 (.int .i64 0)
 b0:Boxed W h 3 (.int .i64 0)
 b1:Boxed W (h+1) 179 .nilIface
 m0:0≤m
 m1:m<18446744073709551616
 s0:0≤sg
 bl:Below h w W
 good:Begs s a pre→Mid s a pre m sg
section
variable{s:zB}{a H B:Nat}{w W:World}{a1:Addr}{pre q:List (Mor.Ix×UInt8)}{m sg:Int}
end
end
section
open Go.Sh
structure GlobN(a0 a1:Addr)(n:Nat)(w:World):Prop where
 g:GlobW w a0 a1
 sz:n≤w.heap.size
 h0:a0.block<n
 h1:a1.block<n
 hv:10≤n
structure GlobNA(a0 a1:Addr)(n:Nat)(w:World):Prop extends GlobN a0 a1 n w where
 t:GlobT w
structure GlobNX(a0 a1:Addr)(n:Nat)(w:World):Prop extends GlobNA a0 a1 n w where
 e:GlobE w
end
section
open Go.Sh Go.Sh.Cd1
def zl5(x:V):Prop:=I64 x.k∧I64 x.n∧x.s.length≤60
end
end Go.Proofs.YthinnldeogflgaaGreatDoor
end

section
namespace Go.Mor
open Go Go.RowKit
abbrev Rd(α:Type):Type:=zB→Int→Option (α×Int)
def Rd.bind{α β:Type}(r:Rd α)(f:α→Rd β):Rd β:=fun s a=>match r s a with|none=>none|some (v,b)=>f v s b
def Rd.ret{α:Type}(v:α):Rd α:=fun _ a=>some (v,a)
def Rd.fail{α:Type}:Rd α:=fun _ _=>none
def Enc{α:Type}(r:Rd α)(e:zB)(v:α):Prop:=∀pre post:zB,r (pre++e++post) pre.length=some (v,((pre.length+e.length:Nat):Int))
def Cuts{α:Type}(r:Rd α):Prop:=∀(s:zB) (a:Int) (v:α) (b:Int) (k:Nat),r s a=some (v,b)→a≤k→a≤b∧(b≤k→r (s.take k) a=some (v,b))∧(k<b→r (s.take k) a=none)
theorem Enc.bind{α β:Type}{r:Rd α}{f:α→Rd β}{e1 e2:zB}{v1:α}{v2:β}(h1:Enc r e1 v1)(h2:Enc (f v1) e2 v2):Enc (r.bind f) (e1++e2) v2:=by
 intro pre post;have a:=h1 pre (e2++post);have b:=h2 (pre++e1) post
 grind [Rd.bind]
theorem Enc.ret{α:Type}(v:α):Enc (Rd.ret v) [] v:=fun pre post=>by simp[Rd.ret]
theorem Cuts.bind{α β:Type}{r:Rd α}{f:α→Rd β}(h1:Cuts r)(h2:∀v,Cuts (f v)):Cuts (r.bind f):=by
 intro s a v b k h hk;unfold Rd.bind at h ⊢;cases hr:r s a with
 |none=>grind
 |some p=>
  obtain⟨v1,b1⟩:=p;rw[hr]at h;obtain⟨g1,g2,g3⟩:=h1 s a v1 b1 k hr hk;by_cases hb:b1≤k
  ·obtain⟨j1,j2,j3⟩:=h2 v1 s b1 v b k h hb
   grind
  ·obtain⟨j1,_,_⟩:=h2 v1 s b1 v b b1.toNat h (by omega)
   grind
theorem Cuts.ret{α:Type}(v:α):Cuts (Rd.ret v):=by
 intro s a v' b k h hk;simp only[Rd.ret,Option.some.injEq,Prod.mk.injEq]at h ⊢
 grind
theorem Cuts.fail{α:Type}:Cuts (Rd.fail (α:=α)):=fun s a v b k h=>by cases h
end Go.Mor
end

section
namespace Go.Proofs.YthinnldeogflgaaGreatDoor
open Go Go.RowKit Go.Mor Go.Sh
theorem zjD(n:Nat)(a b c d:Int):zj Tryz.prog (Op.equalIn (n+1+1) 27 (.agg #[.int .i64 a,.int .i64 b]) (.agg #[.int .i64 c,.int .i64 d]))=some (z0B ⟨a,b⟩ ⟨c,d⟩):=by
 rw[z1F _ _ _ _ (by kernel_rfl) (by kernel_rfl)];obtain⟨f,g,hl,nf,ng,pf,pg,ef,eg⟩:=z8P;rw[hl];simp only[Op.eqFields,nf,ng,ne_eq,not_false_eq_true,if_true,zU,pf,pg,ef,eg,Option.bind_some];unfold z0B;cases h:(a==c)
 ·simp[h,z1q]
 ·cases h2:(b==d)<;>simp[h,h2,z1q,zU,pg,eg,ng]
structure PartOk(f:Field)(x y:Array Value)(a b:Value)(e:Bool):Prop where
 nm:f.name≠ "_"
 px:zj Tryz.prog (part f.type x f.offset)=some a
 py:zj Tryz.prog (part f.type y f.offset)=some b
 eq:∀n,zj Tryz.prog (Op.equalIn (n+1+1) f.type a b)=some e
theorem z0X{f:Field}{l:List Field}{x y:Array Value}{a b:Value}{e r:Bool}{n:Nat}(h:PartOk f x y a b e)(hl:zj Tryz.prog (Op.eqFields (n+1+1) x y l)=some r):zj Tryz.prog (Op.eqFields (n+1+1) x y (f::l))=some (e&&r):=by
 obtain⟨h1,h2,h3,h4⟩:=h;simp only[Op.eqFields,h1,ne_eq,not_false_eq_true,if_true,zU,h2,h3,h4,Option.bind_some];cases e
 ·simp[z1q]
 ·simpa using hl
theorem zaQ{x y:Array Value}{n:Nat}:zj Tryz.prog (Op.eqFields n x y [])=some true:=rfl
theorem prS(n:Nat)(a b:ByteArray):zj Tryz.prog (Op.equalIn (n+1) 9 (.string a) (.string b))=some (a==b):=by kernel_rfl
theorem prI(n:Nat)(a b:Int):zj Tryz.prog (Op.equalIn (n+1) 3 (.int .i64 a) (.int .i64 b))=some (a==b):=by kernel_rfl
theorem prB(n:Nat)(a b:Bool):zj Tryz.prog (Op.equalIn (n+1) 4 (.bool a) (.bool b))=some (a==b):=by kernel_rfl
def fldA(s:ByteArray)(k o:Int)(b:Bool):Array Value:= #[.string s,.int .i64 k,.int .i64 o,.bool b]
theorem zll(s s':ByteArray)(k k' o o':Int)(b b':Bool):zj Tryz.prog (Op.equal 62 (.agg (fldA s k o b)) (.agg (fldA s' k' o' b')))=some ((s==s')&&(z0B ⟨k,o⟩ ⟨k',o'⟩&&((b==b')&&true))):=by
 unfold Op.equal;obtain⟨n,hn⟩:∃n,Op.maxDepth=n+1+1+1:=⟨_,rfl⟩
 rw[hn,z1F _ _ _ _ (by kernel_rfl) (by kernel_rfl)];obtain⟨f,g,h,hl⟩:∃f g h,(Tryz.prog.fieldsOf 62).toList=[f,g,h]∧PartOk f (fldA s k o b) (fldA s' k' o' b') (.string s) (.string s') (s==s')∧PartOk g (fldA s k o b) (fldA s' k' o' b') (.agg #[.int .i64 k,.int .i64 o]) (.agg #[.int .i64 k',.int .i64 o']) (z0B ⟨k,o⟩ ⟨k',o'⟩)∧PartOk h (fldA s k o b) (fldA s' k' o' b') (.bool b) (.bool b') (b==b'):=
  ⟨(Tryz.prog.fieldsOf 62).toList.getD 0 default,(Tryz.prog.fieldsOf 62).toList.getD 1 default,(Tryz.prog.fieldsOf 62).toList.getD 2 default,by kernel_rfl,
   ⟨of_decide_eq_true (by kernel_rfl),by kernel_rfl,by kernel_rfl,fun n=>prS (n+1) _ _⟩,⟨of_decide_eq_true (by kernel_rfl),by kernel_rfl,by kernel_rfl,fun n=>zjD n _ _ _ _⟩,⟨of_decide_eq_true (by kernel_rfl),by kernel_rfl,by kernel_rfl,fun n=>prB (n+1) _ _⟩⟩
 rw[hl.1];exact z0X hl.2.1 (z0X hl.2.2.1 (z0X hl.2.2.2 zaQ))
theorem zlJ(s s':ByteArray)(k k' o o':Int)(b b':Bool):zR Tryz.prog (do eqGuard .neq 62 (.const (.agg #[.string s,.int .i64 k,.int .i64 o,.bool b])) (.const (.agg #[.string s',.int .i64 k',.int .i64 o',.bool b'])) (.agg #[.string s,.int .i64 k,.int .i64 o,.bool b]) (.agg #[.string s',.int .i64 k',.int .i64 o',.bool b']);binOp .neq 62 (.agg #[.string s,.int .i64 k,.int .i64 o,.bool b]) (.agg #[.string s',.int .i64 k',.int .i64 o',.bool b']))=
  some (.pv (.v (.bool (!((s==s')&&(z0B ⟨k,o⟩ ⟨k',o'⟩&&((b==b')&&true)))))),.no):=by
 unfold zR;rw[zU];have hg:zj Tryz.prog (eqGuard .neq 62 (.const (.agg #[.string s,.int .i64 k,.int .i64 o,.bool b])) (.const (.agg #[.string s',.int .i64 k',.int .i64 o',.bool b'])) (.agg #[.string s,.int .i64 k,.int .i64 o,.bool b]) (.agg #[.string s',.int .i64 k',.int .i64 o',.bool b']))=some ():=by kernel_rfl
 rw[hg,Option.bind_some];have hb:binOp .neq 62 (.agg #[.string s,.int .i64 k,.int .i64 o,.bool b]) (.agg #[.string s',.int .i64 k',.int .i64 o',.bool b'])=(Op.equal 62 (.agg (fldA s k o b)) (.agg (fldA s' k' o' b'))>>=fun r=>pure (.bool (!r))):=rfl;rw[hb,zU,zll];rfl
section
open Go.Sh.Cd1 Go.Sh.Cd7
def z3Q(a b:Chg):Bool:=(a.k==b.k)&&((a.f==b.f)&&((a.n==b.n)&&((a.m==b.m)&&(z0B a.t b.t&&((a.x==b.x)&&((a.o==b.o)&&true))))))
def chA(k:Int)(f n m:ByteArray)(t o:Int)(x y:ByteArray):Array Value:= #[.int .i64 k,.string f,.string n,.string m,.int .i64 t,.int .i64 o,.string x,.string y]
theorem zlj(k k':Int)(f n m f' n' m':ByteArray)(t o t' o':Int)(x y x' y':ByteArray):zj Tryz.prog (Op.equal 37 (.agg (chA k f n m t o x y)) (.agg (chA k' f' n' m' t' o' x' y')))=
  some ((k==k')&&((f==f')&&((n==n')&&((m==m')&&(z0B ⟨t,o⟩ ⟨t',o'⟩&&((x==x')&&((y==y')&&true))))))):=by
 unfold Op.equal;obtain⟨d,hn⟩:∃d,Op.maxDepth=d+1+1+1:=⟨_,rfl⟩
 rw[hn,z1F _ _ _ _ (by kernel_rfl) (by kernel_rfl)];obtain⟨f1,f2,f3,f4,f5,f6,f7,hl,P1,P2,P3,P4,P5,P6,P7⟩:∃f1 f2 f3 f4 f5 f6 f7,(Tryz.prog.fieldsOf 37).toList=[f1,f2,f3,f4,f5,f6,f7]∧
   PartOk f1 (chA k f n m t o x y) (chA k' f' n' m' t' o' x' y') (.int .i64 k) (.int .i64 k') (k==k')∧
   PartOk f2 (chA k f n m t o x y) (chA k' f' n' m' t' o' x' y') (.string f) (.string f') (f==f')∧
   PartOk f3 (chA k f n m t o x y) (chA k' f' n' m' t' o' x' y') (.string n) (.string n') (n==n')∧
   PartOk f4 (chA k f n m t o x y) (chA k' f' n' m' t' o' x' y') (.string m) (.string m') (m==m')∧
   PartOk f5 (chA k f n m t o x y) (chA k' f' n' m' t' o' x' y') (.agg #[.int .i64 t,.int .i64 o]) (.agg #[.int .i64 t',.int .i64 o']) (z0B ⟨t,o⟩ ⟨t',o'⟩)∧
   PartOk f6 (chA k f n m t o x y) (chA k' f' n' m' t' o' x' y') (.string x) (.string x') (x==x')∧
   PartOk f7 (chA k f n m t o x y) (chA k' f' n' m' t' o' x' y') (.string y) (.string y') (y==y'):=
  ⟨(Tryz.prog.fieldsOf 37).toList.getD 0 default,(Tryz.prog.fieldsOf 37).toList.getD 1 default,(Tryz.prog.fieldsOf 37).toList.getD 2 default,(Tryz.prog.fieldsOf 37).toList.getD 3 default,
   (Tryz.prog.fieldsOf 37).toList.getD 4 default,(Tryz.prog.fieldsOf 37).toList.getD 5 default,(Tryz.prog.fieldsOf 37).toList.getD 6 default,by kernel_rfl,
   ⟨of_decide_eq_true (by kernel_rfl),by kernel_rfl,by kernel_rfl,fun n=>prI (n+1) _ _⟩,
   ⟨of_decide_eq_true (by kernel_rfl),by kernel_rfl,by kernel_rfl,fun n=>prS (n+1) _ _⟩,
   ⟨of_decide_eq_true (by kernel_rfl),by kernel_rfl,by kernel_rfl,fun n=>prS (n+1) _ _⟩,
   ⟨of_decide_eq_true (by kernel_rfl),by kernel_rfl,by kernel_rfl,fun n=>prS (n+1) _ _⟩,
   ⟨of_decide_eq_true (by kernel_rfl),by kernel_rfl,by kernel_rfl,fun n=>zjD n _ _ _ _⟩,
   ⟨of_decide_eq_true (by kernel_rfl),by kernel_rfl,by kernel_rfl,fun n=>prS (n+1) _ _⟩,
   ⟨of_decide_eq_true (by kernel_rfl),by kernel_rfl,by kernel_rfl,fun n=>prS (n+1) _ _⟩⟩
 rw[hl];exact z0X P1 (z0X P2 (z0X P3 (z0X P4 (z0X P5 (z0X P6 (z0X P7 zaQ))))))
theorem zlm(k k':Int)(f n m f' n' m':ByteArray)(t o t' o':Int)(x y x' y':ByteArray):
  zR Tryz.prog (do eqGuard .eql 37 (.const (.agg #[.int .i64 k,.string f,.string n,.string m,.int .i64 t,.int .i64 o,.string x,.string y])) (.const (.agg #[.int .i64 k',.string f',.string n',.string m',.int .i64 t',.int .i64 o',.string x',.string y'])) (.agg #[.int .i64 k,.string f,.string n,.string m,.int .i64 t,.int .i64 o,.string x,.string y]) (.agg #[.int .i64 k',.string f',.string n',.string m',.int .i64 t',.int .i64 o',.string x',.string y']);binOp .eql 37 (.agg #[.int .i64 k,.string f,.string n,.string m,.int .i64 t,.int .i64 o,.string x,.string y]) (.agg #[.int .i64 k',.string f',.string n',.string m',.int .i64 t',.int .i64 o',.string x',.string y']))=
  some (.pv (.v (.bool ((k==k')&&((f==f')&&((n==n')&&((m==m')&&(z0B ⟨t,o⟩ ⟨t',o'⟩&&((x==x')&&((y==y')&&true))))))))),.no):=by
 unfold zR;rw[zU];have hg:zj Tryz.prog (eqGuard .eql 37 (.const (.agg #[.int .i64 k,.string f,.string n,.string m,.int .i64 t,.int .i64 o,.string x,.string y])) (.const (.agg #[.int .i64 k',.string f',.string n',.string m',.int .i64 t',.int .i64 o',.string x',.string y'])) (.agg #[.int .i64 k,.string f,.string n,.string m,.int .i64 t,.int .i64 o,.string x,.string y]) (.agg #[.int .i64 k',.string f',.string n',.string m',.int .i64 t',.int .i64 o',.string x',.string y']))=some ():=by kernel_rfl
 rw[hg,Option.bind_some];have hb:binOp .eql 37 (.agg #[.int .i64 k,.string f,.string n,.string m,.int .i64 t,.int .i64 o,.string x,.string y]) (.agg #[.int .i64 k',.string f',.string n',.string m',.int .i64 t',.int .i64 o',.string x',.string y'])=(Op.equal 37 (.agg (chA k f n m t o x y)) (.agg (chA k' f' n' m' t' o' x' y'))>>=fun r=>pure (.bool r)):=rfl;rw[hb,zU,zlj];rfl
theorem zmF(a b:zB):(str a==str b)=(a==b):=by
 show((str a).data==(str b).data)=(a==b)
 rw[Bool.eq_iff_iff,beq_iff_eq,beq_iff_eq];constructor
 ·intro h;have:=congrArg Array.toList h;simpa [str]using this
 ·intro h;rw[h]
theorem zfE(g:Sh.Glob)(a b:Chg):zC g 54 [chT a,chT b] [] (B (z3Q a b)) []:=by
 have H:=zlm a.k b.k (str a.f) (str a.n) (str a.m) (str b.f) (str b.n) (str b.m) a.t.k a.t.o b.t.k b.t.o (str a.x) (str a.o) (str b.x) (str b.o);simp only[zmF]at H;refine z8 tf_29 ?_;unfold chT B z3Q;simp only[vW,seval,H]
end
end Go.Proofs.YthinnldeogflgaaGreatDoor
end
