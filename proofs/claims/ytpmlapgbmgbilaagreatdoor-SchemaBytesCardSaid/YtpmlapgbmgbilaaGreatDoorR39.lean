/- Merged texts: Yc2 Ya7 Ya8 Yc3 Op8 WrapX WrapG Lp1 Lp2 Ye2. No statement of the program is proved here. -/
import Derived.Test.YtpmlapgbmgbilaaGreatDoorR38
import Derived.Laws.IdiomArrays
set_option linter.unusedSimpArgs false
set_option linter.unusedVariables false
set_option maxRecDepth 100000
set_option maxHeartbeats 8000000
section
namespace Go.Proofs.YtpmlapgbmgbilaaGreatDoor
open Go Go.RowKit Go.Mor Go.Sh Go.Sh.Cd1 Go.Sh.Cd7 Go.Sh.Cd10
theorem zmf{s:zB}(h:zcy s):RTx s:=by
 rcases h with rfl|⟨h2,r,hr⟩
 ·exact zg9 (.inl rfl)
 ·exact⟨⟨r,hr⟩,(za6 0 hr (by omega)).sm⟩
theorem zqw(g:Sh.Glob){c:Cls}{h:Chg}(ho:okV c h=true)(hi:ChRd h):zC g 30 [clT c,chT h] [] (.tuple [clT ⟨c.n,z0s c h⟩,I 0]) []:=by
 have sh:∀s:zB,s.length≤20→z0B s:=fun s h=>by unfold z0B;omega
 have hk:1≤h.k∧h.k≤6:=by
  unfold okV z04 z0A at ho;simp only[Bool.and_eq_true]at ho
  grind
 exact zh6 g c h ho hk (sh _ hi.f) (sh _ hi.n) (sh _ hi.m) (zmf hi.x) (zmf hi.o)
theorem zlE(g:Sh.Glob)(l:Ln)(hg:GoodL l):zC g 9 [.agg (lnC l)] [] (clT (z13 l)) []:=by
 refine za tf_129 ?_;have h12:l.hs.length≤12:=by
  have:=hg.r;unfold zY at this;simp only[Bool.and_eq_true]at this;exact Nat.le_of_ble_eq_true this.1
 have hz:=z3r l;unfold lnC;simp only[vW,seval];refine zk (σ:={x:Nat×Cls // x.1≤l.hs.length∧zp l x.1=(x.2,0)}) (fun x=>⟨[(1,.ptr 1 0),(2,.ptr 2 0),(3,.ptr 3 0),(4,I (x.1.1:Int))],[(1,[S (str l.c.n),.pv (.sl 4 (flR l.c.fs)),.pv (.sl 8 (z0U l.hs))]),(2,[S ⟨#[]⟩,.pv (.v (.slice none 0 0))]),(3,[S (str x.1.2.n),.pv (.sl 4 (flR x.1.2.fs))])],[],[]⟩) (fun x=>l.hs.length-x.1.1) ⟨(0,l.c),Nat.zero_le _,by
  have:=z0r hg.r (Nat.zero_le _);rw[hz]at this ⊢;unfold z3h at*;exact Prod.ext rfl this⟩ ?_ ?_
 ·exact lwA
 rintro⟨⟨i,c⟩,hi,hv⟩;have hi:i≤l.hs.length:=hi;have hv:zp l i=(c,0):=hv;by_cases hlt:i<l.hs.length
 ·have d1:(i:Int)<(l.hs.length:Int):=by omega
  obtain⟨h,ex⟩:∃h,l.hs[i]?=some h:=⟨_,gE hlt⟩
  have hn:=z3q ex;rw[hv,z4c h rfl]at hn;have h0:=z0r hg.r (k:=i+1) (by omega);rw[hn]at h0;have ho:=(z3P h0).2.1;have HA:=zqw g ho (hg.h h (gM ex));have hn2:zp l (i+1)=(⟨c.n,z0s c h⟩,0):=by
   rw[hn];unfold z0h;rw[(z3P h0).1,ho];rfl
  have w1:=wS i;unfold clT chT at HA;simp only[vW,seval,d1,z0K,z4x,ex,chR];refine z8 HA ?_;simp only[vW,seval,w1];exact zc ⟨(i+1,⟨c.n,z0s c h⟩),hlt,hn2⟩ (by show l.hs.length-(i+1)<l.hs.length-i;omega) lwA
 ·have d1:¬(i:Int)<(l.hs.length:Int):=by omega
  obtain rfl:i=l.hs.length:=by omega
  have e:z13 l=c:=by unfold z13;rw[hv]
  rw[e];unfold clT;simp only[vW,seval,d1,z0K]
def zjT(x:RawH):List PV:=[.v (.int .i64 x.k),.v (.int .i64 x.f),.v (.int .i64 x.n),.v (.int .i64 x.m),.v (.int .i64 x.t.k),.v (.int .i64 x.t.o),.v (.int .i64 x.x),.v (.int .i64 x.o)]
def rhR(l:List RawH):List (List PV):=l.map zjT
def rlC(x:RawL):List TV:=[I x.c.n,.pv (.sl 4 (rfR x.c.fs)),.pv (.sl 8 (rhR x.hs))]
structure RawLOk(x:RawL):Prop where
 c:RawOk x.c
 h:∀r∈x.hs,RawHOk r
 len:x.hs.length≤9223372036854775807
theorem zt3(l:List RawH)(k:Nat):(rhR l)[k]?=(l[k]?).map zjT:=by unfold rhR;rw[List.getElem?_map]
theorem zjS(l:List RawH):(rhR l).length=l.length:=by unfold rhR;rw[List.length_map]
theorem zko(x:RawL){i:Nat}{r:RawH}(h:x.hs[i]?=some r):(x.hs.take (i+1)).foldl z3g ⟨z0x x.c,[]⟩=z3g ((x.hs.take i).foldl z3g ⟨z0x x.c,[]⟩) r:=by
 rw[List.take_add_one,h];simp only[Option.toList_some,List.foldl_append,List.foldl_cons,List.foldl_nil]
theorem zkz(l:List Chg)(h:Chg):z0U (l++[h])=z0U l++[chR h]:=by unfold z0U;rw[List.map_append];rfl
theorem zlv(g:Sh.Glob)(x:RawL)(hx:RawLOk x):zC g 25 [.agg (rlC x)] [] (.agg (lnC (z2O x))) []:=by
 have HC:=z6R g x.c hx.c;have hlen:=hx.len;refine z27 tf_128 ?_;unfold rlC zfZ clT at*;simp only[vW,seval];refine z8 HC ?_;refine zk (σ:={x':Nat×Ln // x'.1≤x.hs.length∧x'.1≤5∧x'.2=(x.hs.take x'.1).foldl z3g ⟨z0x x.c,[]⟩}) (fun x'=>⟨[(1,.ptr 1 0),(2,.ptr 2 0),(3,.ptr 3 0),(4,I (x'.1.1:Int))],[(1,[I x.c.n,.pv (.sl 4 (rfR x.c.fs)),.pv (.sl 8 (rhR x.hs))]),(2,[S ⟨#[]⟩,.pv (.v (.slice none 0 0)),.pv (.v (.slice none 0 0))]),(3,[S (str x'.1.2.c.n),.pv (.sl 4 (flR x'.1.2.c.fs)),.own 3000 8 (z0U x'.1.2.hs)])],[(3000,(37,8,x'.1.2.hs.length))],[]⟩) (fun x'=>5-x'.1.1) ⟨(0,⟨z0x x.c,[]⟩),Nat.zero_le _,Nat.zero_le _,rfl⟩ ?_ ?_
 ·refine ES.Lw.trans ?_ (z5k (x:=3) (j:=2) (d:=3000) (e:=37) (W:=8) (.inr (by decide)) (by decide) rfl (by simp only[vcA,seval]) rfl);exact z18 rfl
 rintro⟨⟨i,l⟩,hi,hi5,hl⟩;have hi:i≤x.hs.length:=hi;have hi5:i≤5:=hi5;have hl:l=(x.hs.take i).foldl z3g ⟨z0x x.c,[]⟩:=hl;have htl:=List.length_take_le i x.hs;obtain⟨hg,hgl,_⟩:=z8D (x.hs.take i) ⟨z0x x.c,[]⟩ (zaP x.c) (by simp;omega);rw[←hl]at hg hgl;simp only[List.length_nil,Nat.zero_add]at hgl;by_cases hlt:i<x.hs.length∧i<5
 ·obtain⟨hlt,hl5⟩:=hlt;have d1:(i:Int)<(x.hs.length:Int):=by omega
  have d2:(i:Int)<5:=by omega
  obtain⟨r,er⟩:∃r,x.hs[i]?=some r:=⟨_,gE hlt⟩
  have w1:=wS i;have HN:=zlE g l hg;have hrc:zd (z13 l)=true:=z1O (z0r hg.r (Nat.le_refl _));have HG:=zng g r (z13 l) (hx.h r (gM er)) hrc hg.n;have hst:=zko x er;rw[←hl]at hst;unfold z3g at hst;generalize z3u r (z13 l)=h at*;generalize z13 l=c at*;unfold lnC clT at HN;unfold zjI clT chT B at HG;simp only[vW,seval,d1,d2,zjS,zt3,er,zjT];refine z7 HN ?_;refine z8 HG ?_;cases ho:okV c h
  ·rw[ho]at hst;simp only[Bool.false_eq_true,if_false]at hst;simp only[vW,seval,w1];exact zc ⟨(i+1,l),hlt,hl5,hst.symm⟩ (by show 5-(i+1)<5-i;omega) lwA
  ·rw[ho]at hst;simp only[if_true]at hst;simp only[vW,seval,w1,z0K];refine⟨⟨by omega,by unfold maxLen;omega⟩,zc ⟨(i+1,⟨l.c,l.hs++[h]⟩),hlt,hl5,hst.symm⟩ (by show 5-(i+1)<5-i;omega) ?_⟩;simp only[zkz,List.length_append,List.length_cons,List.length_nil,chR];exact lwA
 ·have he:(x.hs.take 5).foldl z3g ⟨z0x x.c,[]⟩=l:=by
   rw[hl];by_cases h5:i=5
   ·rw[h5]
   ·rw[List.take_of_length_le (by omega),List.take_of_length_le (by omega)]
  unfold z2O;rw[he];unfold lnC;by_cases h5:i=5
  ·have d2:¬(i:Int)<5:=by omega
   simp only[vW,seval,d2,zjS];exact⟨fun _=>trivial,fun _=>trivial⟩
  ·have d1:¬(i:Int)<(x.hs.length:Int):=by omega
   simp only[vW,seval,d1,zjS]
section
def zfE(e:Int):TV:=.tuple [.agg [S ⟨#[]⟩,zn,zn],I e]
theorem znX(m:Nat)(ls:List Ln)(hl:ls.length≤1000)(hs:z7r m ls)(n:Int)(he:(z5x ls).2=0)(hn:n<0∨(ls.length:Int)≤n):zC (glE m) 31 [scT ls,I n] [] (zfE 2) []:=by
 have HC:=z4j m ls hl hs;rw[he]at HC;refine za tf_179 ?_;unfold scT zfE zn at*;simp only[vW,seval];refine z8 HC ?_;by_cases h0:n<0
 ·simp only[vW,seval,h0,z0L,false_imp_iff,and_true,true_and,forall_const]
 ·have h1:(ls.length:Int)≤n:=by omega
  simp only[vW,seval,h0,h1,z0L,false_imp_iff,and_true,true_and,forall_const]
theorem zcM(m:Nat)(ls:List Ln)(hl:ls.length≤1000)(hs:z7r m ls)(he:(z5x ls).2=0){k:Nat}{l:Ln}(hk:ls[k]?=some l):zC (glE m) 31 [scT ls,I (k:Int)] [] (.tuple [.agg (lnC l),I 0]) []:=by
 have HC:=z4j m ls hl hs;rw[he]at HC;have hkl:=(gJ hk).1;have h0:¬(k:Int)<0:=by omega
 have h1:¬(ls.length:Int)≤(k:Int):=by omega
 have h2:(k:Int)<(ls.length:Int):=by omega
 refine za tf_179 ?_;unfold scT lnC at*;simp only[vW,seval];refine z8 HC ?_;simp only[vW,seval,h0,h1,h2,z0L,z3Y,hk,lnR,false_imp_iff,and_true,true_and,forall_const];refine⟨hkl,fun b hb=> ?_⟩;obtain rfl:=Option.some.inj hb;refine⟨Nat.le_refl 3,rfl,?_⟩;simp only[vW,seval,List.take_succ_cons,List.take_zero,List.drop_succ_cons,List.drop_zero]
section
variable{m:Nat}{ls:List Ln}{n:Int}{e:Int}
theorem znU(he:e≠0)(HL:zC (glE m) 31 [scT ls,I n] [] (zfE e) []):zC (glE m) 11 [scT ls,I n] [] (.tuple [I 0,I e]) []:=by
 refine za tf_173 ?_;unfold scT zfE zn at*;simp only[vW,seval];refine z8 HL ?_;simp only[vW,seval,he];exact fun h=>h.elim
end
section
variable{m:Nat}{ls:List Ln}{k:Nat}{l:Ln}
theorem zq5(HL:zC (glE m) 31 [scT ls,I (k:Int)] [] (.tuple [.agg (lnC l),I 0]) []):zC (glE m) 11 [scT ls,I (k:Int)] [] (.tuple [I (l.hs.length:Int),I 0]) []:=by
 refine za tf_173 ?_;unfold scT lnC at*;simp only[vW,seval];refine z8 HL ?_;simp only[vW,seval,z0K]
theorem zr4(HL:zC (glE m) 31 [scT ls,I (k:Int)] [] (.tuple [.agg (lnC l),I 0]) [])(v:Int)(hv:v<0∨(l.hs.length:Int)<v):zC (glE m) 15 [scT ls,I (k:Int),I v] [] (.tuple [.agg [S ⟨#[]⟩,zn],I 81]) []:=by
 refine za tf_169 ?_;unfold scT lnC zn at*;simp only[vW,seval];refine z8 HL ?_;by_cases h0:v<0
 ·simp only[vW,seval,h0,z0K,false_imp_iff,and_true,true_and,forall_const]
 ·have h1:(l.hs.length:Int)<v:=by omega
  simp only[vW,seval,h0,h1,z0K,false_imp_iff,and_true,true_and,forall_const]
theorem zp0(hl:LnOk m l)(HL:zC (glE m) 31 [scT ls,I (k:Int)] [] (.tuple [.agg (lnC l),I 0]) []){v:Nat}(hv:v≤l.hs.length):zC (glE m) 15 [scT ls,I (k:Int),I (v:Int)] [] (.tuple [clT (zp l v).1,I 0]) []:=by
 have HM:=zcO m l hl v hv;have HF:=z3X (glE m) (zp l v).1 (by have:=(z1h (z1O (z0r hl.r hv))).2;omega);have h0:¬(v:Int)<0:=by omega
 have h1:¬(l.hs.length:Int)<(v:Int):=by omega
 refine za tf_169 ?_;unfold scT lnC clT at*;simp only[vW,seval];refine z8 HL ?_;simp only[vW,seval,h0,h1,z0K,false_imp_iff,and_true,true_and,forall_const];refine z7 HM ?_;refine z8 HF ?_;trivial
theorem zkx(HL:zC (glE m) 31 [scT ls,I (k:Int)] [] (.tuple [.agg (lnC l),I 0]) [])(v w:Int)(hv:v<0∨(l.hs.length:Int)<w∨w<v)(x:TV):zC (glE m) 23 [scT ls,I (k:Int),I v,I w,x] [] (.tuple [zn,I 81]) []:=by
 refine za tf_170 ?_;unfold scT lnC zn at*;simp only[vW,seval];refine z8 HL ?_;by_cases h0:v<0
 ·simp only[vW,seval,h0,z0K,false_imp_iff,and_true,true_and,forall_const]
 ·by_cases h1:(l.hs.length:Int)<w
  ·simp only[vW,seval,h0,h1,z0K,false_imp_iff,and_true,true_and,forall_const]
  ·have h2:w<v:=by omega
   simp only[vW,seval,h0,h1,h2,z0K,false_imp_iff,and_true,true_and,forall_const]
theorem zmT(hl:LnOk m l)(hB:FrB m l)(HL:zC (glE m) 31 [scT ls,I (k:Int)] [] (.tuple [.agg (lnC l),I 0]) []){fr tt:Nat}(hft:fr≤tt)(hto:tt≤l.hs.length)(vals:List V)(hf:FitC (zp l fr).1 vals):zC (glE m) 23 [scT ls,I (k:Int),I (fr:Int),I (tt:Int),.pv (.sl 4 (V.rows vals))] [] (.tuple [.pv (.sl 4 (V.rows (z8s l fr vals (tt-fr)))),I 0]) []:=by
 have HC:=znd m l hl hB fr tt hft hto vals hf;have h0:¬(fr:Int)<0:=by omega
 have h1:¬(l.hs.length:Int)<(tt:Int):=by omega
 have h2:¬(tt:Int)<(fr:Int):=by omega
 refine za tf_170 ?_;unfold scT lnC at*;simp only[vW,seval];refine z8 HL ?_;simp only[vW,seval,h0,h1,h2,z0K,false_imp_iff,and_true,true_and,forall_const];refine z8 HC ?_;trivial
end
end
theorem zqk{s:ES}{x j d W:Nat}{cs:List TV}{es:List (List PV)}(hk:lk s.b x=some cs)(hj:cs[j]?=some (.own d W es)):(⟨s.t,sv s.b x (cs.set j (.pv (.sl W es))),s.r,s.i⟩:ES).Lw s:=by
 intro B a w E _ _ hS;refine⟨E,?_⟩;have:=hS.reB (k:=x) (cs:=cs) (ds:=cs.set j (.pv (.sl W es))) hk (fun i y hi=>by
  by_cases hij:j=i
  ·subst hij;have hl:j<cs.length:=(gJ hj).1;rw[List.getElem?_set_self hl]at hi;cases hi;exact⟨_,hj,fun v hv=>zdV (PWk.refl _) _ _ _ _ hv⟩
  ·rw[List.getElem?_set_ne hij]at hi;exact⟨y,hi,fun v hv=>hv⟩)
 have he:(⟨s.t,sv s.b x (cs.set j (.pv (.sl W es))),s.r,s.i⟩:ES).fs=FS.setB s.fs x (cs.set j (.pv (.sl W es))):=by
  simp only[ES.fs,FS.setB,z1z]
 rw[he];exact this
theorem zkT(g:Sh.Glob)(f:Nat):zC g 63 [.pv (.sl 3 []),.pv (.v (.func (.func f) #[] #[]))] [] zn []:=by
 refine za tf_116 ?_;unfold zn;simp only[vW,seval]
theorem zk7(g:Sh.Glob):zC g 34 [scT []] [] (.agg [zn]) []:=by
 have HE:=zkT g 64;refine za tf_111 ?_;unfold scT zn at*;simp only[vW,seval];refine z8 HE ?_;trivial
def zjf(c:Cls):List PV:=[.v (.string (str c.n)),.sl 4 (flR c.fs),.v (.slice none 0 0)]
theorem zfY(es:List (List PV))(c:Cls):PWk (.sl 3 (es++[zjf c])) (.sl 3 (es++[lnR ⟨c,[]⟩])):=
 zol rfl fun j a b ha hb=>by
  match j with
  |0=>cases ha;cases hb;exact PWk.refl _
  |1=>cases ha;cases hb;exact PWk.refl _
  |2=>cases ha;cases hb;exact zqp 8
  |j+3=>cases ha
theorem zpu{e e':List (List PV)}{x:Int}(h:PWk (.sl 3 e) (.sl 3 e')):Wk (.tuple [.agg [.pv (.sl 3 e)],I x]) (.tuple [.agg [.pv (.sl 3 e')],I x]):=
 z6m (z6l rfl fun j a b ha hb=>by
  match j with
  |0=>cases ha;cases hb;exact zkm h
  |j+1=>cases ha) (zkm (PWk.refl _))
theorem zhl(m:Nat)(c:Cls)(hc:zd c=true):zC (glE m) 13 [scT [],clT c] [] (.tuple [scT [⟨c,[]⟩],I 0]) []:=by
 have hk:=z1h hc;have HC:zC (glE m) 21 [scT []] [] (.tuple [I 0,I 0]) []:=z4j m [] (by simp) (fun l hl=>by cases hl);have HR:=z0k (glE m) c hk.1;have HN:zC (glE m) 14 [scT [],S (str c.n)] [] (.tuple [I 0,B false]) []:=z67 (glE m) [] c.n (by simp);have HS:=zk7 (glE m);have HF:=z3X (glE m) c (by omega);rw[hc]at HR;refine SCalls.out (y:=.tuple [.agg [.pv (.sl 3 [zjf c])],I 0]) ?_ (zpu (zfY [] c));refine z27 tf_168 ?_;unfold scT clT B zn at*;simp only[vW,seval];refine z8 HC ?_;refine z8 HR ?_;refine z8 HN ?_;simp only[vW,seval,z0L,List.length_nil,Int.natCast_zero,false_imp_iff,true_and];refine z8 HS ?_;right;refine z8 HF ?_;exact⟨by decide,rfl⟩
theorem zh8(g:Sh.Glob)(ls:List Ln)(n:zB)(hl:ls.length≤1000):zC g 26 [scT ls,S (str n)] [] (.tuple [I ((z0E ls n).1:Int),B (z0E ls n).2]) []:=by
 refine za tf_167 ?_;obtain⟨R,hR⟩:∃R,z0E ls n=R:=⟨_,rfl⟩
 rw[hR];unfold scT B;simp only[vW,seval];refine zk (σ:={i:Nat // i≤ls.length∧∀(j:Nat) x,j<i→ls[j]?=some x→(x.c.n==n)=false}) (fun i=>⟨[(1,S (str n)),(2,.ptr 2 0),(6,I (i.1:Int))],[(2,[.pv (.sl 3 (z0t ls))])],[],[]⟩) (fun i=>ls.length-i.1) ⟨0,Nat.zero_le _,fun j x hj=>by omega⟩ ?_ ?_
 ·exact lwA
 rintro⟨i,hi,hno⟩;by_cases hlt:i<ls.length
 ·have d1:(i:Int)<(ls.length:Int):=by omega
  obtain⟨x,ex⟩:∃x,ls[i]?=some x:=⟨_,gE hlt⟩
  have w1:=wS i;cases hp:(x.c.n==n)
  ·simp only[vW,seval,d1,z0L,z3Y,ex,lnR,hp,w1];refine zc ⟨i+1,by omega,fun j y hj hy=> ?_⟩ (by show ls.length-(i+1)<ls.length-i;omega) lwA;by_cases hji:j=i
   ·subst hji;rw[ex]at hy;cases hy;exact hp
   ·exact hno j y (by omega) hy
  ·simp only[vW,seval,d1,z0L,z3Y,ex,lnR,hp,w1];rw[←hR,zcH ex hp hno]
 ·have d1:¬(i:Int)<(ls.length:Int):=by omega
  simp only[vW,seval,d1,z0L];rw[←hR,z8z (fun x hx=>by
   obtain⟨j,hj⟩:=List.getElem?_of_mem hx;exact hno j x (by have:=(gJ hj).1;omega) hj)]
  rfl
def zk0(x:RawL):List PV:=[.v (.int .i64 x.c.n),.sl 4 (rfR x.c.fs),.sl 8 (rhR x.hs)]
def rlR(l:List RawL):List (List PV):=l.map zk0
theorem zt4(l:List RawL)(k:Nat):(rlR l)[k]?=(l[k]?).map zk0:=by unfold rlR;rw[List.getElem?_map]
theorem zce(l:List RawL):(rlR l).length=l.length:=by unfold rlR;rw[List.length_map]
theorem zkp(l:List RawL){i:Nat}{x:RawL}(h:l[i]?=some x):(l.take (i+1)).foldl z3c []=z3c ((l.take i).foldl z3c []) x:=by
 rw[List.take_add_one,h];simp only[Option.toList_some,List.foldl_append,List.foldl_cons,List.foldl_nil]
theorem zly(l:List Ln)(x:Ln):z0t (l++[x])=z0t l++[lnR x]:=by unfold z0t;rw[List.map_append];rfl
theorem zsr{e e':List (List PV)}(h:PWk (.sl 3 e) (.sl 3 e')):Wk (.agg [.pv (.sl 3 e)]) (.agg [.pv (.sl 3 e')]):=z6l rfl fun j a b ha hb=>by
 match j with
 |0=>cases ha;cases hb;exact zkm h
 |j+1=>cases ha
theorem zqT:Wk (.agg [I 0,zn]) (zfZ ⟨0,[]⟩):=z6l rfl fun j a b ha hb=>by
 match j with
 |0=>cases ha;cases hb;exact .refl _
 |1=>cases ha;cases hb;exact z2u 4
 |j+2=>cases ha
theorem zkC(g:Sh.Glob):zC g 12 [.agg [I 0,zn]] [] (clT (z0x ⟨0,[]⟩)) []:=
 (z6R g ⟨0,[]⟩ ⟨⟨by decide,by decide⟩,fun r hr=>(by cases hr),by decide⟩).inp rfl fun j c d hc hd=>by
  match j with
  |0=>cases hc;cases hd;exact zqT
  |j+1=>cases hc
theorem zhf(g:Sh.Glob)(l:List RawL)(hx:∀x∈l,RawLOk x)(hlen:l.length≤9223372036854775807):zC g 6 [.pv (.sl 3 (rlR l))] [] (scT (z4b l)) []:=by
 have H0:=zkC g
 suffices h:zC g 6 [.pv (.sl 3 (rlR l))] [] (.agg [.pv (.sl 3 (if(l.take 4).foldl z3c []=[] then [zjf (z0x ⟨0,[]⟩)] else z0t ((l.take 4).foldl z3c [])))]) [] by
  unfold z4b;split
  ·rename_i he;rw[if_pos he]at h;exact h.out (zsr (zfY [] _))
  ·rename_i he;rw[if_neg he]at h;exact h
 refine z27 tf_131 ?_;simp only[vW,seval];refine zk (σ:={x':Nat×List Ln // x'.1≤l.length∧x'.1≤4∧x'.2=(l.take x'.1).foldl z3c []}) (fun x'=>⟨[(0,.pv (.sl 3 (rlR l))),(2,.ptr 2 0),(3,.ptr 3 0),(4,I (x'.1.1:Int))],[(2,[.pv (.v (.slice none 0 0))]),(3,[.own 3000 3 (z0t x'.1.2)])],[(3000,(46,3,x'.1.2.length))],[]⟩) (fun x'=>4-x'.1.1) ⟨(0,[]),Nat.zero_le _,Nat.zero_le _,rfl⟩ ?_ ?_
 ·refine ES.Lw.trans ?_ (z5k (x:=3) (j:=0) (d:=3000) (e:=46) (W:=3) (.inr (by decide)) (by decide) rfl (by simp only[vcA,seval]) rfl);exact z18 rfl
 rintro⟨⟨i,s⟩,hi,hi4,hs⟩;have hi:i≤l.length:=hi;have hi4:i≤4:=hi4;have hs:s=(l.take i).foldl z3c []:=hs;have htl:=List.length_take_le i l;obtain⟨hg,hgl⟩:=z7J (l.take i) [] zdw (by simp;omega);rw[←hs]at hg hgl;simp only[List.length_nil,Nat.zero_add]at hgl;by_cases hlt:i<l.length∧i<4
 ·obtain⟨hlt,hl4⟩:=hlt;have d1:(i:Int)<(l.length:Int):=by omega
  have d2:(i:Int)<4:=by omega
  obtain⟨x,ex⟩:∃r,l[i]?=some r:=⟨_,gE hlt⟩
  have w1:=wS i;have HL:=zlv g x (hx x (gM ex));have HF:=zh8 g s (z2O x).c.n (by omega);have hst:=zkp l ex;rw[←hs]at hst;unfold z3c at hst;generalize z2O x=y at*;generalize z0E s y.c.n=R at*;obtain⟨p,t⟩:=R;unfold rlC at HL;unfold lnC at HL;unfold scT B at HF;simp only[vW,seval,d1,d2,zce,zt4,ex,zk0];refine z8 HL ?_;refine z8 HF ?_;cases t
  ·simp only[Bool.false_eq_true,if_false]at hst;simp only[vW,seval,w1,z0L];refine⟨⟨by omega,by unfold maxLen;omega⟩,zc ⟨(i+1,s++[y]),hlt,hl4,hst.symm⟩ (by show 4-(i+1)<4-i;omega) ?_⟩;simp only[zly,List.length_append,List.length_cons,List.length_nil,lnR];exact lwA
  ·simp only[if_true]at hst;simp only[vW,seval,w1];exact zc ⟨(i+1,s),hlt,hl4,hst.symm⟩ (by show 4-(i+1)<4-i;omega) lwA
 ·have he:(l.take 4).foldl z3c []=s:=by
   rw[hs];by_cases h4:i=4
   ·rw[h4]
   ·rw[List.take_of_length_le (by omega),List.take_of_length_le (by omega)]
  rw[he];have hdd:((i:Int)<(l.length:Int)∧¬(i:Int)<4)∨¬(i:Int)<(l.length:Int):=by omega
  unfold clT zn at H0;by_cases h0:s=[]
  ·rw[if_pos h0];subst h0;rcases hdd with⟨d1,d2⟩|d1
   ·simp only[vW,seval,d1,d2,zce,z0L];refine z8 H0 ?_;rfl
   ·simp only[vW,seval,d1,zce,z0L];refine z8 H0 ?_;rfl
  ·rw[if_neg h0];have d3:¬(s.length:Int)=0:=by have:=List.length_pos_iff.2 h0;omega
   rcases hdd with⟨d1,d2⟩|d1
   ·simp only[vW,seval,d1,d2,d3,zce,z0L]
   ·simp only[vW,seval,d1,d3,zce,z0L]
end Go.Proofs.YtpmlapgbmgbilaaGreatDoor
end

section
namespace Go.Proofs.YtpmlapgbmgbilaaGreatDoor
open Go.ChangeShapes Go.WideShapes Go.ChangeAt Go.RowKit Go.Lib Go.Mor Go.Deep Go.Joins
open Go.Sh (RelT RelV TV PV SCalls Env MSim z0q zA z2j Low)
open Go.Proofs.YtpmlapgbmgbilaaGreatDoor.OpR
section
variable{H:Type}{enc:TypeId×Value→H}
theorem zdF{α:Type}(R:α→List PV)(Q:α→Prop){t e:TypeId}{Wd:Nat}(ht:Tryz.prog.underlying t=some (.slice e))(hC:Tryz.prog.cellsOf e=Wd)(hW:0<Wd)(hR:∀x,(R x).length=Wd)
  {W:World} {base:Nat} {spare:Nat→Bool} {held:Bool} {fuel:Nat} {c:Value} {y:DataW H×List MemPlace}
  (hel:∀n cs y,cs.length=Wd→DataW.trod enc Tryz.prog W base spare held n e cs=some y→∃x:α,Q x∧∀(j:Nat) q v,(R x)[j]?=some q→cs[j]?=some v→RelV W (z2N W).K q v∧Go.Sh.one v)
  (h:DataW.trod enc Tryz.prog W base spare held fuel t [c]=some y):∃l:List α,(∀x∈l,Q x)∧l.length≤9223372036854775807∧RelV W (z2N W).K (.sl Wd (l.map R)) c:=by
 rcases open_slice ht h with h0|⟨a,len,cap,m,n,D,Pl,hcs,hb,hl,hm,hmm,hx,hi⟩
 ·obtain rfl:c=.slice none 0 0:=by simpa using h0.1
  exact⟨[],by simp,by simp,.sl Wd [] 0 0 0 none (fun _ _=>undef) (by simp) (by simp) (by simp) (by simp) (by simp) (by simp)⟩
 obtain rfl:c=.slice (some a) len cap:=by simpa using hcs
 rw[hC]at hi;have key:∀i,i<len→∃x:α,Q x∧a=⟨a.block,a.off,none⟩∧∀(j:Nat) q,(R x)[j]?=some q→∃v,W.cell? ⟨a.block,a.off+i*Wd+j,none⟩=some v∧RelV W (z2N W).K q v∧Go.Sh.one v:=by
  intro i hlt;obtain⟨cs',hc,ht'⟩:=hi i (by rw[hmm];split<;>omega);obtain⟨_,hcl,hat⟩:=World.cells?_some hc;obtain⟨cs0,hc0,_⟩:=hi 0 (by rw[hmm];split<;>omega);obtain⟨_,hcl0,hat0⟩:=World.cells?_some hc0;have h00:=hat0 0 hW;rw[gE (by omega)]at h00;have ha:a=⟨a.block,a.off,none⟩:=(z7s (k:=0) (by simpa [Addr.add]using h00)).1;have hadd:∀k,a.add k=⟨a.block,a.off+k,none⟩:=fun k=>(z7s (k:=k) (by simpa [Addr.add]using h00)).2;obtain⟨x,hq,hrel⟩:=hel n cs' _ hcl ht';refine⟨x,hq,ha,fun j q hj=> ?_⟩;have hjl:j<Wd:=by have:=(gJ hj).1;rwa [hR]at this
  have hcell:=hat j hjl;have hv:cs'[j]?=some (cs'[j]'(by omega)):=gE (by omega);obtain⟨h1,h2⟩:=hrel j q _ hj hv;refine⟨_,?_,h1,h2⟩;rw[hv,Go.Deep.add_add,hadd]at hcell;rw[←Nat.add_assoc]at hcell;exact hcell
 obtain⟨l,hlen,hq⟩:=zhO key;refine⟨l,fun r hr=> ?_,by unfold maxLen at hm;omega,?_⟩
 ·obtain⟨i,hi⟩:=List.getElem?_of_mem hr;exact(hq i r hi).1
 have hL:(l.map R).length=len:=by rw[List.length_map,hlen]
 rw[←hL];have cell:∀(i j:Nat) cs q,(l.map R)[i]?=some cs→cs[j]?=some q→∃v,W.cell? ⟨a.block,a.off+i*Wd+j,none⟩=some v∧RelV W (z2N W).K q v∧Go.Sh.one v:=by
  intro i j cs q h1 h2;rw[List.getElem?_map,Option.map_eq_some_iff]at h1;obtain⟨r,hr,rfl⟩:=h1;exact(hq i r hr).2.2 j q h2
 refine .sl Wd (l.map R) a.block a.off cap (some a) (fun i j=>(W.cell? ⟨a.block,a.off+i*Wd+j,none⟩).getD undef) (fun hne=> ?_) (by omega) hm (fun cs hcs=> ?_) (fun i j cs q h1 h2=> ?_) (fun i j cs q h1 h2=> ?_)
 ·obtain⟨r,hr⟩:∃r,l[0]?=some r:=by
   cases l with
   |nil=>exact absurd rfl hne
   |cons r q=>exact⟨r,rfl⟩
  rw[(hq 0 r hr).2.1]
 ·obtain⟨r,_,rfl⟩:=List.mem_map.1 hcs;exact hR r
 ·obtain⟨u,hu,_,ho⟩:=cell i j cs q h1 h2;rw[hu];exact⟨z1d (a:=⟨a.block,a.off+i*Wd+j,none⟩) hu,rfl,ho⟩
 ·obtain⟨u,hu,hr,ho⟩:=cell i j cs q h1 h2;rw[hu];exact hr
theorem z3t{W:World}{K:Nat→Nat→Prop}(x:Value)(h:Go.Sh.one x):RelV W K (.v x) x∧Go.Sh.one x:=⟨.v x,h⟩
theorem zo8{W:World}{base:Nat}{spare:Nat→Bool}{held:Bool}{fuel:Nat}{c:Value}{y:DataW H×List MemPlace}(h:DataW.trod enc Tryz.prog W base spare held fuel 79 [c]=some y):
  ∃l:List RawH,(∀x∈l,RawHOk x)∧l.length≤9223372036854775807∧RelV W (z2N W).K (.sl 8 (rhR l)) c:=by
 refine zdF zjT RawHOk Tryz.underlying79 (by kernel_rfl) (by decide) (fun _=>rfl) (fun n cs y hl hf=> ?_) h;obtain⟨c0,c1,c2,c3,c4,c5,c6,c7,rfl⟩:=zsW hl;obtain⟨xs,n',_,_,hlen,hxl,hf⟩:=DataW.trod_struct Tryz.underlying29 hf;obtain⟨x0,x1,x2,x3,x4,x5,x6,rfl⟩:=zsV hxl;have k0:Tryz.prog.cellsOf 3=1:=by kernel_rfl
 have k1:Tryz.prog.cellsOf 27=2:=by kernel_rfl
 have h0:DataW.trod enc Tryz.prog W base spare held n' 3 [c0]=some x0:=by have:=hf 0 _ rfl;simpa [k0,Value.cells]using this
 have h1:DataW.trod enc Tryz.prog W base spare held n' 3 [c1]=some x1:=by have:=hf 1 _ rfl;simpa [k0,Value.cells]using this
 have h2:DataW.trod enc Tryz.prog W base spare held n' 3 [c2]=some x2:=by have:=hf 2 _ rfl;simpa [k0,Value.cells]using this
 have h3:DataW.trod enc Tryz.prog W base spare held n' 3 [c3]=some x3:=by have:=hf 3 _ rfl;simpa [k0,Value.cells]using this
 have h4:DataW.trod enc Tryz.prog W base spare held n' 27 [c4,c5]=some x4:=by have:=hf 4 _ rfl;simpa [k1,Value.cells]using this
 have h5:DataW.trod enc Tryz.prog W base spare held n' 3 [c6]=some x5:=by have:=hf 5 _ rfl;simpa [k0,Value.cells]using this
 have h6:DataW.trod enc Tryz.prog W base spare held n' 3 [c7]=some x6:=by have:=hf 6 _ rfl;simpa [k0,Value.cells]using this
 obtain⟨z0,e0,_,w0⟩:=DataW.trod_int Tryz.underlying3 h0;obtain⟨z1,e1,_,w1⟩:=DataW.trod_int Tryz.underlying3 h1;obtain⟨z2,e2,_,w2⟩:=DataW.trod_int Tryz.underlying3 h2;obtain⟨z3,e3,_,w3⟩:=DataW.trod_int Tryz.underlying3 h3;obtain⟨t,e4,w4,w4'⟩:=zoa h4;obtain⟨z5,e5,_,w5⟩:=DataW.trod_int Tryz.underlying3 h5;obtain⟨z6,e6,_,w6⟩:=DataW.trod_int Tryz.underlying3 h6;simp at e0 e1 e2 e3 e4 e5 e6;obtain⟨rfl,rfl⟩:=e4;subst e0 e1 e2 e3 e5 e6;refine⟨⟨z0,z1,z2,z3,t,z5,z6⟩,⟨bounds_i64 w0,bounds_i64 w1,bounds_i64 w2,bounds_i64 w3,w4,w4',bounds_i64 w5,bounds_i64 w6⟩,fun j q u hq hu=> ?_⟩
 match j with
 |0=>cases hq;cases hu;exact z3t _ rfl
 |1=>cases hq;cases hu;exact z3t _ rfl
 |2=>cases hq;cases hu;exact z3t _ rfl
 |3=>cases hq;cases hu;exact z3t _ rfl
 |4=>cases hq;cases hu;exact z3t _ rfl
 |5=>cases hq;cases hu;exact z3t _ rfl
 |6=>cases hq;cases hu;exact z3t _ rfl
 |7=>cases hq;cases hu;exact z3t _ rfl
 |j+8=>cases hq
theorem zo9{W:World}{base:Nat}{spare:Nat→Bool}{held:Bool}{fuel:Nat}{c:Value}{y:DataW H×List MemPlace}(h:DataW.trod enc Tryz.prog W base spare held fuel 22 [c]=some y):
  ∃l:List RawL,(∀x∈l,RawLOk x)∧l.length≤9223372036854775807∧RelV W (z2N W).K (.sl 3 (rlR l)) c:=by
 refine zdF zk0 RawLOk Tryz.underlying22 (by kernel_rfl) (by decide) (fun _=>rfl) (fun n cs y hl hf=> ?_) h;obtain⟨c0,c1,c2,rfl⟩:=ztp hl;obtain⟨xs,n',_,_,hlen,hxl,hf⟩:=DataW.trod_struct Tryz.underlying81 hf;obtain⟨x0,x1,rfl⟩:=zes hxl;have k0:Tryz.prog.cellsOf 25=2:=by kernel_rfl
 have k1:Tryz.prog.cellsOf 79=1:=by kernel_rfl
 have k2:Tryz.prog.cellsOf 3=1:=by kernel_rfl
 have k3:Tryz.prog.cellsOf 23=1:=by kernel_rfl
 have h0:DataW.trod enc Tryz.prog W base spare held n' 25 [c0,c1]=some x0:=by have:=hf 0 _ rfl;simpa [k0,Value.cells]using this
 have h1:DataW.trod enc Tryz.prog W base spare held n' 79 [c2]=some x1:=by have:=hf 1 _ rfl;simpa [k1,Value.cells]using this
 obtain⟨ys,n2,_,_,hlen2,hyl,hf2⟩:=DataW.trod_struct Tryz.underlying25 h0;obtain⟨y0,y1,rfl⟩:=zes hyl;have g0:DataW.trod enc Tryz.prog W base spare held n2 3 [c0]=some y0:=by have:=hf2 0 _ rfl;simpa [k2,Value.cells]using this
 have g1:DataW.trod enc Tryz.prog W base spare held n2 23 [c1]=some y1:=by have:=hf2 1 _ rfl;simpa [k3,Value.cells]using this
 obtain⟨z0,e0,_,w0⟩:=DataW.trod_int Tryz.underlying3 g0;simp at e0;subst e0;obtain⟨fs,f1,f2,f3⟩:=zo7 g1;obtain⟨hs,s1,s2,s3⟩:=zo8 h1;refine⟨⟨⟨z0,fs⟩,hs⟩,⟨⟨bounds_i64 w0,f1,f2⟩,s1,s2⟩,fun j q u hq hu=> ?_⟩
 match j with
 |0=>cases hq;cases hu;exact z3t _ rfl
 |1=>cases hq;cases hu;exact⟨f3,by cases f3;rfl⟩
 |2=>cases hq;cases hu;exact⟨s3,by cases s3;rfl⟩
 |j+3=>cases hq
theorem zjt{W:World}{b0 base:Nat}{spare:Nat→Bool}{held:Bool}{v:Value}{d:DataW H}{p:List MemPlace}(hok:Value.okWide Tryz.prog W .any b0 22 v)(h:DataW.Trod enc Tryz.prog W base spare held 22 v d p):
  ∃l:List RawL,(∀x∈l,RawLOk x)∧l.length≤9223372036854775807∧∀r,RelT W (z2N W) r (.pv (.sl 3 (rlR l))) v:=by
 obtain⟨a0,len,cap,rfl⟩:=okWide_slice Tryz.underlying22 hok;obtain⟨fuel,hf⟩:=h;obtain⟨l,h1,h2,h3⟩:=zo9 (c:=.slice a0 len cap) hf;exact⟨l,h1,h2,fun r=> .pv h3⟩
end
end Go.Proofs.YtpmlapgbmgbilaaGreatDoor
end

section
namespace Go.Proofs.YtpmlapgbmgbilaaGreatDoor
open Go.ChangeShapes Go.WideShapes Go.ChangeAt Go.RowKit Go.Lib Go.Mor Go.Deep
open Go.ChangeMaps (open_string shut_string)
abbrev z8J:List (String×DataW Unit):=[("math/bits.deBruijn32tab",Rows.laid_math_bits_deBruijn32tab),("math/bits.deBruijn64tab",Rows.laid_math_bits_deBruijn64tab),("internal/strconv.uint64pow10",Rows.laid_internal_strconv_uint64pow10),("unicode/utf8.acceptRanges",Rows.laid_unicode_utf8_acceptRanges),("moraine/wire.errEnd",Rows.laid_moraine_wire_errEnd),("moraine/wire.errForm",Rows.laid_moraine_wire_errForm),("strconv.ErrRange",Rows.laid_strconv_ErrRange),("strconv.ErrSyntax",Rows.laid_strconv_ErrSyntax),("unicode/utf8.first",Rows.laid_unicode_utf8_first)]
theorem zrW:(Rows.laid_internal_strconv_uint64pow10:DataW Unit)=Lib.tabData .u64 Lib.pow10Tab:=by kernel_rfl
theorem zsY{W:World}(h:W.ShapedOpen Tryz.prog):∃k,W.cell? ⟨4,0,none⟩=some (.int .i64 k):=
 cell_of_shapedOpen_int (zero:= #[.int .i64 0]) (t:=3) h (of_decide_eq_true (by kernel_rfl)) (by kernel_rfl) rfl (by kernel_rfl) (by kernel_rfl) Tryz.underlying3
theorem zsh: "*" ++ "errors.errorString" = "*errors.errorString" :=by decide
theorem zmd(u:TypeId)(h:Tryz.prog.typeName? 3 u=some "*errors.errorString"):u=334:=
 typeName_ptr_named (nm:= "errors.errorString") (by rw[zsh];kernel_rfl) (by kernel_rfl) (by decide) u (by rw[zsh];exact h)
theorem zaO{W:World}(hL:laidMetH Tryz.prog z8J W)(hsh:W.ShapedOpen Tryz.prog):∃a0 a1,(glX a0 a1 W.heap.size).G W:=by
 have hL':laidMet Tryz.prog z8J W:=hL;have hU:=znH hL' (.tail _ (.tail _ (.tail _ (.tail _ (.tail _ (.tail _ (.tail _ (.tail _ (.head _))))))))) (.tail _ (.tail _ (.tail _ (.head _))));have hv:=zsS hsh;have hT:GlobT W:=⟨Lib.tabIs_of_head zan (t:=323) (by kernel_rfl) Tryz.underlying323 Tryz.underlying173 (by kernel_rfl) (by kernel_rfl) (by have h:=hL'.tail.tail;rw[zrW]at h;exact h),zsY hsh⟩
 obtain⟨p0,p1,_,_,_,_,_,_,pv0,pv1,_⟩:=laid_sentinels2 (g0:=7) (g1:=6) (ti:=178) (tp:=334) (te:=336) (ts:=9) hL'.tail.tail.tail.tail.tail.tail (by kernel_rfl) (by kernel_rfl) (by kernel_rfl) (by kernel_rfl)
  Tryz.underlying178 zmd Tryz.underlying334 Tryz.underlying336 rfl rfl Tryz.underlying9 (by kernel_rfl) (by kernel_rfl)
 have hE:GlobE W:=by
  refine⟨⟨334,.pointer (some p1),?_⟩,⟨334,.pointer (some p0),?_⟩⟩
  ·have:=World.var?_cell (g:=6) (by kernel_rfl) pv1 0;simpa using this
  ·have:=World.var?_cell (g:=7) (by kernel_rfl) pv0 0;simpa using this
 obtain⟨a0,a1,s0,s1,c0,c1,t0,t1,hv0,hv1,_,_,_,_,_,_,hne,hb0,hb1⟩:=laid_sentinels2 (g0:=1) (g1:=0) (ti:=178) (tp:=334) (te:=336) (ts:=9) hL'.tail.tail.tail.tail (by kernel_rfl) (by kernel_rfl) (by kernel_rfl) (by kernel_rfl)
  Tryz.underlying178 zmd Tryz.underlying334 Tryz.underlying336 rfl rfl Tryz.underlying9 (by kernel_rfl) (by kernel_rfl)
 have hG:GlobW W a0 a1:=by
  refine⟨hU,?_,?_,hne,⟨c0,t0,hb0⟩,⟨c1,t1,hb1⟩⟩
  ·have:=World.var?_cell (g:=1) (by kernel_rfl) hv0 0;simpa using this
  ·have:=World.var?_cell (g:=0) (by kernel_rfl) hv1 0;simpa using this
 have hN:GlobN a0 a1 W.heap.size W:=⟨hG,Nat.le_refl _,z4o hb0,z4o hb1,hv⟩
 exact⟨a0,a1,(⟨⟨hN,hT⟩,hE⟩:GlobNX a0 a1 W.heap.size W)⟩
theorem zfu(os:Os)(args:Array Value):laidMet Tryz.prog z8J ((z6v os).forCall (fun _ _=>0) ⟨#[],args,[]⟩).memory:=
 (LaidIn.of_run [8,9,5,3,1,N0,0,N0+1,7,N0+2,6,N0+3,2] 8 (by kernel_rfl) (by kernel_rfl) (by kernel_rfl) (by kernel_rfl)).met
end Go.Proofs.YtpmlapgbmgbilaaGreatDoor
end

section
namespace Go.Proofs.YtpmlapgbmgbilaaGreatDoor
open Go
theorem zt0:Tryz.prog.funcs.any Func.goes=false:=by kernel_rfl
theorem zqb(f:FuncId):Tryz.prog.goes f=false:=by
 have h:=zt0;have key:∀g:Nat,(Tryz.prog.funcs[g]?).any Func.goes=false:=fun g=>by
  cases hg:Tryz.prog.funcs[g]? with
  |none=>rfl
  |some fn=>
   obtain⟨hl,rfl⟩:=gA hg;rw[Array.any_eq_false]at h;simpa using h g hl
 unfold Program.goes;rw[h,Bool.and_false,Bool.or_false];rw[←Bool.not_eq_true];intro hx;obtain⟨g,_,hg⟩:=by simpa using hx
 have:=key g;simp_all
theorem zpZ(c:OpenClaim)(hs:c.start=.entering):false=c.goesBy Tryz.prog:=by
 unfold OpenClaim.goesBy Program.goesAt Program.goesFrom;rw[hs];cases Tryz.prog.funcNamed c.func with
 |none=>rfl
 |some f=>simp[zqb f]
end Go.Proofs.YtpmlapgbmgbilaaGreatDoor
end

section
namespace Go.Mor
open Go
theorem zjZ{s:List Ln}(h:RightS s)(h8:s.length<8){x:Ln}(hx:zY x=true)(hn:(z0E s x.c.n).2=false):RightS (s++[x]):=by
 have hno:=zfw hn;refine⟨by simp;omega,fun l hm=> ?_,fun i j a b ha hb he=> ?_⟩
 ·rcases List.mem_append.1 hm with hm|hm
  ·exact h.line l hm
  ·obtain rfl:=List.mem_singleton.1 hm;exact hx
 ·have key:∀(i:Nat) a,(s++[x])[i]?=some a→(i<s.length∧s[i]?=some a)∨(i=s.length∧a=x):=fun i a ha=>by
   rw[List.getElem?_append]at ha;split at ha
   ·exact .inl ⟨by assumption,ha⟩
   ·rename_i hi;obtain⟨h1,h2⟩:=gJ ha;simp at h1;exact .inr ⟨by omega,by simp at h2;exact h2.symm⟩
  rcases key i a ha with⟨h1,h2⟩|⟨h1,rfl⟩<;>rcases key j b hb with⟨h3,h4⟩|⟨h3,rfl⟩
  ·exact h.own i j a b h2 h4 he
  ·exact absurd he (hno a (gM h2))
  ·exact absurd he.symm (hno b (gM h4))
  ·omega
def zkg(s:List Ln)(k:Nat)(l:Ln)(h:Chg):List Ln:=s.set k ⟨l.c,l.hs++[h]⟩
theorem zlS{l:Ln}(hr:zY l=true)(h:Chg):(z0h (z13 l) h).2=if okV (z13 l) h then 0 else 70:=by
 have hc:zd (z13 l)=true:=z1O (z0r hr (Nat.le_refl _));unfold z0h;rw[hc];cases okV (z13 l) h<;>rfl
def Kept(s t:List Ln):Prop:=∀(i:Nat) l,s[i]?=some l→∃l',t[i]?=some l'∧l'.c=l.c∧l.hs.length≤l'.hs.length∧∀v,v≤l.hs.length→zp l' v=zp l v
theorem Kept.refl(s:List Ln):Kept s s:=fun i l h=>⟨l,h,rfl,Nat.le_refl _,fun _ _=>rfl⟩
theorem Kept.trans{s t u:List Ln}(h:Kept s t)(h':Kept t u):Kept s u:=fun i l hi=>by
 obtain⟨a,a1,a2,a3,a4⟩:=h i l hi;obtain⟨b,b1,b2,b3,b4⟩:=h' i a a1;exact⟨b,b1,b2.trans a2,by omega,fun v hv=>(b4 v (by omega)).trans (a4 v hv)⟩
theorem zcd{s:List Ln}(h:RightS s)(i:Nat):RightS (s.take i):=
 ⟨by have:=h.len;rw[List.length_take];omega,fun l hl=>h.line l (List.mem_of_mem_take hl),fun a b x y hx hy e=>by
  rw[List.getElem?_take]at hx hy;split at hx
  ·split at hy
   ·exact h.own a b x y hx hy e
   ·cases hy
  ·cases hx⟩
theorem zgw(l:Ln){k:Nat}:∀{v:Nat},v≤k→zp ⟨l.c,l.hs.take k⟩ v=zp l v:=fun {v} hv=>by
 unfold zp;rw[List.take_take,Nat.min_eq_left hv];rfl
theorem zlw{l:Ln}(h:zY l=true)(k:Nat):zY ⟨l.c,l.hs.take k⟩=true:=by
 have h12:l.hs.length≤12:=by
  unfold zY at h;simp only[Bool.and_eq_true]at h;exact Nat.le_of_ble_eq_true h.1
 have hl:=List.length_take_le k l.hs;have hl':=List.length_take_le' k l.hs;unfold zY
 dsimp only
 rw[zgw l hl,z0r h hl',show Nat.ble (l.hs.take k).length 12=true from Nat.ble_eq_true_of_le (by omega)];rfl
theorem zic{s:List Ln}(h:RightS s){i:Nat}{l:Ln}(hi:s[i]?=some l):z0E (s.take i) l.c.n=(0,false):=by
 refine z8z fun x hx=> ?_;obtain⟨j,hj⟩:=List.getElem?_of_mem hx;rw[List.getElem?_take]at hj;split at hj
 ·rw[beq_eq_false_iff_ne];intro e;have:=h.own j i x l hj hi e;omega
 ·cases hj
def z49(s:List Ln)(i k:Nat)(l:Ln):List Ln:=s.take i++[⟨l.c,l.hs.take k⟩]
theorem z6k{s:List Ln}{i:Nat}{l:Ln}(hi:s[i]?=some l):(s.take i).length=i:=by
 have:=(gJ hi).1;rw[List.length_take];omega
theorem zjD{s:List Ln}(h:RightS s){i:Nat}{l:Ln}(hi:s[i]?=some l)(k:Nat):RightS (z49 s i k l):=by
 have hil:=(gJ hi).1;have h8:=h.len;exact zjZ (zcd h i) (by rw[z6k hi];omega) (zlw (h.line l (gM hi)) k) (by
  show(z0E (s.take i) l.c.n).2=false;rw[zic h hi])
theorem zql{s:List Ln}{i:Nat}{l:Ln}(hi:s[i]?=some l)(k:Nat):(z49 s i k l)[i]?=some ⟨l.c,l.hs.take k⟩:=by
 unfold z49;rw[List.getElem?_append_right (by rw[z6k hi];exact Nat.le_refl _),z6k hi,Nat.sub_self];rfl
theorem zqm{s:List Ln}(h:RightS s){i:Nat}{l:Ln}(hi:s[i]?=some l){k:Nat}{x:Chg}(hk:l.hs[k]?=some x):okV (z13 ⟨l.c,l.hs.take k⟩) x=true:=by
 have hr:=h.line l (gM hi);have hkl:=(gJ hk).1;have h1:=z0r hr (k:=k+1) (by omega);rw[z3q hk,z4c _ (z0r hr (by omega))]at h1;have:=(z3P h1).2.1;unfold z13
 dsimp only
 rw[show(l.hs.take k).length=k by rw[List.length_take];omega,zgw l (Nat.le_refl _)];exact this
theorem zlZ{s:List Ln}{i:Nat}{l:Ln}(hi:s[i]?=some l){k:Nat}{x:Chg}(hk:l.hs[k]?=some x):zkg (z49 s i k l) i ⟨l.c,l.hs.take k⟩ x=z49 s i (k+1) l:=by
 unfold zkg z49;rw[List.set_append,if_neg (by rw[z6k hi];omega),z6k hi,Nat.sub_self,List.set_cons_zero,List.take_add_one,hk];rfl
theorem zoj{s:List Ln}{i:Nat}{l:Ln}(hi:s[i]?=some l):z49 s i l.hs.length l=s.take (i+1):=by
 unfold z49;rw[List.take_length,List.take_add_one,hi];rfl
end Go.Mor
end

section
namespace Go.Proofs.YtpmlapgbmgbilaaGreatDoor
open Go Go.RowKit Go.Mor Go.Sh Go.Sh.Cd1 Go.Sh.Cd4
theorem zgW(a0 a1:Addr)(m:Nat)(b s:zB)(hs:s.length≤60)(hb:b.length≤100000):
  zC (gl a0 a1 m) 40 [.own 1000 1 (byR b),S (str s)] [.row 5 1 b.length] (.own 1000 1 (byR (b++text s))) [.row 5 1 (b++text s).length]:=by
 have HT:=zbk a0 a1 m s (by omega);have hm:maxLen=9223372036854775807:=rfl;have tk:=z4d hs;refine z5S ze tf_62 rfl rfl (by simp[moOk,Nat.beq_refl,nble]) ?_
 conv in SFunc.code _=>reduce
 simp only[vW,seval];(with_reducible apply zF);simp only[vW,seval,byP,z2d,z0J,z1X,z2g];rfl;rfl;exact HT;exact km;simp only[vW,seval,byP,z2d,z0J,z1X,z2g];rfl;simp only[vW,seval,byP,z2d,z0J,z1X,z2g];exact⟨by omega,by omega⟩
theorem zgV(a0 a1:Addr)(m:Nat)(s:zB)(hs:s.length≤60):
  zC (gl a0 a1 m) 40 [zn,S (str s)] [] (.own 1000 1 (byR (text s))) [.row 5 1 (text s).length]:=by
 have HT:=zbk a0 a1 m s (by omega);have hm:maxLen=9223372036854775807:=rfl;have tk:=z4d hs;refine z5S ze tf_62 rfl rfl (by simp[moOk,nble]) ?_
 conv in SFunc.code _=>reduce
 simp only[vW,seval,zn];(with_reducible apply zF);simp only[vW,seval,byP,z2d,z0J,z1X,z2g];rfl;rfl;exact HT;exact km;simp only[vW,seval,byP,z2d,z0J,z1X,z2g];rfl;simp only[vW,seval,byP,z2d,z0J,z1X,z2g];exact⟨by omega,by omega⟩
theorem z6D(a0 a1:Addr)(m:Nat)(l:zB)(st:Int×Bool)(hl:l.length<1125899906842624)(h:I64 st.1):
  zC (gl a0 a1 m) 43 [.ptr 1000 0] [rdB l st] (I (nuS l st).1) [rdB l (nuS l st).2]:=by
 have HR:=zc5 a0 a1 m l st.1 hl h;obtain⟨a,bad⟩:=st;unfold nuS rdB
 dsimp only at*
 refine zj tf_20 ?_;unfold B at*;cases hr:z06 l a with
 |none=>
  rw[hr]at HR;simp only[z9Q]at HR;cases bad
  ·simp only[vW,seval];exact zf HR
  ·simp only[vW,seval];exact zf HR
 |some p=>
  obtain⟨n,b⟩:=p;rw[hr]at HR;simp only[z9Q]at HR;cases bad
  ·simp only[vW,seval];exact zf HR
  ·simp only[vW,seval];exact zf HR
theorem zc1(a0 a1:Addr)(m:Nat)(l:zB)(st:Int×Bool)(hl:l.length<1125899906842624)(h:I64 st.1):
  zC (gl a0 a1 m) 42 [.ptr 1000 0] [rdB l st] (S (str (txS l st).1)) [rdB l (txS l st).2]:=by
 have HR:=zar a0 a1 m l st.1 hl h;have e0:=bS [];obtain⟨a,bad⟩:=st;unfold txS rdB
 dsimp only at*
 refine zj tf_21 ?_;unfold B at*;cases hr:zU l a with
 |none=>
  rw[hr]at HR;simp only[z7i]at HR;cases bad
  ·simp only[vW,seval];refine z7 HR ?_;simp only[vW,seval,e0]
  ·simp only[vW,seval];refine z7 HR ?_;simp only[vW,seval,e0]
 |some p=>
  obtain⟨n,b⟩:=p;rw[hr]at HR;simp only[z7i]at HR;cases bad
  ·simp only[vW,seval];refine z7 HR ?_;simp only[vW,seval,e0]
  ·simp only[vW,seval];refine z7 HR ?_;simp only[vW,seval,e0]
def encF'(f:Fld):zB:=text f.n++num f.t.k++num f.t.o++num (if f.ix then 1 else 0)
def encTo'(c:Cls)(i:Nat):zB:=text c.n++num c.fs.length++(c.fs.take i).flatMap encF'
def z0D(c:Cls):zB:=encTo' c c.fs.length
theorem encTo'_succ{c:Cls}{i:Nat}{f:Fld}(h:c.fs[i]?=some f):encTo' c (i+1)=encTo' c i++encF' f:=by
 unfold encTo';rw[List.take_add_one,h];simp
theorem z5T{c:Cls}(hc:zd c=true):c.n.length≤20∧c.fs.length≤8∧∀f∈c.fs,f.n.length≤20∧I64 f.t.k∧I64 f.t.o:=by
 obtain⟨h1,h2,h3,_⟩:=(z0X c).1 hc;have key:∀s,zb s=true→s.length≤20:=fun s h=>by
  unfold zb at h;simp only[Bool.and_eq_true,decide_eq_true_eq]at h;omega
 refine⟨key _ h1,h2,fun f hf=> ?_⟩;have hr:=h3 f hf;unfold zD zi at hr;simp only[Bool.and_eq_true]at hr;refine⟨key _ hr.1.1,?_,?_⟩;all_goals(unfold I64;have:=hr.1.2;grind)
theorem encF'_len{f:Fld}(h:f.n.length≤20):(encF' f).length≤100:=by
 have h1:=z4d (l:=f.n) (by omega);have h2:=z0n f.t.k;have h3:=z0n f.t.o;have h4:=z0n (if f.ix then 1 else 0);unfold encF';simp only[List.length_append];omega
theorem encTo'_len{c:Cls}(hc:zd c=true):∀i,(encTo' c i).length≤100+i*100
 |0=>by
  have h1:=z4d (l:=c.n) (by have:=(z5T hc).1;omega);have h2:=z0n (c.fs.length:Int);unfold encTo';simp only[List.length_append,List.take_zero,List.flatMap_nil,List.length_nil];omega
 |i+1=>by
  have ih:=encTo'_len hc i;cases hf:c.fs[i]? with
  |none=>
   have:encTo' c (i+1)=encTo' c i:=by unfold encTo';rw[List.take_add_one,hf];simp
   rw[this];omega
  |some f=>
   have:=encF'_len ((z5T hc).2.2 f (gM hf)).1;rw[encTo'_succ hf,List.length_append];omega
theorem ziV(a0 a1:Addr)(m:Nat)(c:Cls)(hc:zd c=true):zC (gl a0 a1 m) 17 [clT c] [] (.tuple [S (str (z0D c)),I 0]) []:=by
 have HR:=z0k (gl a0 a1 m) c (z1h hc).1;rw[hc]at HR;obtain⟨f1,f2,f3⟩:=z5T hc;have L0:=zgV a0 a1 m c.n (by omega);have N0:=z4u a0 a1 m (c.fs.length:Int) ⟨by omega,by omega⟩;have K1:=z4u a0 a1 m 1 ⟨by decide,by decide⟩;have K0:=z4u a0 a1 m 0 ⟨by decide,by decide⟩;have hm:maxLen=9223372036854775807:=rfl;have t1:=z4d (l:=c.n) (by omega);have t2:=z0n (c.fs.length:Int);refine za tf_55 ?_;unfold clT B zn at*;simp only[vW,seval];refine z8 HR ?_;refine z1m L0 ?_;simp only[vW,seval,z2e];refine .inl ?_;refine z07 N0 ?_;have lb:∀l:zB,(byR l).length=l.length:=fun l=>by unfold byR;rw[List.length_map]
 refine⟨⟨by rw[lb],by rw[lb];omega,by rw[lb];omega⟩,?_⟩;refine zk (σ:={i:Nat // i≤c.fs.length}) (fun i=>⟨[(4,.own 2048 1 (byR (encTo' c i.1))),(20,.pv (.sl 4 (flR c.fs))),(21,I (c.fs.length:Int)),(22,I (i.1:Int))],[(1,[S (str c.n),.pv (.sl 4 (flR c.fs))])],[(2048,(5,1,(encTo' c i.1).length))],[]⟩) (fun i=>c.fs.length-i.1) ⟨0,Nat.zero_le _⟩ ?_ ?_
 ·have e0:byR (encTo' c 0)=byR (text c.n)++z0C (str (num (c.fs.length:Int))):=by rw[byP];unfold encTo' byR;simp
  have e1:(encTo' c 0).length=(byR (text c.n)).length+(num (c.fs.length:Int)).length:=by unfold encTo' byR;simp
  dsimp only
  rw[e0,e1,z2e];exact lwA
 rintro⟨i,hi⟩;by_cases hlt:i<c.fs.length
 ·obtain⟨f,hf⟩:∃f,c.fs[i]?=some f:=⟨_,gE hlt⟩
  obtain⟨g1,g2,g3⟩:=f3 f (gM hf);have d1:(i:Int)<(c.fs.length:Int):=by omega
  have L1:=zgW a0 a1 m (encTo' c i) f.n (by omega) (by have:=encTo'_len hc i;omega);have N1:=z4u a0 a1 m f.t.k g2;have N2:=z4u a0 a1 m f.t.o g3;have wi:=wS i;have q5:=z0n 0;have q6:=z0n 1;have q1:=z4d (l:=f.n) (by omega);have q2:=z0n f.t.k;have q3:=z0n f.t.o;have q4:=encTo'_len hc i;simp only[vW,seval,d1,clV,hf];refine z1m L1 ?_;simp only[vW,seval,clV];refine .inl ?_;refine z07 N1 ?_;refine⟨⟨by simp[byP,z0J],by simp[byP,z0J];omega,by simp[byP,z0J];omega⟩,.inl ?_⟩;refine z07 N2 ?_;refine⟨⟨by simp[byP,z0J,Nat.add_assoc],by simp[byP,z0J];omega,by simp[byP,z0J];omega⟩,?_⟩;have e0:∀z,(if f.ix then 1 else 0)=z→byR (encTo' c (i+1))=byR (encTo' c i++text f.n)++z0C (str (num f.t.k))++z0C (str (num f.t.o))++z0C (str (num z)):=fun z hz=>by
   rw[encTo'_succ hf];unfold encF';rw[hz];simp[byP,z2d]
  have e1:∀z,(if f.ix then 1 else 0)=z→(encTo' c (i+1)).length=(byR (encTo' c i++text f.n)).length+(z0C (str (num f.t.k))).length+(z0C (str (num f.t.o))).length+(num z).length:=fun z hz=>by
   rw[←z0J,e0 z hz];simp[z0J,byP,Nat.add_assoc]
  cases hix:f.ix;all_goals
   simp only[vW,seval,hix];refine .inl ?_;first|refine z07 K0 ?_|refine z07 K1 ?_
   refine⟨⟨by simp[byP,z0J],by simp[byP,z0J];omega,by simp[byP,z0J];omega⟩,?_⟩;refine zc ⟨i+1,hlt⟩ (by show c.fs.length-(i+1)<c.fs.length-i;omega) ?_
   dsimp only
   first|rw[e0 0 (by rw[hix];rfl),e1 0 (by rw[hix];rfl),wi]|rw[e0 1 (by rw[hix];rfl),e1 1 (by rw[hix];rfl),wi]
   exact lwA
 ·have d1:¬(i:Int)<(c.fs.length:Int):=by omega
  have:i=c.fs.length:=by omega
  subst this;simp only[vW,seval,d1,z2e,z1X,z2g];rfl
end Go.Proofs.YtpmlapgbmgbilaaGreatDoor
end
