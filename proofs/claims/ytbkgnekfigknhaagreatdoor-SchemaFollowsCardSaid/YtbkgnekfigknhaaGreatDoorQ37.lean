/- Merged texts: Zu6 Zu7 Zu8 Zy5 Zx1 Ya5 Ya6 Yc2 Ya7. No statement of the program is proved here. -/
import Derived.Test.YtbkgnekfigknhaaGreatDoorQ36
set_option linter.unusedSimpArgs false
set_option linter.unusedVariables false
set_option maxRecDepth 100000
set_option maxHeartbeats 8000000
section
namespace Go.Proofs.YtbkgnekfigknhaaGreatDoor
open Go Go.RowKit Go.Mor Go.Sh Go.Sh.Cd1
section
open Go.Sh.Cd7
theorem z3X(g:Sh.Glob)(c n:Int)(hc:I64 c)(hn:0<n):zC g 54 [I c,I n] [] (I (Go.Mor.pick c n)) []:=by
 obtain⟨h0,h1⟩:=hc;refine za tf_118 ?_;have hne:¬n=0:=by omega
 unfold Go.Mor.pick;by_cases hneg:c<0
 ·rw[if_pos hneg];have w1:IntKind.i64.wrap (c+1)=c+1:=wrap64 (by omega) (by omega);have w2:IntKind.i64.wrap (0-(c+1))= -(c+1):=wG;have hm:(-(c+1)).tmod n=(-(c+1))%n:=Int.tmod_eq_emod_of_nonneg (by omega);simp only[vW,seval,hneg,hne,w1,w2,hm]
 ·rw[if_neg hneg];have hm:c.tmod n=c%n:=Int.tmod_eq_emod_of_nonneg (by omega);simp only[vW,seval,hneg,hne,hm]
def z7l(r:Option (zB)):TV:=match r with|some s=> .tuple [S (str s),B true]|none=> .tuple [S (str []),B false]
theorem z86(g:Sh.Glob)(c:Cls)(n:Int)(t:Ty)(hn:I64 n)(hl:c.fs.length≤1000):zC g 95 [clT c,I n,tyT t] [] (z7l (z3H c n t)) []:=by
 have PN:=z3X g n 100 hn (by decide);have hb:=zE n 100 (by decide);obtain⟨j,hj⟩:=Int.eq_ofNat_of_zero_le hb.1;rw[hj]at PN;have e0:=bS [];obtain⟨R,hR⟩:∃R,z3H c n t=R:=⟨_,rfl⟩
 rw[hR];unfold z3H at hR;rw[hj,Int.toNat_natCast]at hR;obtain⟨tk,ot⟩:=t;refine za tf_117 ?_;unfold clT tyT;simp only[vW,seval,e0];refine zl (σ:={i:Nat // i≤c.fs.length∧z7k c.fs j ⟨tk,ot⟩ (c.fs.length-i) i=R}) (fun i=>⟨[(1,I n),(3,.ptr 3 0),(5,.ptr 5 0),(8,I (i.1:Int))],[(3,[S (str c.n),.pv (.sl 4 (flR c.fs))]),(5,[I tk,I ot])],[],[]⟩) (fun i=>c.fs.length-i.1) ⟨0,Nat.zero_le _,hR⟩ ?_ ?_
 ·exact lwA
 rintro⟨i,hi,hT⟩;by_cases hlt:i<c.fs.length
 ·have d1:(i:Int)<(c.fs.length:Int):=by omega
  have w0:IntKind.i64.wrap ((j:Int)+(i:Int))=((j+i:Nat):Int):=wG;have w1:=wS i;have m0:Int.tmod ((j+i:Nat):Int) (c.fs.length:Int)=(((j+i)%c.fs.length:Nat):Int):=(Int.ofNat_tmod _ _).symm;have z0:¬(c.fs.length:Int)=0:=by omega
  have hq:=Nat.mod_lt (j+i) (show 0<c.fs.length by omega);obtain⟨f,ef⟩:∃f,c.fs[(j+i)%c.fs.length]?=some f:=⟨_,gE hq⟩
  obtain⟨k,hk⟩:∃k,c.fs.length-i=k+1:=⟨c.fs.length-i-1,by omega⟩
  rw[hk,z7k,List.getD_eq_getElem?_getD,ef]at hT;simp only[Option.getD_some]at hT;generalize(j+i)%c.fs.length=q at*;cases he:z0f f.t ⟨tk,ot⟩
  ·rw[he]at hT;simp only[Bool.false_eq_true,if_false]at hT;have he':z0f ⟨f.t.k,f.t.o⟩ ⟨tk,ot⟩=false:=he;simp only[vW,seval,d1,clV];refine z7 PN ?_;simp only[vW,seval,clV,w0,m0,z0,ef,z4S,he',w1];refine zc ⟨i+1,hlt,by rw[show c.fs.length-(i+1)=k by omega];exact hT⟩ (by show c.fs.length-(i+1)<c.fs.length-i;omega) ?_;exact lwA
  ·rw[he]at hT;simp only[if_true]at hT;subst hT;have he':z0f ⟨f.t.k,f.t.o⟩ ⟨tk,ot⟩=true:=he;unfold z7l B;simp only[vW,seval,d1,clV];refine z7 PN ?_;simp only[vW,seval,clV,w0,m0,z0,ef,z4S,he',w1]
 ·have d1:¬(i:Int)<(c.fs.length:Int):=by omega
  rw[show c.fs.length-i=0 by omega,z7k]at hT;subst hT;unfold z7l B;simp only[vW,seval,d1,clV,e0]
theorem zm1{a:zB}(h:a∈numL):a.length≤9:=by
 have:numL.all (fun a=>decide (a.length≤9))=true:=by decide
 simpa using List.all_eq_true.1 this a h
theorem zmK{a:zB}(h:a∈txtL):a.length≤9:=by
 have:txtL.all (fun a=>decide (a.length≤9))=true:=by decide
 simpa using List.all_eq_true.1 this a h
theorem ze5(g:Sh.Glob)(n:Int)(t:Ty)(c:Cls)(hn:I64 n)(hl:c.fs.length≤1000)(hc:∀f∈c.fs,f.n∈nmL):zC g 55 [I n,tyT t,clT c] [] (S (str (z4T n t c))) []:=by
 have F1:=z86 g c n ⟨1,0⟩ hn hl;have hn2:I64 (n.tdiv 2):=by
  obtain⟨h0,h1⟩:=hn;unfold I64;rcases Int.le_total 0 n with h|h
  ·rw[Int.tdiv_eq_ediv_of_nonneg h];omega
  ·have e:n= -(-n):=by omega
   rw[e,Int.neg_tdiv,Int.tdiv_eq_ediv_of_nonneg (by omega)];omega
 have F2:=z86 g c (n.tdiv 2) ⟨2,0⟩ hn2 hl;have F3:=z86 g c n t hn hl;have P8:=z3X g n 8 hn (by decide);have P3:=z3X g n 3 hn (by decide);have b8:=zE n 8 (by decide);obtain⟨j,hj⟩:=Int.eq_ofNat_of_zero_le b8.1;have la:=zm1 (zap hc n);have lb:=zmK (zaE hc n);have w2:IntKind.i64.wrap (n.tdiv 2)=n.tdiv 2:=wrap64 hn2.1 hn2.2;obtain⟨E,hE⟩:∃E,z4T n t c=E:=⟨_,rfl⟩
 rw[hE];unfold z4T at hE;rw[hj,Int.toNat_natCast]at hE;rw[hj]at P8;have hj8:j=0∨j=1∨j=2∨j=3∨j=4∨j=5∨j=6∨j=7:=by omega
 have q0:=bS [32,42,32,50,32,45,32,49];have q1:=bS [108,101,110,40];have q2:=bS [41];have q3:=bS [105,102,40];have q4:=bS [32,62,32,50,44,32];have q5:=bS [44,32,48,32,45,32];have q6:=bS [102,105,110,100,40,34,98,34,44,32];have q7:=bS [32,47,32];have q8:=bS [32,38,32,34,45,34,32,38,32];have q9:=bS [116,101,120,116,40];have q10:=bS [108,101,102,116,40];have q11:=bS [44,32,50,41];have q12:=bS [102,114,111,109,40];have q13:=bS [44,32,51,41];have q14:=bS [32,61,32,49,44,32];have q15:=bS [44,32,34,110,111,34,41];have q16:=bS [51];have q17:=bS [34,120,34];have q18:=bS [55];have q19:=bS [34,97,32,98,34];have q20:=bS [];obtain⟨tk,ot⟩:=t
 dsimp only at hE
 have hA:z8s c n=(z3H c n ⟨1,0⟩).getD [55]:=rfl;have hB:z8W c n=(z3H c (n.tdiv 2) ⟨2,0⟩).getD [34,97,32,98,34]:=rfl;generalize z8s c n=a at*;generalize z8W c n=b at*;refine z7a zg tf_116 rfl ?_;unfold clT tyT at*
 dsimp only at*
 generalize z3H c n ⟨1,0⟩=x at*;generalize z3H c (n.tdiv 2) ⟨2,0⟩=y at*;generalize z3H c n ⟨tk,ot⟩=z at*;have main:∀(sx sy:zB) (bx by_:Bool),z7l x=.tuple [S (str sx),.pv (.v (.bool bx))]→z7l y=.tuple [S (str sy),.pv (.v (.bool by_))]→a=(if bx then sx else [55])→b=(if by_ then sy else [34,97,32,98,34])→swp Tryz.prog g F_116.code (Post0 F_116.res (S (str E))) (startE [I n,.agg [I tk,I ot],.agg [S (str c.n),.pv (.sl 4 (flR c.fs))]] []):=by
  intro sx sy bx by_ hx hy ha hb;rw[hx]at F1;rw[hy]at F2;have zz:True:=trivial;cases bx<;>cases by_
  all_goals(
   simp only[if_true,Bool.false_eq_true,if_false]at ha hb;subst ha;subst hb;simp only[vW,seval];refine z7 F1 ?_;simp only[vW,seval,w2];refine z7 F2 ?_;by_cases t1:tk=1
   ·rw[if_pos t1]at hE;simp only[vW,seval,t1,q0,q1,q2,q3,q4,q5,q6,q7,q8,q9,q10,q11,q12,q13,q14,q15,q16,q17,q18,q19,q20];repeat(with_reducible refine And.intro (by omega) ?_)
    refine z7 P8 ?_;rcases hj8 with rfl|rfl|rfl|rfl|rfl|rfl|rfl|rfl
    all_goals(
     simp only[vW,seval];subst hE;first|rfl|simp[zeA])
   rw[if_neg t1]at hE;by_cases t2:tk=2
   ·rw[if_pos t2]at hE;simp only[vW,seval,t1,t2,q0,q1,q2,q3,q4,q5,q6,q7,q8,q9,q10,q11,q12,q13,q14,q15,q16,q17,q18,q19,q20];repeat(with_reducible refine And.intro (by omega) ?_)
    refine z7 P8 ?_;rcases hj8 with rfl|rfl|rfl|rfl|rfl|rfl|rfl|rfl
    all_goals(
     simp only[vW,seval];subst hE;first|rfl|simp[zfk])
   rw[if_neg t2]at hE;simp only[vW,seval,t1,t2,q0,q1,q2,q3,q4,q5,q6,q7,q8,q9,q10,q11,q12,q13,q14,q15,q16,q17,q18,q19,q20];cases z with
   |none=>
    unfold z7l B at F3
    dsimp only at F3 hE
    subst hE;refine z7 F3 ?_;simp only[vW,seval,q0,q1,q2,q3,q4,q5,q6,q7,q8,q9,q10,q11,q12,q13,q14,q15,q16,q17,q18,q19,q20]
   |some s=>
    unfold z7l B at F3
    dsimp only at F3 hE
    refine z8 F3 ?_;refine z7 P3 ?_;by_cases p0:0<Go.Mor.pick n 3
    ·rw[if_pos p0]at hE;subst hE;simp only[vW,seval,p0]
    ·rw[if_neg p0]at hE;subst hE;simp only[vW,seval,p0,q0,q1,q2,q3,q4,q5,q6,q7,q8,q9,q10,q11,q12,q13,q14,q15,q16,q17,q18,q19,q20])
 cases x with
 |none=>cases y with
  |none=>exact main [] [] false false rfl rfl hA hB
  |some s2=>exact main [] s2 false true rfl rfl hA hB
 |some s1=>cases y with
  |none=>exact main s1 [] true false rfl rfl hA hB
  |some s2=>exact main s1 s2 true true rfl rfl hA hB
theorem zdW{c:Cls}(h:zd c=true):ClsOk c∧c.fs.length≤8:=by
 have hr:=(z0T c).1 h;have key:∀s,zb s=true→z0v s:=fun s hs=>by
  unfold zb at hs;simp only[Bool.and_eq_true,decide_eq_true_eq]at hs;have:=hs.1.1.2;unfold z0v;omega
 refine⟨⟨key _ hr.1,fun f hf=>key _ ?_,by omega⟩,hr.2.1⟩;have:=hr.2.2.1 f hf;unfold zD at this;simp only[Bool.and_eq_true]at this;exact this.1.1
theorem znd:I64 0:=⟨by decide,by decide⟩
theorem zjR{i:Nat}(h:i<6):([[PV.v (.string ⟨#[110,101,119,95,49]⟩)],[.v (.string ⟨#[109,111,114,101]⟩)],[.v (.string ⟨#[122,57]⟩)],[.v (.string ⟨#[97]⟩)],[.v (.string ⟨#[110,97,109,101]⟩)],[.v (.string ⟨#[107,105,100,115]⟩)]]:List (List PV))[i]?=some [.v (.string (str (nmH (i:Int))))]:=by
 have:i=0∨i=1∨i=2∨i=3∨i=4∨i=5:=by omega
 rcases this with rfl|rfl|rfl|rfl|rfl|rfl<;>rfl
theorem zf1{s:zB}(h:s=[]∨s∈exL):RTx s:=by
 rcases h with rfl|h
 ·exact⟨⟨(V.nil,0,50),by kernel_rfl⟩,fun h=>absurd rfl h⟩
 ·obtain⟨_,h2,r,hr,_⟩:=zgm h;exact⟨⟨r,hr⟩,(z9z 0 hr (by omega)).sm⟩
theorem zlb(g:Sh.Glob)(x:RawH)(c:Cls)(hx:RawHOk x)(hg:zd c=true)(hn:∀f∈c.fs,f.n∈nmL):zC g 23 [zi3 x,clT c] [] (.tuple [chT (z3r x c),B (okV c (z3r x c))]) []:=by
 have hc6:=(zdW hg).2;have hcl:=(zdW hg).1;have hin:=zdR x hn;have sh:∀s:zB,s.length≤20→z0v s:=fun s h=>by unfold z0v;omega
 have HR:=z8G g c (z3r x c) hcl (sh _ hin.f) (sh _ hin.n) (sh _ hin.m) (zf1 hin.x) (zf1 hin.o);have HC:=z6t g ⟨0,[⟨0,x.t.k,x.t.o,false⟩]⟩ ⟨znd,fun r hr=>by obtain rfl:=List.mem_singleton.1 hr;exact⟨znd,hx.tk,hx.ot⟩,by simp⟩;have hcf:z0t ⟨0,[⟨0,x.t.k,x.t.o,false⟩]⟩=⟨nmC 0,[⟨nmF 0,tyH x.t,false⟩]⟩:=rfl;rw[hcf]at HC;have PK:=z3X g x.k 6 hx.k (by decide);have PN:=z3X g x.n 6 hx.n (by decide);have PM:=z3X g x.m 6 hx.m (by decide);have bk:=zE x.k 6 (by decide);have bn:=zE x.n 6 (by decide);have bm:=zE x.m 6 (by decide);have E1:=ze5 g x.x (tyH x.t) c hx.x (by omega) hn;have E2:=ze5 g x.o (tyH x.t) c hx.o (by omega) hn;obtain⟨jn,hjn⟩:=Int.eq_ofNat_of_zero_le bn.1;obtain⟨jm,hjm⟩:=Int.eq_ofNat_of_zero_le bm.1;have en:=zjR (i:=jn) (by omega);have em:=zjR (i:=jm) (by omega);have e0:=bS [];obtain⟨h,hh⟩:∃h,z3r x c=h:=⟨_,rfl⟩
 rw[hh]at HR ⊢;unfold z3r at hh;rw[hjn,hjm]at hh;rw[hjn]at PN;rw[hjm]at PM;have wk:IntKind.i64.wrap (1+Go.Mor.pick x.k 6)=1+Go.Mor.pick x.k 6:=wrap64 (by omega) (by omega);clear hin
 dsimp only at hh
 generalize Go.Mor.pick x.k 6=k at*;generalize nmH (jn:Int)=nn at*;generalize nmH (jm:Int)=mm at*;generalize z4T x.x (tyH x.t) c=xx at*;generalize z4T x.o (tyH x.t) c=oo at*;generalize tyH x.t=t at*;obtain⟨tk,ot⟩:=t;generalize hfn:(if c.fs=[] then [] else(c.fs.getD (Go.Mor.pick x.f c.fs.length).toNat z4j).n)=fn at hh;generalize hR:okV c h=R at*;have hk:k=0∨k=1∨k=2∨k=3∨k=4∨k=5:=by omega
 refine za tf_115 ?_;unfold zi3 clT tyT B zeR at*;simp only[vW,seval];refine z7 HC ?_;simp only[vW,seval,clV];refine z7 PK ?_;simp only[vW,seval,wk];refine z7 PN ?_;simp only[vW,seval,en];refine z7 PM ?_;simp only[vW,seval,em];refine z8 E1 ?_;refine z7 E2 ?_;have hfs:(c.fs=[]∧fn=[]∧¬(0:Int)<(c.fs.length:Int))∨(∃(j:Nat) (y:Fld),(0:Int)<(c.fs.length:Int)∧zC g 54 [I x.f,I (c.fs.length:Int)] [] (I (j:Int)) []∧c.fs[j]?=some y∧fn=y.n):=by
  by_cases h0:c.fs=[]
  ·rw[if_pos h0]at hfn;exact .inl ⟨h0,hfn.symm,by rw[h0];decide⟩
  ·have hlp:0<c.fs.length:=List.length_pos_iff.2 h0;have d0:(0:Int)<(c.fs.length:Int):=by omega
   have PF:=z3X g x.f (c.fs.length:Int) hx.f d0;have bf:=zE x.f (c.fs.length:Int) d0;obtain⟨j,hj⟩:=Int.eq_ofNat_of_zero_le bf.1;rw[hj]at PF;obtain⟨y,ey⟩:∃y,c.fs[j]?=some y:=⟨_,gE (by omega)⟩
   rw[if_neg h0,hj,Int.toNat_natCast,Go.Mor.getD_of ey]at hfn;exact .inr ⟨j,y,d0,PF,ey,hfn.symm⟩
 clear hfn;rcases hk with rfl|rfl|rfl|rfl|rfl|rfl
 ·obtain rfl:h=⟨1,[],nn,[],⟨tk,ot⟩,xx,[]⟩:=by rw[←hh];rfl
  clear hh;rcases hfs with⟨h0,rfl,d0⟩|⟨j,y,d0,PF,ey,rfl⟩
  ·unfold chT at*;try unfold ty0 at*
   simp only[vW,seval,d0,e0,clV];refine z8 HR ?_;try trivial
  ·unfold chT at*;try unfold ty0 at*
   simp only[vW,seval,d0,clV];refine z7 PF ?_;simp only[vW,seval,clV,ey,e0];refine z8 HR ?_;try trivial
 ·obtain rfl:h=⟨2,fn,[],[],ty0,[],[]⟩:=by rw[←hh];rfl
  clear hh;rcases hfs with⟨h0,rfl,d0⟩|⟨j,y,d0,PF,ey,rfl⟩
  ·unfold chT at*;try unfold ty0 at*
   simp only[vW,seval,d0,e0,clV];refine z8 HR ?_;try trivial
  ·unfold chT at*;try unfold ty0 at*
   simp only[vW,seval,d0,clV];refine z7 PF ?_;simp only[vW,seval,clV,ey,e0];refine z8 HR ?_;try trivial
 ·obtain rfl:h=⟨3,fn,nn,[],ty0,[],[]⟩:=by rw[←hh];rfl
  clear hh;rcases hfs with⟨h0,rfl,d0⟩|⟨j,y,d0,PF,ey,rfl⟩
  ·unfold chT at*;try unfold ty0 at*
   simp only[vW,seval,d0,e0,clV];refine z8 HR ?_;try trivial
  ·unfold chT at*;try unfold ty0 at*
   simp only[vW,seval,d0,clV];refine z7 PF ?_;simp only[vW,seval,clV,ey,e0];refine z8 HR ?_;try trivial
 ·obtain rfl:h=⟨4,fn,[],[],⟨tk,ot⟩,xx,[]⟩:=by rw[←hh];rfl
  clear hh;rcases hfs with⟨h0,rfl,d0⟩|⟨j,y,d0,PF,ey,rfl⟩
  ·unfold chT at*;try unfold ty0 at*
   simp only[vW,seval,d0,e0,clV];refine z8 HR ?_;try trivial
  ·unfold chT at*;try unfold ty0 at*
   simp only[vW,seval,d0,clV];refine z7 PF ?_;simp only[vW,seval,clV,ey,e0];refine z8 HR ?_;try trivial
 ·obtain rfl:h=⟨5,fn,nn,mm,⟨tk,ot⟩,xx,oo⟩:=by rw[←hh];rfl
  clear hh;rcases hfs with⟨h0,rfl,d0⟩|⟨j,y,d0,PF,ey,rfl⟩
  ·unfold chT at*;try unfold ty0 at*
   simp only[vW,seval,d0,e0,clV];refine z8 HR ?_;try trivial
  ·unfold chT at*;try unfold ty0 at*
   simp only[vW,seval,d0,clV];refine z7 PF ?_;simp only[vW,seval,clV,ey,e0];refine z8 HR ?_;try trivial
 ·obtain rfl:h=⟨6,fn,[],[],ty0,[],[]⟩:=by rw[←hh];rfl
  clear hh;rcases hfs with⟨h0,rfl,d0⟩|⟨j,y,d0,PF,ey,rfl⟩
  ·unfold chT at*;try unfold ty0 at*
   simp only[vW,seval,d0,e0,clV];refine z8 HR ?_;try trivial
  ·unfold chT at*;try unfold ty0 at*
   simp only[vW,seval,d0,clV];refine z7 PF ?_;simp only[vW,seval,clV,ey,e0];refine z8 HR ?_;try trivial
end
theorem zie{x:V}(h:z0Y x=true):x=.mk 0 0 [] []∨(∃n, -1000000000000000≤n∧n≤1000000000000000∧x=.mk 1 n [] [])∨(∃s,zk s=true∧x=.mk 2 0 s [])∨(∃k n,(k=3∨k=4)∧z2D n=true∧x=.mk k n [] []):=by
 unfold z0Y bare at h;have e:=V.eta x;by_cases h0:x.k=0
 ·rw[if_pos h0]at h;simp at h;obtain⟨⟨h1,h2⟩,h3⟩:=h;exact .inl (by rw[←e,h0,h1,h2,h3])
 rw[if_neg h0]at h;by_cases h0:x.k=1
 ·rw[if_pos h0]at h;simp at h;obtain⟨⟨⟨h1,h2⟩,h3⟩,h4⟩:=h;exact .inr (.inl ⟨x.n,h3,h4,by rw[←e,h0,h1,h2];rfl⟩)
 rw[if_neg h0]at h;by_cases h0:x.k=2
 ·rw[if_pos h0]at h;simp at h;obtain⟨⟨h1,h2⟩,h3⟩:=h;exact .inr (.inr (.inl ⟨x.s,h3,by rw[←e,h0,h1,h2];rfl⟩))
 rw[if_neg h0]at h;by_cases h0:x.k=3∨x.k=4
 ·rw[if_pos h0]at h;simp at h;obtain⟨⟨h1,h2⟩,h3⟩:=h;exact .inr (.inr (.inr ⟨x.k,x.n,h0,h3,by rw[←e,h1,h2];rfl⟩))
 ·rw[if_neg h0]at h;cases h
theorem zdi{s:zB}(h:zk s=true):s.length≤60:=by unfold zk at h;simp at h;exact h.1
theorem zfZ{n:Int}(h:z2D n=true):(1≤n∧n≤100000)∨(-20≤n∧n≤ -1):=by unfold z2D at h;simpa using h
theorem z59{x:V}(h:z0Y x=true):zoO x∧x.k≠5∧x.l=[]:=by
 unfold zoO I64;rcases zie h with rfl|⟨n,h1,h2,rfl⟩|⟨s,h1,rfl⟩|⟨k,n,h1,h2,rfl⟩
 ·refine⟨⟨⟨?_,?_⟩,⟨?_,?_⟩,?_⟩,?_,rfl⟩<;>simp[V.k,V.n,V.s]
 ·refine⟨⟨⟨?_,?_⟩,⟨?_,?_⟩,?_⟩,?_,rfl⟩<;>simp[V.k,V.n,V.s]<;>omega
 ·have:=zdi h1;refine⟨⟨⟨?_,?_⟩,⟨?_,?_⟩,?_⟩,?_,rfl⟩<;>simp[V.k,V.n,V.s]<;>omega
 ·have:=zfZ h2;refine⟨⟨⟨?_,?_⟩,⟨?_,?_⟩,?_⟩,?_,rfl⟩<;>simp[V.k,V.n,V.s]<;>omega
theorem zbs{x:V}(h:z19 x=true)(h5:x.k=5):x.n=0∧x.s=[]∧x.l.length≤12∧∀y∈x.l,y.k≠5∧z0Y y=true:=by
 unfold z19 at h;rw[if_pos h5]at h;simp only[Bool.and_eq_true,beq_iff_eq,decide_eq_true_eq,Bool.not_eq_true',List.any_eq_false]at h;obtain⟨⟨⟨h1,h2⟩,h3⟩,h4⟩:=h;refine⟨h1,h2,h3,fun y hy=> ?_⟩;have:=h4 y hy;unfold z2Y at this;simp at this;exact this
theorem zbu{x:V}(h:z19 x=true)(h5:x.k≠5):z0Y x=true:=by unfold z19 at h;rwa [if_neg h5]at h
theorem zig{x:V}(h:z19 x=true):VOk x∧VSmall x∧x.s.length≤60∧x.l.length≤12:=by
 have hm:maxLen=9223372036854775807:=rfl;by_cases h5:x.k=5
 ·obtain⟨h1,h2,h3,h4⟩:=zbs h h5;refine⟨⟨by unfold z1X;rw[h2];simp,fun y hy=> ?_⟩,?_,by rw[h2];simp,h3⟩
  ·have:=(z59 (h4 y hy).2).1.2.2;unfold z1X;omega
  ·obtain⟨k,n,s,l⟩:=x;simp only[Vl]at h3 h4;refine .mk (by omega) (fun y hy=> ?_);have:=(z59 (h4 y hy).2).2.2;obtain⟨k',n',s',l'⟩:=y;simp only[Vl]at this;subst this;exact .mk (by simp) (by simp)
 ·have h0:=z59 (zbu h h5);refine⟨⟨by have:=h0.1.2.2;unfold z1X;omega,by rw[h0.2.2];simp⟩,?_,h0.1.2.2,by rw[h0.2.2];simp⟩;obtain⟨k,n,s,l⟩:=x;have:=h0.2.2;simp only[Vl]at this;subst this;exact .mk (by simp) (by simp)
section
open Go.Sh.Cd7
theorem zjj{x:V}(h:z19 x=true):VFew x∧VOk x:=by
 have hv:=zig h;refine⟨?_,hv.1⟩;by_cases h5:x.k=5
 ·obtain⟨_,_,h3,h4⟩:=zbs h h5;obtain⟨k,n,s,l⟩:=x;simp only[Vl]at h3 h4;exact .mk (by omega) (fun y hy=>ze6 (z59 (h4 y hy).2).2.2)
 ·exact ze6 (z59 (zbu h h5)).2.2
theorem z32{c:Cls}{vals:List V}(h:FitC c vals):∀v∈vals,VFew v∧VOk v:=fun v hv=>by
 obtain⟨i,hi⟩:=List.getElem?_of_mem hv;have hl:=h.len;have hlt:=(gJ hi).1;have:=h.fit i _ v (gE (show i<c.fs.length by omega)) hi;unfold zF at this;simp only[Bool.and_eq_true]at this;exact zjj this.1.1.1
end
section
open Go.Sh.Cd7 Go.Sh.Cd10
def z38(l:Ln)(fr tt:Nat)(vals:List V)(i:Nat):List V:=z1K l fr vals (min i tt-fr)
theorem zjw{l:Ln}{fr tt:Nat}(h:fr≤tt)(vals:List V){i:Nat}(hi:i≤tt):(if fr≤i∧i<tt then z0B (zj l i).1 (l.hs.getD i ch0) (z38 l fr tt vals i)else z38 l fr tt vals i)=z38 l fr tt vals (i+1):=by
 unfold z38;by_cases h1:fr≤i∧i<tt
 ·rw[if_pos h1,show min (i+1) tt-fr=(min i tt-fr)+1 by omega];show _=z0B _ _ _;rw[show fr+(min i tt-fr)=i by omega]
 ·rw[if_neg h1,show min (i+1) tt-fr=min i tt-fr by omega]
theorem zlG{l:Ln}(hr:z08 l=true){fr tt:Nat}{vals:List V}(hf:FitC (zj l fr).1 vals)(ht:tt≤l.hs.length)(hft:fr≤tt){i:Nat}(hi:i≤tt):FitC (zj l (if fr≤i then i else fr)).1 (z38 l fr tt vals i):=by
 unfold z38;have:=z4z hr hf (min i tt-fr) (by omega);by_cases h:fr≤i
 ·rw[if_pos h];rwa [show fr+(min i tt-fr)=i by omega]at this
 ·rw[if_neg h];rwa [show fr+(min i tt-fr)=fr by omega]at this
theorem z2G{c:Cls}{vals:List V}(h:FitC c vals):vals.length≤1000:=by
 have:=(z0V h.r).2;rw[h.len];omega
theorem zej(m:Nat)(l:Ln)(hl:LnOk m l)(i fr tt:Nat)(hft:fr≤tt)(hto:tt≤l.hs.length)(hi:i≤tt)(vals:List V)(hf:FitC (zj l fr).1 vals){c:Cls}(hc:zj l i=(c,0)):
  zC (glE m) 71 [clT c,.ptr 1000 0,.ptr 1001 0,.ptr 1002 0,.ptr 1003 0,.ptr 1004 0,.ptr 1005 0] (osK l i fr tt (z38 l fr tt vals i) 0) (B (decide (i+1≤tt))) (osK l (i+1) fr tt (z38 l fr tt vals (i+1)) 0):=by
 have h0:=zlG hl.r hf hto hft hi;have:=zld m l hl i fr tt hft hto hi (z38 l fr tt vals i) (z32 h0) (z2G h0) (fun h=>by rwa [if_pos h]at h0);rw[zjw hft vals hi,hc]at this;exact this
theorem zl8(m:Nat)(l:Ln)(hl:LnOk m l)(fr tt:Nat)(hft:fr≤tt)(hto:tt≤l.hs.length)(vals:List V)(hf:FitC (zj l fr).1 vals):
  zC (glE m) 37 [.agg (lnC l),I (fr:Int),I (tt:Int),.pv (.sl 4 (V.rows vals))] [] (.tuple [.pv (.sl 4 (V.rows (z1K l fr vals (tt-fr)))),I 0]) []:=by
 refine za tf_171 ?_ (hc:=rfl);have HV:=z6J (glE m) l;have HC:=z0y (glE m) l.c (z0V hl.c).1;have HF:=zef (glE m) vals (z2G hf) (fun v hv=>(z32 hf v hv).1);have hz:=z2W l;rw[show z2d l=(l.c,0) by simp[z2d,hl.c]]at hz;have H0:=zej m l hl 0 fr tt hft hto (Nat.zero_le _) vals hf hz;have h12:=hl.len;rw[hl.c]at HC;have hh0:z38 l fr tt vals 0=vals:=by unfold z38;rw[show min 0 tt-fr=0 by omega];rfl
 rw[hh0]at H0;have hhe:z38 l fr tt vals (tt+1)=z1K l fr vals (tt-fr):=by unfold z38;rw[show min (tt+1) tt-fr=tt-fr by omega]
 unfold osK lnC B clT at*;simp only[vcY,seval];refine z2e HF ?_;refine z2e HV ?_;refine zbm (H:=z3y [(24,1)]) (Fp:=fpT []) (Kk:=z3z []) (lug:=[13]) tf_177 ?_;intro yv;refine z2e HC ?_;refine z6p ?_;(with_reducible apply zx);simp only[vcY,seval];rfl;exact H0;rfl;simp only[vcY,seval];rfl;simp only[vcY,seval];refine⟨fun h1=> ?_,fun h1=> ?_⟩
 ·refine zbG (σ:={x:Nat×Cls // x.1<tt∧zj l x.1=(x.2,0)}) (fun x=>yV yv l x.1.1 x.1.2 [(1001,[.fn (.func 71) [] [.ptr 1002 0,.ptr 1003 0,.ptr 1004 0,.ptr 1005 0,.ptr 1006 0,.ptr 1007 0]]),(1002,[I ((x.1.1+1:Nat):Int)]),(1003,[I (fr:Int)]),(1004,[.pv (.sl 4 (V.rows (z38 l fr tt vals (x.1.1+1))))]),(1005,[I 0]),(1006,[I (tt:Int)]),(1007,lnC l)]) (fun x=>l.hs.length-x.1.1) ⟨(0,l.c),by show 0<tt;omega,hz⟩ ?_ ?_
  ·unfold yV lnC;exact lwA
  rintro⟨⟨i,c⟩,hi,hv'⟩;have hi:i<tt:=hi;have hv':zj l i=(c,0):=hv';unfold yV lnC;obtain⟨h,ex⟩:∃h,l.hs[i]?=some h:=⟨_,gE (by omega)⟩
  obtain⟨n1,n2,n3⟩:=z7L hl ex;rw[hv']at n1 n2 n3;have HA:=z5J m c h n2 (hl.h h (gM ex)) (by have:c.fs.length≤8:=n3;omega);have n1:z0x c h=((zj l (i+1)).1,0):=n1;rw[n1]at HA;have hv1:zj l (i+1)=((zj l (i+1)).1,0):=by rw[←z0p hl.r (show i+1≤l.hs.length by omega)]
  have HS:=zej m l hl (i+1) fr tt hft hto (by omega) vals hf hv1;unfold osK lnC B clT at HS;unfold z5I clT chT at HA;have d2:(i:Int)<((z0P l.hs).length:Int):=by rw[z0n];omega
  have w2:=wS i;simp only[vcY,seval,d2,z2o,ex,chR];refine z2e HA ?_;refine z6p ?_;(with_reducible apply zx);simp only[vcY,seval];rfl;exact HS;rfl;simp only[vcY,seval];rfl;simp only[vcY,seval];refine⟨fun e=>zc ⟨(i+1,(zj l (i+1)).1),by show i+1<tt;omega,hv1⟩ (by show l.hs.length-(i+1)<l.hs.length-i;omega) ?_,fun e=> ?_⟩
  ·simp only[w2];exact lwA
  ·obtain rfl:tt=i+1:=by omega
   rw[hhe]
 ·obtain rfl:tt=0:=by omega
  rw[hhe]
def scT(ls:List Ln):TV:=.agg [.pv (.sl 3 (z1e ls))]
theorem z1t(ls:List Ln)(k:Nat):(z1e ls)[k]?=(ls[k]?).map lnR:=by unfold z1e;rw[List.getElem?_map]
theorem z0d(ls:List Ln):(z1e ls).length=ls.length:=by unfold z1e;rw[List.length_map]
theorem z7p(g:Sh.Glob)(ls:List Ln)(n:zB)(hl:ls.length≤1000):zC g 29 [scT ls,S (str n)] [] (.tuple [I ((z1i ls n).1:Int),B (z1i ls n).2]) []:=by
 refine za tf_166 ?_;obtain⟨R,hR⟩:∃R,z1i ls n=R:=⟨_,rfl⟩
 rw[hR];unfold scT B;simp only[vW,seval,z0d];refine zl (σ:={i:Nat // i≤ls.length∧∀(j:Nat) x,j<i→ls[j]?=some x→(x.c.n==n)=false}) (fun i=>⟨[(1,S (str n)),(9,.pv (.sl 3 (z1e ls))),(10,I (ls.length:Int)),(11,I (i.1:Int))],[],[],[]⟩) (fun i=>ls.length-i.1) ⟨0,Nat.zero_le _,fun j x hj=>by omega⟩ ?_ ?_
 ·exact lwA
 rintro⟨i,hi,hno⟩;by_cases hlt:i<ls.length
 ·have d1:(i:Int)<(ls.length:Int):=by omega
  obtain⟨x,ex⟩:∃x,ls[i]?=some x:=⟨_,gE hlt⟩
  have w1:=wS i;cases hp:(x.c.n==n)
  ·have hp':¬x.c.n=n:=by simpa using hp
   simp only[vW,seval,d1,z1t,ex,lnR,hp,hp',w1];refine zc ⟨i+1,by omega,fun j y hj hy=> ?_⟩ (by show ls.length-(i+1)<ls.length-i;omega) lwA;by_cases hji:j=i
   ·subst hji;rw[ex]at hy;cases hy;exact hp
   ·exact hno j y (by omega) hy
  ·have hp':x.c.n=n:=by simpa using hp
   simp only[vW,seval,d1,z1t,ex,lnR,hp,hp',w1];rw[←hR,zbT ex hp hno]
 ·have d1:¬(i:Int)<(ls.length:Int):=by omega
  simp only[vW,seval,d1];rw[←hR,zcy (fun x hx=>by
   obtain⟨j,hj⟩:=List.getElem?_of_mem hx;exact hno j x (by have:=(gJ hj).1;omega) hj)]
  rfl
def z7X(m:Nat)(ls:List Ln):Prop:=∀l∈ls,ClsOk l.c∧∀h∈l.hs,ChOk m h
theorem z69(m:Nat)(ls:List Ln)(hl:ls.length≤1000)(hs:z7X m ls):zC (glE m) 61 [scT ls] [] (.tuple [I (z5K ls).1,I (z5K ls).2]) []:=by
 refine za tf_165 ?_;obtain⟨R,hR⟩:∃R,z5K ls=R:=⟨_,rfl⟩
 rw[hR];unfold z5K at hR;by_cases h8:8<ls.length
 ·rw[if_pos h8]at hR;have d0:(8:Int)<(ls.length:Int):=by omega
  unfold scT;simp only[vW,seval,z0d,d0];rw[←hR]
 rw[if_neg h8]at hR;have d0:¬(8:Int)<(ls.length:Int):=by omega
 unfold scT;simp only[vW,seval,z0d,d0];refine zl (σ:={i:Nat // i≤ls.length∧z92 ls i (ls.drop i)=R}) (fun i=>⟨[(1,.ptr 1 0),(13,.pv (.sl 3 (z1e ls))),(14,I (ls.length:Int)),(15,I (i.1:Int))],[(1,[.pv (.sl 3 (z1e ls))])],[],[]⟩) (fun i=>ls.length-i.1) ⟨0,Nat.zero_le _,hR⟩ ?_ ?_
 ·exact lwA
 rintro⟨i,hi,hg⟩;by_cases hlt:i<ls.length
 ·have d1:(i:Int)<(ls.length:Int):=by omega
  obtain⟨x,ex⟩:∃x,ls[i]?=some x:=⟨_,gE hlt⟩
  have w1:=wS i;have HF:=z7p (glE m) ls x.c.n hl;have HR:=zkf m x (hs x (gM ex)).1 (hs x (gM ex)).2;rw[zdS ls i ex]at hg;unfold zaK at hg;unfold scT B at HF;unfold lnC B at HR;simp only[vW,seval,d1,z1t,ex,lnR];refine z8 HF ?_;by_cases hf:(z1i ls x.c.n).1<i
  ·have d2:((z1i ls x.c.n).1:Int)<(i:Int):=by omega
   simp only[vW,seval,d2,false_imp_iff,and_true,true_and,forall_const];simp only[hf,decide_true,Bool.true_or,if_true]at hg;rw[←hg]
  ·have d2:¬((z1i ls x.c.n).1:Int)<(i:Int):=by omega
   simp only[vW,seval,d2,false_imp_iff,and_true,true_and,forall_const];refine z8 HR ?_;cases hr:z08 x
   ·simp only[vW,seval];simp only[hr,Bool.not_false,Bool.or_true,if_true]at hg;rw[←hg]
   ·simp only[vW,seval,w1];simp only[hf,hr,decide_false,Bool.not_true,Bool.or_false,Bool.false_eq_true,if_false]at hg;refine zc ⟨i+1,by omega,hg⟩ (by show ls.length-(i+1)<ls.length-i;omega) lwA
 ·have d1:¬(i:Int)<(ls.length:Int):=by omega
  rw[List.drop_eq_nil_of_le (by omega)]at hg;simp only[vW,seval,d1];rw[←hg];rfl
theorem z3i(g:Sh.Glob)(c n:Int)(hc:I64 c)(hn:0<n):zC g 9 [I c,I n] [] (I (Go.Mor.pick c n)) []:=by
 obtain⟨h0,h1⟩:=hc;refine za tf_126 ?_;have hne:¬n=0:=by omega
 unfold Go.Mor.pick;by_cases hneg:c<0
 ·rw[if_pos hneg];have w1:IntKind.i64.wrap (c+1)=c+1:=wrap64 (by omega) (by omega);have w2:IntKind.i64.wrap (0-(c+1))= -(c+1):=wG;have hm:(-(c+1)).tmod n=(-(c+1))%n:=Int.tmod_eq_emod_of_nonneg (by omega);simp only[vW,seval,hneg,hne,w1,w2,hm]
 ·rw[if_neg hneg];have hm:c.tmod n=c%n:=Int.tmod_eq_emod_of_nonneg (by omega);simp only[vW,seval,hneg,hne,hm]
theorem zkc{s:zB}(h:zdF s):RTx s:=by
 rcases h with rfl|⟨h2,r,hr⟩
 ·exact zf1 (.inl rfl)
 ·exact⟨⟨r,hr⟩,(z9z 0 hr (by omega)).sm⟩
theorem zom(g:Sh.Glob){c:Cls}{h:Chg}(ho:okV c h=true)(hi:ChRd h):zC g 57 [clT c,chT h] [] (.tuple [clT ⟨c.n,z0b c h⟩,I 0]) []:=by
 have sh:∀s:zB,s.length≤20→z0v s:=fun s h=>by unfold z0v;omega
 have hk:1≤h.k∧h.k≤6:=by
  unfold okV z0h z0E at ho;simp only[Bool.and_eq_true]at ho
  grind
 exact zfT g c h ho hk (sh _ hi.f) (sh _ hi.n) (sh _ hi.m) (zkc hi.x) (zkc hi.o)
theorem zjK(g:Sh.Glob)(l:Ln)(hg:GoodL l):zC g 24 [.agg (lnC l)] [] (clT (z22 l)) []:=by
 refine za tf_120 ?_;have h12:l.hs.length≤12:=by
  have:=hg.r;unfold z08 at this;simp only[Bool.and_eq_true]at this;exact Nat.le_of_ble_eq_true this.1
 have hz:=z2W l;unfold lnC;simp only[vW,seval];refine zl (σ:={x:Nat×Cls // x.1≤l.hs.length∧zj l x.1=(x.2,0)}) (fun x=>⟨[(1,.ptr 1 0),(2,.ptr 2 0),(3,.ptr 3 0),(4,I (x.1.1:Int))],[(1,[S (str l.c.n),.pv (.sl 4 (flR l.c.fs)),.pv (.sl 8 (z0P l.hs))]),(2,[S ⟨#[]⟩,.pv (.v (.slice none 0 0))]),(3,[S (str x.1.2.n),.pv (.sl 4 (flR x.1.2.fs))])],[],[]⟩) (fun x=>l.hs.length-x.1.1) ⟨(0,l.c),Nat.zero_le _,by
  have:=z0p hg.r (Nat.zero_le _);rw[hz]at this ⊢;unfold z2d at*;exact Prod.ext rfl this⟩ ?_ ?_
 ·exact lwA
 rintro⟨⟨i,c⟩,hi,hv⟩;have hi:i≤l.hs.length:=hi;have hv:zj l i=(c,0):=hv;by_cases hlt:i<l.hs.length
 ·have d1:(i:Int)<(l.hs.length:Int):=by omega
  obtain⟨h,ex⟩:∃h,l.hs[i]?=some h:=⟨_,gE hlt⟩
  have hn:=z3o ex;rw[hv,z3Z h rfl]at hn;have h0:=z0p hg.r (k:=i+1) (by omega);rw[hn]at h0;have ho:=(z4Q h0).2.1;have HA:=zom g ho (hg.h h (gM ex));have hn2:zj l (i+1)=(⟨c.n,z0b c h⟩,0):=by
   rw[hn];unfold z0x;rw[(z4Q h0).1,ho];rfl
  have w1:=wS i;unfold clT chT at HA;simp only[vW,seval,d1,z0n,z2o,ex,chR];refine z8 HA ?_;simp only[vW,seval,w1];exact zc ⟨(i+1,⟨c.n,z0b c h⟩),hlt,hn2⟩ (by show l.hs.length-(i+1)<l.hs.length-i;omega) lwA
 ·have d1:¬(i:Int)<(l.hs.length:Int):=by omega
  obtain rfl:i=l.hs.length:=by omega
  have e:z22 l=c:=by unfold z22;rw[hv]
  rw[e];unfold clT;simp only[vW,seval,d1,z0n]
def zic(x:RawH):List PV:=[.v (.int .i64 x.k),.v (.int .i64 x.f),.v (.int .i64 x.n),.v (.int .i64 x.m),.v (.int .i64 x.t.k),.v (.int .i64 x.t.o),.v (.int .i64 x.x),.v (.int .i64 x.o)]
def rhR(l:List RawH):List (List PV):=l.map zic
def rlC(x:RawL):List TV:=[I x.c.n,.pv (.sl 4 (rfR x.c.fs)),.pv (.sl 8 (rhR x.hs))]
structure RawLOk(x:RawL):Prop where
 c:RawOk x.c
 h:∀r∈x.hs,RawHOk r
 len:x.hs.length≤9223372036854775807
theorem zqF(l:List RawH)(k:Nat):(rhR l)[k]?=(l[k]?).map zic:=by unfold rhR;rw[List.getElem?_map]
theorem zib(l:List RawH):(rhR l).length=l.length:=by unfold rhR;rw[List.length_map]
theorem ziK(x:RawL){i:Nat}{r:RawH}(h:x.hs[i]?=some r):(x.hs.take (i+1)).foldl z3b ⟨z0t x.c,[]⟩=z3b ((x.hs.take i).foldl z3b ⟨z0t x.c,[]⟩) r:=by
 rw[List.take_add_one,h];simp only[Option.toList_some,List.foldl_append,List.foldl_cons,List.foldl_nil]
theorem ziV(l:List Chg)(h:Chg):z0P (l++[h])=z0P l++[chR h]:=by unfold z0P;rw[List.map_append];rfl
theorem zjE(g:Sh.Glob)(x:RawL)(hx:RawLOk x):zC g 31 [.agg (rlC x)] [] (.agg (lnC (z2y x))) []:=by
 have HC:=z6t g x.c hx.c;have hlen:=hx.len;refine z1I tf_119 ?_;unfold rlC zeR clT at*;simp only[vW,seval];refine z8 HC ?_;refine zl (σ:={x':Nat×Ln // x'.1≤x.hs.length∧x'.1≤5∧x'.2=(x.hs.take x'.1).foldl z3b ⟨z0t x.c,[]⟩}) (fun x'=>⟨[(1,.ptr 1 0),(2,.ptr 2 0),(3,.ptr 3 0),(4,I (x'.1.1:Int))],[(1,[I x.c.n,.pv (.sl 4 (rfR x.c.fs)),.pv (.sl 8 (rhR x.hs))]),(2,[S ⟨#[]⟩,.pv (.v (.slice none 0 0)),.pv (.v (.slice none 0 0))]),(3,[S (str x'.1.2.c.n),.pv (.sl 4 (flR x'.1.2.c.fs)),.own 3000 8 (z0P x'.1.2.hs)])],[(3000,(51,8,x'.1.2.hs.length))],[]⟩) (fun x'=>5-x'.1.1) ⟨(0,⟨z0t x.c,[]⟩),Nat.zero_le _,Nat.zero_le _,rfl⟩ ?_ ?_
 ·refine ES.Lw.trans ?_ (z4Y (x:=3) (j:=2) (d:=3000) (e:=51) (W:=8) (.inr (by decide)) (by decide) rfl (by simp only[vcA,seval]) rfl);exact z0D rfl
 rintro⟨⟨i,l⟩,hi,hi5,hl⟩;have hi:i≤x.hs.length:=hi;have hi5:i≤5:=hi5;have hl:l=(x.hs.take i).foldl z3b ⟨z0t x.c,[]⟩:=hl;have htl:=List.length_take_le i x.hs;obtain⟨hg,hgl,_⟩:=z8e (x.hs.take i) ⟨z0t x.c,[]⟩ (zai x.c) (by simp;omega);rw[←hl]at hg hgl;simp only[List.length_nil,Nat.zero_add]at hgl;by_cases hlt:i<x.hs.length∧i<5
 ·obtain⟨hlt,hl5⟩:=hlt;have d1:(i:Int)<(x.hs.length:Int):=by omega
  have d2:(i:Int)<5:=by omega
  obtain⟨r,er⟩:∃r,x.hs[i]?=some r:=⟨_,gE hlt⟩
  have w1:=wS i;have HN:=zjK g l hg;have hrc:zd (z22 l)=true:=z1a (z0p hg.r (Nat.le_refl _));have HG:=zlb g r (z22 l) (hx.h r (gM er)) hrc hg.n;have hst:=ziK x er;rw[←hl]at hst;unfold z3b at hst;generalize z3r r (z22 l)=h at*;generalize z22 l=c at*;unfold lnC clT at HN;unfold zi3 clT chT B at HG;simp only[vW,seval,d1,d2,zib,zqF,er,zic];refine z7 HN ?_;refine z8 HG ?_;cases ho:okV c h
  ·rw[ho]at hst;simp only[Bool.false_eq_true,if_false]at hst;simp only[vW,seval,w1];exact zc ⟨(i+1,l),hlt,hl5,hst.symm⟩ (by show 5-(i+1)<5-i;omega) lwA
  ·rw[ho]at hst;simp only[if_true]at hst;simp only[vW,seval,w1,z0n];refine⟨⟨by omega,by unfold maxLen;omega⟩,zc ⟨(i+1,⟨l.c,l.hs++[h]⟩),hlt,hl5,hst.symm⟩ (by show 5-(i+1)<5-i;omega) ?_⟩;simp only[ziV,List.length_append,List.length_cons,List.length_nil,chR];exact lwA
 ·have he:(x.hs.take 5).foldl z3b ⟨z0t x.c,[]⟩=l:=by
   rw[hl];by_cases h5:i=5
   ·rw[h5]
   ·rw[List.take_of_length_le (by omega),List.take_of_length_le (by omega)]
  unfold z2y;rw[he];unfold lnC;by_cases h5:i=5
  ·have d2:¬(i:Int)<5:=by omega
   simp only[vW,seval,d2,zib];exact⟨fun _=>trivial,fun _=>trivial⟩
  ·have d1:¬(i:Int)<(x.hs.length:Int):=by omega
   simp only[vW,seval,d1,zib]
end
section
open Go.Sh.Cd7 Go.Sh.Cd10
def zex(e:Int):TV:=.tuple [.agg [S ⟨#[]⟩,zu,zu],I e]
theorem zlS(m:Nat)(ls:List Ln)(hl:ls.length≤1000)(hs:z7X m ls)(n:Int)(he:(z5K ls).2=0)(hn:n<0∨(ls.length:Int)≤n):zC (glE m) 33 [scT ls,I n] [] (zex 2) []:=by
 have HC:=z69 m ls hl hs;rw[he]at HC;refine za tf_173 ?_;unfold scT zex zu at*;simp only[vW,seval];refine z8 HC ?_;by_cases h0:n<0
 ·simp only[vW,seval,h0,z0d,false_imp_iff,and_true,true_and,forall_const]
 ·have h1:(ls.length:Int)≤n:=by omega
  simp only[vW,seval,h0,h1,z0d,false_imp_iff,and_true,true_and,forall_const]
theorem z6S(m:Nat)(ls:List Ln)(hl:ls.length≤1000)(hs:z7X m ls)(he:(z5K ls).2=0){k:Nat}{l:Ln}(hk:ls[k]?=some l):zC (glE m) 33 [scT ls,I (k:Int)] [] (.tuple [.agg (lnC l),I 0]) []:=by
 have HC:=z69 m ls hl hs;rw[he]at HC;have hkl:=(gJ hk).1;have h0:¬(k:Int)<0:=by omega
 have h1:¬(ls.length:Int)≤(k:Int):=by omega
 have h2:(k:Int)<(ls.length:Int):=by omega
 refine za tf_173 ?_;unfold scT lnC at*;simp only[vW,seval];refine z8 HC ?_;simp only[vW,seval,h0,h1,h2,z0d,z1t,hk,lnR,false_imp_iff,and_true,true_and,forall_const];refine⟨hkl,fun b hb=> ?_⟩;obtain rfl:=Option.some.inj hb;refine⟨Nat.le_refl 3,rfl,?_⟩;simp only[vW,seval,List.take_succ_cons,List.take_zero,List.drop_succ_cons,List.drop_zero]
section
variable{m:Nat}{ls:List Ln}{n:Int}{e:Int}
theorem zlO(he:e≠0)(HL:zC (glE m) 33 [scT ls,I n] [] (zex e) []):zC (glE m) 28 [scT ls,I n] [] (.tuple [I 0,I e]) []:=by
 refine za tf_167 ?_;unfold scT zex zu at*;simp only[vW,seval];refine z8 HL ?_;simp only[vW,seval,he];exact fun h=>h.elim
end
section
variable{m:Nat}{ls:List Ln}{k:Nat}{l:Ln}
theorem znX(HL:zC (glE m) 33 [scT ls,I (k:Int)] [] (.tuple [.agg (lnC l),I 0]) []):zC (glE m) 28 [scT ls,I (k:Int)] [] (.tuple [I (l.hs.length:Int),I 0]) []:=by
 refine za tf_167 ?_;unfold scT lnC at*;simp only[vW,seval];refine z8 HL ?_;simp only[vW,seval,z0n]
theorem zoS(HL:zC (glE m) 33 [scT ls,I (k:Int)] [] (.tuple [.agg (lnC l),I 0]) [])(v:Int)(hv:v<0∨(l.hs.length:Int)<v):zC (glE m) 10 [scT ls,I (k:Int),I v] [] (.tuple [.agg [S ⟨#[]⟩,zu],I 81]) []:=by
 refine za tf_163 ?_;unfold scT lnC zu at*;simp only[vW,seval];refine z8 HL ?_;by_cases h0:v<0
 ·simp only[vW,seval,h0,z0n,false_imp_iff,and_true,true_and,forall_const]
 ·have h1:(l.hs.length:Int)<v:=by omega
  simp only[vW,seval,h0,h1,z0n,false_imp_iff,and_true,true_and,forall_const]
theorem z74(hl:LnOk m l)(HL:zC (glE m) 33 [scT ls,I (k:Int)] [] (.tuple [.agg (lnC l),I 0]) []){v:Nat}(hv:v≤l.hs.length):zC (glE m) 10 [scT ls,I (k:Int),I (v:Int)] [] (.tuple [clT (zj l v).1,I 0]) []:=by
 have HM:=zgv m l hl v hv;have HF:=z5h (glE m) (zj l v).1 (by have:=(z0V (z1a (z0p hl.r hv))).2;omega);have h0:¬(v:Int)<0:=by omega
 have h1:¬(l.hs.length:Int)<(v:Int):=by omega
 refine za tf_163 ?_;unfold scT lnC clT at*;simp only[vW,seval];refine z8 HL ?_;simp only[vW,seval,h0,h1,z0n,false_imp_iff,and_true,true_and,forall_const];refine z7 HM ?_;refine z8 HF ?_;trivial
theorem ziT(HL:zC (glE m) 33 [scT ls,I (k:Int)] [] (.tuple [.agg (lnC l),I 0]) [])(v w:Int)(hv:v<0∨(l.hs.length:Int)<w∨w<v)(x:TV):zC (glE m) 12 [scT ls,I (k:Int),I v,I w,x] [] (.tuple [zu,I 81]) []:=by
 refine za tf_164 ?_;unfold scT lnC zu at*;simp only[vW,seval];refine z8 HL ?_;by_cases h0:v<0
 ·simp only[vW,seval,h0,z0n,false_imp_iff,and_true,true_and,forall_const]
 ·by_cases h1:(l.hs.length:Int)<w
  ·simp only[vW,seval,h0,h1,z0n,false_imp_iff,and_true,true_and,forall_const]
  ·have h2:w<v:=by omega
   simp only[vW,seval,h0,h1,h2,z0n,false_imp_iff,and_true,true_and,forall_const]
theorem z3T(hl:LnOk m l)(HL:zC (glE m) 33 [scT ls,I (k:Int)] [] (.tuple [.agg (lnC l),I 0]) []){fr tt:Nat}(hft:fr≤tt)(hto:tt≤l.hs.length)(vals:List V)(hf:FitC (zj l fr).1 vals):zC (glE m) 12 [scT ls,I (k:Int),I (fr:Int),I (tt:Int),.pv (.sl 4 (V.rows vals))] [] (.tuple [.pv (.sl 4 (V.rows (z1K l fr vals (tt-fr)))),I 0]) []:=by
 have HC:=zl8 m l hl fr tt hft hto vals hf;have h0:¬(fr:Int)<0:=by omega
 have h1:¬(l.hs.length:Int)<(tt:Int):=by omega
 have h2:¬(tt:Int)<(fr:Int):=by omega
 refine za tf_164 ?_;unfold scT lnC at*;simp only[vW,seval];refine z8 HL ?_;simp only[vW,seval,h0,h1,h2,z0n,false_imp_iff,and_true,true_and,forall_const];refine z8 HC ?_;trivial
end
end
end Go.Proofs.YtbkgnekfigknhaaGreatDoor
end
