/- Merged texts: PFits Pk1 Zm0 Cd7 Zm1 Zv3 Zm2 Zm3 Zm4 Zm6 Zm7. No statement of the program is proved here. -/
import Derived.Test.YthinnldeogflgaaGreatDoorQ22
import Derived.Test.YthinnldeogflgaaGreatDoorQ26
import Derived.Shelf.RegionOpenPlain
import Derived.Deep.LoopGhost
import Derived.Lib.Walk
import Derived.Lib.SliceRun
import Derived.Lib.AppendZerosOnto
set_option linter.unusedSimpArgs false
set_option linter.unusedVariables false
set_option maxRecDepth 100000
set_option maxHeartbeats 8000000
section
namespace Go.Mor
open Go
section
open Go.RowKit
theorem zeI:∀(fs:List Fld) (vs:List V) (k:Nat),(∀(i:Nat) f v,fs[i]?=some f→vs[i]?=some v→zA v f.t=true)→z1V k fs vs=(0,0):=by
 intro fs
 induction fs with
 |nil=>grind [z1V]
 |cons f r ih=>
  intro vs k h;cases vs with
  |nil=>simp[z1V]
  |cons v q=>
   rw[z1V,if_pos (h 0 f v rfl rfl)];exact ih q (k+1) fun i f v hf hv=>h (i+1) f v (by grind) (by grind)
theorem zi5{c:Cls}{vs:List V}(hc:zd c=true)(hl:vs.length=c.fs.length)(h:∀(i:Nat) f v,c.fs[i]?=some f→vs[i]?=some v→zA v f.t=true):check c vs=(0,0):=by
 simp only[check,hc,Bool.not_true,Bool.false_eq_true,if_false,hl,ne_eq,not_true_eq_false]
 grind [zeI]
theorem z6H(t:Ty)(ht:zM t=true):zA (z3B t) t=true:=by
 obtain⟨k,o⟩:=t;by_cases h5:k=5
 ·subst h5;simp[z3B,ht,zA,z0O,z1f,V.k,V.n,V.s,V.l]
 ·have hk:(1≤k∧k≤4)∧o=0:=by simp[zM,h5]at ht;omega
  obtain⟨hk,rfl⟩:=hk;have:k=1∨k=2∨k=3∨k=4:=by omega
  rcases this with rfl|rfl|rfl|rfl<;>rfl
end
structure Chg where
 k:Int
 f:zB
 n:zB
 m:zB
 t:Ty
 x:zB
 o:zB
def rdV(s:zB):V×Int×Int:=(z2O 1000 s).getD (V.nil,0,50)
structure Nd where
 f:Bool
 n:Bool
 m:Bool
 t:Bool
 x:Bool
 o:Bool
 ok:Bool
def z1v(k:Int):Nd:=
 if k=1 then⟨false,true,false,true,true,false,true⟩
 else if k=2∨k=6 then⟨true,false,false,false,false,false,true⟩
 else if k=3 then⟨true,true,false,false,false,false,true⟩
 else if k=4 then⟨true,false,false,true,true,false,true⟩
 else if k=5 then⟨true,true,true,true,true,true,true⟩
 else⟨false,false,false,false,false,false,false⟩
def z2E(s:zB)(b:Bool):Bool:=if b then zk s else s==[]
def z63(s:zB)(b:Bool):Bool:=if s==[] then true else if b then decide ((rdV s).2.2=0)else false
def z1Q(h:Chg):Bool:=
 (z1v h.k).ok&&z2E h.f (z1v h.k).f&&z2E h.n (z1v h.k).n&&z2E h.m (z1v h.k).m&&(if(z1v h.k).t then zM h.t else z0B h.t ty0)&&z63 h.x (z1v h.k).x&&z63 h.o (z1v h.k).o
inductive Tl where
 |no
 |zero
 |ev (e:V)
def zt(c:Cls)(s:zB)(t:Ty):Tl:=
 if s=[] then .zero else if(rdV s).2.2≠0 then .no else if(z40 c (rdV s).1).2=0∧z0B (z40 c (rdV s).1).1 t=true then .ev (rdV s).1 else .no
def Tl.is:Tl→Bool
 | .no=>false
 |_=>true
def Tl.val(c:Cls)(t:Ty)(vals:List V):Tl→V
 | .no=>V.nil
 | .zero=>z3B t
 | .ev e=>(z3i c vals e).1
def z1c(fs:List Fld)(s:zB):Bool:= !decide (fieldAt fs s<0)
def z2i(fs:List Fld)(s but:zB):Bool:=decide (fieldAt fs s<0)||s==but
def atV(fs:List Fld)(s:zB):Nat:=(fieldAt fs s).toNat
def za2:Fld:=⟨[],ty0,false⟩
def z1x(c:Cls)(h:Chg):Bool:=
 if h.k=1 then decide (c.fs.length<8)&&z2i c.fs h.n []&&(zt c h.x h.t).is
 else if h.k=2 then z1c c.fs h.f
 else if h.k=3 then z1c c.fs h.f&&z2i c.fs h.n []
 else if h.k=4 then z1c c.fs h.f&&(zt c h.x h.t).is
 else if h.k=5 then z1c c.fs h.f&&decide (c.fs.length<8)&& !(h.n==h.m)&&z2i c.fs h.n h.f&&z2i c.fs h.m h.f&&(zt c h.x h.t).is&&(zt c h.o h.t).is
 else z1c c.fs h.f&&decide ((c.fs.getD (atV c.fs h.f) za2).t.k≤3)
def z0r{α:Type}(l:List α)(i:Nat)(xs:List α):List α:=l.take i++xs++l.drop (i+1)
def z18(c:Cls)(h:Chg):List Fld:=
 let i:=atV c.fs h.f
 let f:=c.fs.getD i za2
 if h.k=1 then c.fs++[⟨h.n,h.t,false⟩]
 else if h.k=2 then z0r c.fs i []
 else if h.k=3 then z0r c.fs i [⟨h.n,f.t,f.ix⟩]
 else if h.k=4 then z0r c.fs i [⟨f.n,h.t,false⟩]
 else if h.k=5 then z0r c.fs i [⟨h.n,h.t,false⟩,⟨h.m,h.t,false⟩]
 else z0r c.fs i [⟨f.n,f.t, !f.ix⟩]
def z0Z(c:Cls)(h:Chg)(vals:List V):List V:=
 let i:=atV c.fs h.f
 let a:=(zt c h.x h.t).val c h.t vals
 let b:=(zt c h.o h.t).val c h.t vals
 if h.k=1 then vals++[a]
 else if h.k=2 then z0r vals i []
 else if h.k=4 then z0r vals i [a]
 else if h.k=5 then z0r vals i [a,b]
 else vals
def okV(c:Cls)(h:Chg):Bool:=zd c&&z1Q h&&z1x c h
def z09(c:Cls)(h:Chg):Cls×Int:=if !zd c then(⟨[],[]⟩,40)else if !okV c h then(⟨[],[]⟩,70)else(⟨c.n,z18 c h⟩,0)
def z5o(c:Cls)(h:Chg)(vals:List V):List V×Int:=if(check c vals).2≠0 then([],(check c vals).2)else if !okV c h then([],70)else(z0Z c h vals,0)
end Go.Mor
end

section
namespace Go.Proofs.YthinnldeogflgaaGreatDoor
open Go Go.RowKit Go.Mor Go.Sh
theorem z4n(p q:Bool):zR Tryz.prog (do eqGuard .neq 4 (.const (.bool p)) (.const (.bool q)) (.bool p) (.bool q);binOp .neq 4 (.bool p) (.bool q))=some (.pv (.v (.bool (p !=q))),.no):=by
 cases p<;>cases q<;>kernel_rfl
theorem bNV:((false !=false)=false)∧((false !=true)=true)∧((true !=false)=true)∧((true !=true)=false):=⟨rfl,rfl,rfl,rfl⟩
theorem zmu(a b c d:Int):zj Tryz.prog (Op.equal 27 (.agg #[.int .i64 a,.int .i64 b]) (.agg #[.int .i64 c,.int .i64 d]))=some (z0B ⟨a,b⟩ ⟨c,d⟩):=by
 unfold Op.equal;obtain⟨n,hn⟩:∃n,Op.maxDepth=n+1+1:=⟨_,rfl⟩
 rw[hn,z1F _ _ _ _ (by kernel_rfl) (by kernel_rfl)];obtain⟨f,g,hl,nf,ng,pf,pg,ef,eg⟩:=z8P;rw[hl];simp only[Op.eqFields,nf,ng,ne_eq,not_false_eq_true,if_true,zU,pf,pg,ef,eg,Option.bind_some];unfold z0B;cases h:(a==c)
 ·simp[h,z1q]
 ·cases h2:(b==d)<;>simp[h,h2,z1q,zU,pg,eg,ng]
theorem z6b(a b c d:Int):zR Tryz.prog (do eqGuard .neq 27 (.const (.agg #[.int .i64 a,.int .i64 b])) (.const (.agg #[.int .i64 c,.int .i64 d])) (.agg #[.int .i64 a,.int .i64 b]) (.agg #[.int .i64 c,.int .i64 d]);binOp .neq 27 (.agg #[.int .i64 a,.int .i64 b]) (.agg #[.int .i64 c,.int .i64 d]))=
  some (.pv (.v (.bool (!z0B ⟨a,b⟩ ⟨c,d⟩))),.no):=by
 unfold zR;rw[zU];have hg:zj Tryz.prog (eqGuard .neq 27 (.const (.agg #[.int .i64 a,.int .i64 b])) (.const (.agg #[.int .i64 c,.int .i64 d])) (.agg #[.int .i64 a,.int .i64 b]) (.agg #[.int .i64 c,.int .i64 d]))=some ():=by kernel_rfl
 rw[hg,Option.bind_some];have hb:binOp .neq 27 (.agg #[.int .i64 a,.int .i64 b]) (.agg #[.int .i64 c,.int .i64 d])=(Op.equal 27 (.agg #[.int .i64 a,.int .i64 b]) (.agg #[.int .i64 c,.int .i64 d])>>=fun r=>pure (.bool (!r))):=rfl;rw[hb,zU,zmu];rfl
end Go.Proofs.YthinnldeogflgaaGreatDoor
end

section
namespace Go.Sh.Cd7
open Go Go.Sh
abbrev gQ(a:GA):Prop:=gT Go.Proofs.Tryz.prog a
theorem gK{a:GA}(h:gQ a:=by unfold gQ gT;kernel_rfl):gQ a:=h
theorem tf_111:gQ ⟨25,27,[],[],[[4],[6009],[1000001,10],[4,10],[11013],[4,15016,26],[14,17025],[1000001,5,26],[1000001,5]],[.tmp 4],false⟩:=gK
theorem tf_28:gQ ⟨33,27,[],[],[[1000001,5],[8009],[2003,10011],[3,5,10,12017],[7,18],[2,6,19020],[2,6,19,21026]],[.cell true 2 4,.tmp 5],false⟩:=gK
theorem tf_39:gQ ⟨47,66,[],[],[[0,2],[5010],[4,11035],[1,3,36],[2,36052],[1,3,53],[1,3,53065]],[.tmp 2],false⟩:=gK
theorem tf_29:gQ ⟨54,8,[],[],[[1000001,4],[2003,5007]],[.tmp 4],false⟩:=gK
theorem tf_31:gQ ⟨62,61,[],[],[[1000001,5],[8014],[2003,15016],[5,15,17020],[21033],[34042],[2,43051],[3,6,52056],[7,57060]],[.cell true 3 4,.tmp 5],false⟩:=gK
theorem tf_35:gQ ⟨75,22,[],[],[[3],[0],[6],[4005,7],[5,9],[10],[4,8,11],[8,13],[4,12,14],[12,16],[4,15,17],[4,15,19],[18,20],[18,21]],[.cell true 6 2,.tmp 3],false⟩:=gK
theorem tf_34:gQ ⟨76,12,[],[],[[4],[1,5],[0,6008],[0,6,9011]],[.tmp 4],false⟩:=gK
theorem tf_32:gQ ⟨78,20,[],[],[[4],[8],[1000001,9],[1,4,9010],[0,11],[0,4006,11017],[7,18019]],[.tmp 4],false⟩:=gK
theorem tf_30:gQ ⟨82,33,[],[],[[1000001,6007],[8,12017],[18],[2004,9,19020],[3004,6007,9,19,21026],[11,27],[2,10,28],[2,10,28032]],[.tmp 6,.tmp 7],false⟩:=gK
theorem tf_36:gQ ⟨90,37,[],[],[[0,2,6],[12],[1,3,5,13014],[1,6,8,13,15020],[9,21],[3,5,7,22],[6,22028],[5,10011,29034],[3,7,35],[3,7,35036]],[.tmp 6],false⟩:=gK
theorem tf_37:gQ ⟨113,6,[],[],[[0],[1,4005]],[.cell true 4 3],false⟩:=gK
theorem tf_38:gQ ⟨116,15,[],[],[[],[1000002,6013],[5,14]],[.cell true 4 4],false⟩:=gK
theorem tf_7:gQ ⟨118,26,[(17,1)],[],[[2],[0,3025]],[.tmp 2],false⟩:=gK
theorem tf_0:gQ ⟨119,22,[(8,0),(20,0)],[],[[2],[0,3021]],[.tmp 2],false⟩:=gK
theorem tf_1:gQ ⟨120,15,[(6,0),(12,0),(13,0)],[],[[4],[1000001,5014]],[.tmp 4],false⟩:=gK
theorem tf_8:gQ ⟨121,7,[],[],[[2],[0,3006]],[.tmp 2],false⟩:=gK
theorem tf_2:gQ ⟨122,26,[],[],[[2],[0,3025]],[.tmp 2],false⟩:=gK
theorem tf_3:gQ ⟨123,22,[],[],[[4],[1000001,5021]],[.tmp 4],false⟩:=gK
theorem tf_10:gQ ⟨124,16,[(14,1)],[],[[2],[0,3015]],[.tmp 2],false⟩:=gK
theorem tf_13:gQ ⟨125,23,[],[],[[2],[4009],[0,10021],[3,22]],[.tmp 2],false⟩:=gK
theorem tf_6:gQ ⟨126,7,[],[],[[0,4],[1,5006]],[.tmp 4],false⟩:=gK
theorem tf_12:gQ ⟨127,14,[],[],[[2],[0,3013]],[.tmp 2],false⟩:=gK
theorem tf_16:gQ ⟨128,30,[],[],[[2],[4009],[0,10028],[3,29]],[.tmp 2],false⟩:=gK
theorem tf_17:gQ ⟨129,21,[],[],[[4],[6007],[1000001,8019],[5,20]],[.tmp 4],false⟩:=gK
theorem tf_11:gQ ⟨130,70,[(41,1),(54,1)],[],[[2],[3028],[0,29],[0,29069]],[.tmp 2],false⟩:=gK
theorem tf_14:gQ ⟨131,51,[],[],[[2],[4026],[0,3,27050]],[.tmp 2],false⟩:=gK
theorem tf_15:gQ ⟨132,37,[],[],[[4],[6018],[1000001,5,19036]],[.tmp 4],false⟩:=gK
theorem tf_9:gQ ⟨133,23,[],[],[[2],[0,3022]],[.tmp 2],false⟩:=gK
theorem tf_5:gQ ⟨134,27,[],[],[[2],[4009],[0,10025],[3,26]],[.tmp 2],false⟩:=gK
theorem tf_4:gQ ⟨158,25,[],[],[[6],[0,7,9017],[1002,8,18024]],[.tmp 6],false⟩:=gK
theorem tf_33:gQ ⟨160,22,[(14,0),(18,0)],[],[[2],[],[0],[],[9011],[12015],[5,16019],[20],[3,6008,21]],[.tmp 2],true⟩:=gK
theorem tf_128:gQ ⟨161,36,[(24,0)],[],[[2],[],[],[],[12014],[5,15018],[19],[20021,2009999],[20,22],[3,9011,23024],[0],[],[28030],[8,31033],[34],[6,25027,35]],[.tmp 2],false⟩:=gK
theorem tf_129:gQ ⟨162,36,[(24,0)],[],[[2],[],[],[],[12014],[5,15018],[19],[20021,2009999],[20,22],[3,9011,23024],[0],[],[28030],[8,31033],[34],[6,25027,35]],[.tmp 2],false⟩:=gK
noncomputable def funcs:Nat→Option SFunc
 |_=>none
end Go.Sh.Cd7
end

section
namespace Go.Proofs.YthinnldeogflgaaGreatDoor
open Go Go.RowKit Go.Mor Go.Sh
section
open Go.Sh.Cd1 Go.Sh.Cd7
def ndT(d:Nd):TV:=.agg [B d.f,B d.n,B d.m,B d.t,B d.x,B d.o]
def chT(h:Chg):TV:=.agg [I h.k,S (str h.f),S (str h.n),S (str h.m),I h.t.k,I h.t.o,S (str h.x),S (str h.o)]
structure TxOk(m:Nat)(s:zB):Prop where
 len:s.length<4611686018427387904
 rd:s≠[]→zC (glE m) 102 [S (str s)] [] (zcy (rdV s)) []
 sm:s≠[]→ESmall (rdV s).1
structure ChOk(q:Nat)(h:Chg):Prop where
 f:z25 h.f
 n:z25 h.n
 m:z25 h.m
 x:TxOk q h.x
 o:TxOk q h.o
theorem ziJ(g:Sh.Glob)(k:Int):zC g 75 [I k] [] (.tuple [ndT (z1v k),B (z1v k).ok]) []:=by
 refine z8 tf_35 ?_;have hk:k=1∨k=2∨k=6∨k=3∨k=4∨k=5∨(¬k=1∧¬k=2∧¬k=6∧¬k=3∧¬k=4∧¬k=5):=by omega
 unfold ndT B;rcases hk with rfl|rfl|rfl|rfl|rfl|rfl|⟨h1,h2,h6,h3,h4,h5⟩
 all_goals unfold z1v
 ·simp only[vW,seval]
 ·simp only[vW,seval]
 ·simp only[vW,seval]
 ·simp only[vW,seval]
 ·simp only[vW,seval]
 ·simp only[vW,seval]
 ·simp only[vW,seval,h1,h2,h6,h3,h4,h5]
theorem zfz(s:zB):zd ⟨s,[]⟩=zk s:=by simp[zd,z2N]
theorem z6C(g:Sh.Glob)(s:zB)(b:Bool)(hs:z25 s):zC g 76 [S (str s),B b] [] (B (z2E s b)) []:=by
 have HR:=z06 g ⟨s,[]⟩ ⟨hs,by simp,by simp⟩;rw[zfz]at HR;have HR:=HR.inp (xs:=[.agg [S (str s),zH]]) rfl (fun j c d hc hd=>by
  cases j with
  |zero=>
   simp at hc hd;subst hc;subst hd;exact z7l rfl (fun j p q hp hq=>by
    match j with
    |0=>simp at hp hq;subst hp;subst hq;exact .refl _
    |1=>simp at hp hq;subst hp;subst hq;exact z2g 4
    |j+2=>simp at hp)
  |succ j=>simp at hc)
 have e0:=bS [];refine z8 tf_34 ?_;unfold z2E B zH at*;cases b
 ·simp only[vW,seval,e0]
 ·simp only[vW,seval];exact zf HR
theorem z99(m:Nat)(s:zB)(b:Bool)(hs:TxOk m s):zC (glE m) 78 [S (str s),B b] [] (B (z63 s b)) []:=by
 have e0:=bS [];refine z8 tf_32 ?_;unfold z63 B;by_cases h:s=[]
 ·subst h;simp only[vW,seval,e0]
 ·have hb:(s==[])=false:=by simpa using h
  have HP:=hs.rd h;generalize rdV s=r at*;unfold zcy at HP;cases b
  ·simp only[vW,seval,e0,hb]
  ·by_cases h0:r.2.2=0
   ·rw[if_pos h0]at HP;simp only[vW,seval,e0,hb];refine z7 HP ?_;simp only[vW,seval,h0]
   ·rw[if_neg h0]at HP;unfold zG at HP;simp only[vW,seval,e0,hb];refine z7 HP ?_;simp only[vW,seval,h0]
theorem z6v(m:Nat)(h:Chg)(hh:ChOk m h):zC (glE m) 47 [chT h] [] (B (z1Q h)) []:=by
 have HN:=ziJ (glE m) h.k;have H1:=fun b=>z6C (glE m) h.f b hh.f;have H2:=fun b=>z6C (glE m) h.n b hh.n;have H3:=fun b=>z6C (glE m) h.m b hh.m;have HT:=z6s (glE m) h.t;have H4:=fun b=>z99 m h.x b hh.x;have H5:=fun b=>z99 m h.o b hh.o;have hz:zM ty0=false:=by decide
 refine z8 tf_39 ?_;unfold z1Q;generalize z1v h.k=d at*;obtain⟨df,dn,dm,dt,dx,dO,dk⟩:=d;simp only[]at*;unfold ndT chT tyT B at*;simp only[vW,seval];refine z7 HN ?_;cases dk
 ·simp only[vW,seval]
 simp only[vW,seval];refine z7 (H1 df) ?_;cases z2E h.f df
 ·simp only[vW,seval]
 simp only[vW,seval];refine z7 (H2 dn) ?_;cases z2E h.n dn
 ·simp only[vW,seval]
 simp only[vW,seval];refine z7 (H3 dm) ?_;cases z2E h.m dm
 ·simp only[vW,seval]
 simp only[vW,seval];refine z7 HT ?_;have tyE:(⟨h.t.k,h.t.o⟩:Ty)=h.t:=rfl;cases dt
 ·rw[if_neg (by simp)];by_cases hq:z0B h.t ty0=true
  ·have hr:zM h.t=false:=by
    unfold z0B ty0 at hq;simp only[Bool.and_eq_true,beq_iff_eq]at hq;unfold zM;simp[hq.1,hq.2]
   have hq':z0B h.t ⟨0,0⟩=true:=hq;rw[hr,hq];simp only[vW,seval,z4n,bNV,z6b,tyE,hq'];refine z7 (H4 dx) ?_;cases z63 h.x dx
   ·simp only[vW,seval]
   simp only[vW,seval];exact zf (H5 dO)
  ·have hq:z0B h.t ty0=false:=by simpa using hq
   have hq':z0B h.t ⟨0,0⟩=false:=hq;rw[hq];cases hr:zM h.t
   ·simp only[vW,seval,z4n,bNV,z6b,tyE,hq']
   ·simp only[vW,seval,z4n,bNV,z6b,tyE,hq']
 ·rw[if_pos rfl];cases hr:zM h.t
  ·simp only[vW,seval,z4n,bNV,z6b]
  ·simp only[vW,seval,z4n,bNV,z6b];refine z7 (H4 dx) ?_;cases z63 h.x dx
   ·simp only[vW,seval]
   simp only[vW,seval];exact zf (H5 dO)
end
section
open Go.Sh.Cd1
theorem zl1(g:Sh.Glob)(t:Ty):zC g 114 [tyT t] [] (nv (z3B t)) []:=by
 refine z8 tf_141 ?_;have HR:=z7e g t;unfold B at HR;obtain⟨k,o⟩:=t;generalize hr:zM ⟨k,o⟩=r at HR;have key:z3B ⟨k,o⟩=if !r||k==3||k==4 then V.nil else .mk k 0 [] []:=by rw[←hr];rfl
 rw[key];simp only[vW,seval];refine z7 HR ?_;cases r
 ·simp only[vW,seval];rfl
 ·simp only[vW,seval]
  repeat' (first|(apply And.intro)|(intro _))
  all_goals(first|(simp_all [V.nil,V.k,V.n,V.s,e0];done)|rfl)
end
section
open Go.Sh.Cd1 Go.Sh.Cd7
def tlT(c:Cls)(t:Ty):Tl→PV
 | .no=> .v .nilFunc
 | .zero=> .fn (.func 113) [] [.el [.v (.int .i64 t.k),.v (.int .i64 t.o)]]
 | .ev e=> .fn (.func 116) [] [.el [.v (.int .i64 e.k),.v (.int .i64 e.n),.v (.string (str e.s)),.sl 4 (V.rows e.l)],.el [.v (.string (str c.n)),.sl 4 (flR c.fs)]]
theorem zl0(t:Ty):(z3B t).l=[]:=by unfold z3B;split<;>rfl
theorem zfL(g:Sh.Glob)(t:Ty)(vals:List V):zC g 113 [.pv (.sl 4 (V.rows vals)),.pv (.el [.v (.int .i64 t.k),.v (.int .i64 t.o)])] [] (tv (z3B t)) []:=by
 have HZ:=zl1 g t;refine SCalls.out ?_ (z9n (zl0 t));refine z1b tf_37 ?_;exact zf HZ
theorem zfM(m:Nat)(c:Cls)(e:V)(vals:List V)(hc:ClsOk c)(he:ESmall e)(hf:∀x∈vals,VFew x∧VOk x)(hl:vals.length≤4611686018427387904):
  zC (glE m) 116 [.pv (.sl 4 (V.rows vals)),.pv (.el [.v (.int .i64 e.k),.v (.int .i64 e.n),.v (.string (str e.s)),.sl 4 (V.rows e.l)]),.pv (.el [.v (.string (str c.n)),.sl 4 (flR c.fs)])] [] (tv (z3i c vals e).1) []:=by
 have HE:=zgp m c e vals hc he hf hl;have hn:(z3i c vals e).2≠0→(z3i c vals e).1=V.nil:=by
  unfold z3i;split
  ·intro _;rfl
  ·split
   ·intro _;rfl
   ·intro h;exact absurd rfl h
 unfold zeS at HE;generalize z3i c vals e=r at*;by_cases h:r.2=0
 ·rw[if_pos h]at HE;refine z8 tf_38 ?_;unfold clT at HE;simp only[vW,seval];exact zf HE
 ·rw[if_neg h]at HE;rw[hn h];refine SCalls.out ?_ (z9n (x:=V.nil) rfl);refine z8 tf_38 ?_;unfold clT at HE;simp only[vW,seval];exact zf HE
theorem zds(g:Sh.Glob)(c:Cls)(t:Ty):zC g 90 [clT c,S (str []),tyT t] [] (.pv (tlT c t .zero)) []:=by
 have h:zC g 90 [clT c,S (str []),tyT t] [] (.fn (.func 113) [] (z2v 1000 1)) ([[PV.v (.int .i64 t.k),.v (.int .i64 t.o)]].map fun ps=> .box (ps.map .pv)):=by
  refine zp tf_36 ?_;unfold clT;simp only[vW,seval,zn6];rfl
 exact SCalls.frz (pss:=[_]) h
theorem zhk(m:Nat)(c:Cls)(s:zB)(t:Ty)(hs:TxOk m s)(hc:ClsOk c)(hne:s≠[]):zC (glE m) 90 [clT c,S (str s),tyT t] [] (.pv (tlT c t (zt c s t))) []:=by
 have HP:=hs.rd hne;have HT:=zax m c (rdV s).1 hc (hs.sm hne);have e0:=bS [];have hb:(s==[])=false:=by simpa using hne
 unfold zt;rw[if_neg hne];generalize rdV s=r at*;unfold zcy at HP;unfold zbF at HT;generalize z40 c r.1=q at*;obtain⟨⟨qk,qo⟩,q2⟩:=q;obtain⟨tk,ot⟩:=t;simp only[]at*;by_cases h0:r.2.2=0
 ·rw[if_neg (c:=r.2.2≠0) (by simpa using h0)];rw[if_pos h0]at HP;by_cases h1:q2=0
  ·cases h2:z0B ⟨qk,qo⟩ ⟨tk,ot⟩
   ·rw[if_neg (by simp)];refine z8 tf_36 ?_;unfold clT tlT at*;simp only[vW,seval,e0,hb];refine z7 HP ?_;simp only[vW,seval,h0];refine z7 HT ?_;simp only[vW,seval,h1,z6b,h2]
   ·rw[if_pos ⟨h1,rfl⟩];have h:zC (glE m) 90 [clT c,S (str s),tyT ⟨tk,ot⟩] [] (.fn (.func 116) [] (z2v 1000 2)) ([[PV.v (.int .i64 r.1.k),.v (.int .i64 r.1.n),.v (.string (str r.1.s)),.sl 4 (V.rows r.1.l)],[.v (.string (str c.n)),.sl 4 (flR c.fs)]].map fun ps=> .box (ps.map .pv)):=by
     refine zp tf_36 ?_;unfold clT at*;simp only[vW,seval,e0,hb];refine z7 HP ?_;simp only[vW,seval,h0];refine z7 HT ?_;simp only[vW,seval,h1,z6b,h2];rfl
    exact SCalls.frz (pss:=[_,_]) h
  ·rw[if_neg (fun h=>h1 h.1)];refine z8 tf_36 ?_;unfold clT tlT at*;simp only[vW,seval,e0,hb];refine z7 HP ?_;simp only[vW,seval,h0];refine z7 HT ?_;simp only[vW,seval,h1]
 ·rw[if_pos (c:=r.2.2≠0) h0];rw[if_neg h0]at HP;refine z8 tf_36 ?_;unfold clT tlT zG at*;simp only[vW,seval,e0,hb];refine z7 HP ?_;simp only[vW,seval,h0]
theorem zb0(m:Nat)(c:Cls)(s:zB)(t:Ty)(hs:TxOk m s)(hc:ClsOk c):zC (glE m) 90 [clT c,S (str s),tyT t] [] (.pv (tlT c t (zt c s t))) []:=by
 by_cases h:s=[]
 ·subst h;have:zt c [] t=.zero:=by unfold zt;rw[if_pos rfl]
  rw[this];exact zds (glE m) c t
 ·exact zhk m c s t hs hc h
def fnW(w:List PV)(f:Nat):TV:=.fn (.func f) [.pv (.el w)] []
def kdT(w:List PV)(a b c:Nat):TV:=.agg [fnW w a,fnW w b,fnW w c]
def kdL(w:List PV):List TV:=[kdT w 118 119 120,kdT w 121 122 123,kdT w 124 125 126,kdT w 127 128 129,kdT w 130 131 132,kdT w 133 134 126]
def kdK:List Value:=[.int .i64 1,.int .i64 2,.int .i64 3,.int .i64 4,.int .i64 5,.int .i64 6]
noncomputable def zdV:Array Oper:=match Tryz.prog.funcs[91]? with
 |some fn=>match fn.body with
  |some (.seq _ (.seq (.region _ ops _) _))=>ops
  |_=> #[]
 |none=> #[]
def z7C:List MixO:=[.op ⟨(some 4),none,none,.mov (.tmp 0)⟩,.op ⟨(some 5),none,none,.mkf (.func 118) [(.tmp 4)] []⟩,.op ⟨(some 6),none,none,.mov (.tmp 0)⟩,.op ⟨(some 7),none,none,.mkf (.func 119) [(.tmp 6)] []⟩,.op ⟨(some 8),none,none,.mov (.tmp 0)⟩,.op ⟨(some 9),none,none,.mkf (.func 120) [(.tmp 8)] []⟩,.op ⟨(some 10),none,none,.build [.nilFunc,.nilFunc,.nilFunc] [(0,1,(.tmp 5)),(1,1,(.tmp 7)),(2,1,(.tmp 9))]⟩,.ins ((.int .i64 1)) 10,.op ⟨(some 11),none,none,.mov (.tmp 0)⟩,.op ⟨(some 12),none,none,.mkf (.func 121) [(.tmp 11)] []⟩,.op ⟨(some 13),none,none,.mov (.tmp 0)⟩,.op ⟨(some 14),none,none,.mkf (.func 122) [(.tmp 13)] []⟩,.op ⟨(some 15),none,none,.mov (.tmp 0)⟩,.op ⟨(some 16),none,none,.mkf (.func 123) [(.tmp 15)] []⟩,.op ⟨(some 17),none,none,.build [.nilFunc,.nilFunc,.nilFunc] [(0,1,(.tmp 12)),(1,1,(.tmp 14)),(2,1,(.tmp 16))]⟩,.ins ((.int .i64 2)) 17,.op ⟨(some 18),none,none,.mov (.tmp 0)⟩,.op ⟨(some 19),none,none,.mkf (.func 124) [(.tmp 18)] []⟩,.op ⟨(some 20),none,none,.mov (.tmp 0)⟩,.op ⟨(some 21),none,none,.mkf (.func 125) [(.tmp 20)] []⟩,.op ⟨(some 22),none,none,.mov (.tmp 0)⟩,.op ⟨(some 23),none,none,.mkf (.func 126) [(.tmp 22)] []⟩,.op ⟨(some 24),none,none,.build [.nilFunc,.nilFunc,.nilFunc] [(0,1,(.tmp 19)),(1,1,(.tmp 21)),(2,1,(.tmp 23))]⟩,.ins ((.int .i64 3)) 24,.op ⟨(some 25),none,none,.mov (.tmp 0)⟩,.op ⟨(some 26),none,none,.mkf (.func 127) [(.tmp 25)] []⟩,.op ⟨(some 27),none,none,.mov (.tmp 0)⟩,.op ⟨(some 28),none,none,.mkf (.func 128) [(.tmp 27)] []⟩,.op ⟨(some 29),none,none,.mov (.tmp 0)⟩,.op ⟨(some 30),none,none,.mkf (.func 129) [(.tmp 29)] []⟩,.op ⟨(some 31),none,none,.build [.nilFunc,.nilFunc,.nilFunc] [(0,1,(.tmp 26)),(1,1,(.tmp 28)),(2,1,(.tmp 30))]⟩,.ins ((.int .i64 4)) 31,.op ⟨(some 32),none,none,.mov (.tmp 0)⟩,.op ⟨(some 33),none,none,.mkf (.func 130) [(.tmp 32)] []⟩,.op ⟨(some 34),none,none,.mov (.tmp 0)⟩,.op ⟨(some 35),none,none,.mkf (.func 131) [(.tmp 34)] []⟩,.op ⟨(some 36),none,none,.mov (.tmp 0)⟩,.op ⟨(some 37),none,none,.mkf (.func 132) [(.tmp 36)] []⟩,.op ⟨(some 38),none,none,.build [.nilFunc,.nilFunc,.nilFunc] [(0,1,(.tmp 33)),(1,1,(.tmp 35)),(2,1,(.tmp 37))]⟩,.ins ((.int .i64 5)) 38,.op ⟨(some 39),none,none,.mov (.tmp 0)⟩,.op ⟨(some 40),none,none,.mkf (.func 133) [(.tmp 39)] []⟩,.op ⟨(some 41),none,none,.mov (.tmp 0)⟩,.op ⟨(some 42),none,none,.mkf (.func 134) [(.tmp 41)] []⟩,.op ⟨(some 43),none,none,.mov (.tmp 0)⟩,.op ⟨(some 44),none,none,.mkf (.func 126) [(.tmp 43)] []⟩,.op ⟨(some 45),none,none,.build [.nilFunc,.nilFunc,.nilFunc] [(0,1,(.tmp 40)),(1,1,(.tmp 42)),(2,1,(.tmp 44))]⟩,.ins ((.int .i64 6)) 45,.op ⟨(some 46),none,none,.mov (.tmp 3)⟩,.op ⟨(some 2),none,none,.mov (.tmp 46)⟩]
theorem zf7:zaa Tryz.prog 47 (fun _=>0) zdV 168 3 (List.range' 1 50)=some z7C:=by kernel_rfl
def zf6:SFunc:=⟨0,.skip,[.tmp 2],false⟩
def zjI(w:List PV)(s:ES):Prop:=exitF zf6 0 s=some (.mp kdK (kdL w),[])
theorem zf8(g:Sh.Glob)(w:List PV):z4k Tryz.prog g false 3 (zjI w) z7C ⟨[(0,.pv (.el w)),(3,.mp [] [])],[],[],[]⟩:=by
 unfold z7C;simp only[vW,seval,mwV,SOper.news,SOp.news];repeat(refine⟨by rfl,?_⟩)
 show exitF zf6 0 _=some (.mp kdK (kdL w),[]);rfl
theorem ziB(g:Sh.Glob)(ps:List PV):zC g 91 [.pv (.el ps)] [] (.mp kdK (kdL ps)) []:=by
 refine⟨z1z (by kernel_rfl),fun w E us hG hm hX hl hr=> ?_⟩;obtain⟨u,rfl⟩:∃u,us=[u]:=by
  match us,hl with
  |[u],_=>exact⟨u,rfl⟩
 have hu:=hr 0 _ u rfl rfl;have hS0:=z4d (lp:=true) (N:=47) (xs:=[.pv (.el ps)]) (by show 1≤47;decide) hm hl hr;refine z3X Tryz.func91 rfl ?_;refine wp_seq (wp_region ?_);show wpOps _ _ _ [0] _ _;rw[wpOps_cons];refine z1I rfl rfl (v:=.map none) (w':=w) rfl ?_;show(Code.seq _ _).wp _ _ _ _;refine wp_seq (wp_region ?_);show wpOps _ zdV _ (0::(List.range' 1 50++[])) _ _;rw[wpOps_cons];refine z1I rfl rfl (v:=.map (some w.heap.size)) (w':=w.alloc (.map #[] 0)) rfl ?_;have hnew:(w.alloc (.map #[] 0)).heap[w.heap.size]?=some (.map #[] 0):=heap_alloc_new w _;have hbel:Below w.heap.size w (w.alloc (.map #[] 0)):=(Below.refl w.heap.size w).alloc (Nat.le_refl _) _;have hS1:=hS0.same hbel;refine z6U (B:=Sh.start w E [] 47) (g:=g) (kt:=3) (et:=124) (text:=false) (t:=168) (m:=3) (b:=w.heap.size) (H:=fun _=>0) (K:=zjI ps) (by show 0≤1000;decide) (by show 47≤1000;decide) hG hX (by kernel_rfl) (by kernel_rfl) (by show 3<47;decide) (Nat.le_refl _) ?_ _ z7C zf7 ⟨[(0,.pv (.el ps)),(3,.mp [] [])],[],[],[]⟩ _ _ E (zf8 g ps) ?_ ?_
 ·intro s a w2 E2 hS hk;show Code.ret.wp _ _ a w2;refine wp_ret ?_;have hhrs:seqO (z1s Tryz.prog) Tryz.f91.results.toList=some [.tmp 2]:=by kernel_rfl
  exact z6Q (F:=zf6) (os:=[]) (os':=[]) rfl rfl hhrs rfl hS hk
 ·have hnt:Tryz.f91.ntmps=47:=rfl;show Sim _ _ ((Act.put ⟨#[u]++Array.replicate (Tryz.f91.ntmps - #[u].size) undef,[]⟩ (some 2) (.map none)).put (some 3) (.map (some w.heap.size))) _ _;have h2:=hS1.act (a2:=Act.put ⟨#[u]++Array.replicate (Tryz.f91.ntmps - #[u].size) undef,[]⟩ (some 2) (.map none)) (by rw[hnt];simp[Act.put];rfl) rfl (fun k x hx=>by
   have hx:([TV.pv (.el ps)]:List TV)[k]?=some x:=by rw[←hx];cases k<;>rfl
   cases k with
   |zero=>
    cases hx;have:=(hS1.tmp 0 _ rfl).2;simpa [Act.put,Array.getD]using this
   |succ k=>simp at hx)
  have h3:=h2.setT (k:=3) (by show 3<47;decide) (x:=.mp [] []) (v:=.map (some w.heap.size)) (.mp [] [] w.heap.size #[] 0 (fun _=>undef) hnew rfl rfl (by simp) (by simp));have he:((startE [.pv (.el ps)] []).fs.setT 3 (.mp [] []))=(⟨[(0,.pv (.el ps)),(3,.mp [] [])],[],[],[]⟩:ES).fs:=by
   refine FS.ext' (fun k=> ?_) (fun k=>rfl) (fun k=>rfl) (fun k=>rfl);show z0h (lk [(0,TV.pv (.el ps))]) 3 _ k=lk [(0,_),(3,_)] k;rw[←z0W];rfl
  rw[he]at h3;exact h3
 ·show(Act.put _ (some 3) _).tmps.getD 3 undef=_;simp[Act.put,Array.getD]
def wkP(c:Cls)(h:Chg)(i:Nat)(b:Bool)(x o:PV):List PV:=
 [.v (.string (str c.n)),.sl 4 (flR c.fs),.v (.int .i64 h.k),.v (.string (str h.f)),.v (.string (str h.n)),.v (.string (str h.m)),.v (.int .i64 h.t.k),.v (.int .i64 h.t.o),.v (.string (str h.x)),.v (.string (str h.o)),
  .v (.int .i64 (i:Int)),.v (.bool b),x,o]
def wkC(c:Cls)(h:Chg):List PV:=wkP c h (atV c.fs h.f) (z1c c.fs h.f) (tlT c h.t (zt c h.x h.t)) (tlT c h.t (zt c h.o h.t))
theorem zaz(fs:List Fld)(s:zB):z4G fs s=.tuple [I (atV fs s:Int),B (z1c fs s)]:=by
 unfold z4G atV z1c;by_cases h:fieldAt fs s<0
 ·rw[if_pos h,decide_eq_true h];have:(fieldAt fs s).toNat=0:=by omega
  rw[this];rfl
 ·rw[if_neg h,decide_eq_false h];have:((fieldAt fs s).toNat:Int)=fieldAt fs s:=by omega
  rw[this];rfl
theorem zhD(g:Sh.Glob)(c:Cls)(h:Chg)(i:Nat)(b:Bool)(x o:PV)(s t:zB)(hl:c.fs.length≤4611686018427387904):zC g 158 [.pv (.el (wkP c h i b x o)),S (str s),S (str t)] [] (B (z2i c.fs s t)) []:=by
 have HF:=z4H g c s hl;rw[zaz]at HF;have hv:z2i c.fs s t=(!z1c c.fs s||(s==t)):=by unfold z2i z1c;simp
 rw[hv];generalize z1c c.fs s=q at*;generalize atV c.fs s=j at*;refine z8 tf_4 ?_;unfold clT wkP B at*;cases q
 ·simp only[vW,seval];refine z6 HF ?_;rfl
 ·simp only[vW,seval];exact zf HF
theorem zhl(c:Cls)(t:Ty)(x:Tl):∃p,tlT c t x=p∧z7x true (some (.pv p))=some (.pv (.v (.bool x.is)),.no):=by
 cases x<;>exact⟨_,rfl,rfl⟩
def zcm(k:Int):Nat:=if k=1 then 118 else if k=2 then 121 else if k=3 then 124 else if k=4 then 127 else if k=5 then 130 else 133
def zc6(k:Int):Nat:=if k=1 then 119 else if k=2 then 122 else if k=3 then 125 else if k=4 then 128 else if k=5 then 131 else 134
def zcZ(k:Int):Nat:=if k=1 then 120 else if k=2 then 123 else if k=3 then 126 else if k=4 then 129 else if k=5 then 132 else 126
theorem zlH(g:Sh.Glob)(c:Cls)(h:Chg)(hk:h.k=1∨h.k=2∨h.k=3∨h.k=4∨h.k=5∨h.k=6)(hl:c.fs.length≤4611686018427387904):zC g (zcm h.k) [.pv (.el (wkC c h))] [] (B (z1x c h)) []:=by
 have HF:=fun s t=>zhD g c h (atV c.fs h.f) (z1c c.fs h.f) (tlT c h.t (zt c h.x h.t)) (tlT c h.t (zt c h.o h.t)) s t hl;have e0:=bS [];have hidx:z1c c.fs h.f=true→∃f,c.fs[atV c.fs h.f]?=some f∧c.fs.getD (atV c.fs h.f) za2=f:=by
  intro hh;unfold z1c at hh;have h0:¬fieldAt c.fs h.f<0:=by simpa using hh
  obtain⟨f,hf,_⟩:=z3j (fun f:Fld=>f.n==h.f) c.fs (atV c.fs h.f) (by unfold atV fieldAt at*;omega);exact⟨f,hf,by rw[List.getD_eq_getElem?_getD,hf];rfl⟩
 unfold wkC;obtain⟨px,hpx,nx⟩:=zhl c h.t (zt c h.x h.t);obtain⟨po,hpo,no⟩:=zhl c h.t (zt c h.o h.t);rw[hpx,hpo]at HF ⊢;unfold z1x zcm;generalize(zt c h.x h.t).is=bx at*;generalize(zt c h.o h.t).is=bo at*;generalize atV c.fs h.f=i at*;generalize z1c c.fs h.f=hb at*;clear hpx hpo;obtain⟨k,f,n,m,t,x,o⟩:=h;simp only[]at*;rcases hk with rfl|rfl|rfl|rfl|rfl|rfl
 ·rw[if_pos rfl,if_pos rfl];refine z8 tf_7 ?_;have HF:=HF n [];unfold wkP B at*;by_cases h8:(c.fs.length:Int)<8
  ·have h8':c.fs.length<8:=by omega
   rw[decide_eq_true h8',Bool.true_and];simp only[vW,seval,h8,e0,clV];refine z7 HF ?_;cases z2i c.fs n []
   ·simp only[vW,seval]
   ·simp only[vW,seval,nx]
  ·have h8':¬c.fs.length<8:=by omega
   rw[decide_eq_false h8'];simp only[vW,seval,h8,clV]
 ·rw[if_neg (by decide),if_pos rfl,if_neg (by decide),if_pos rfl];refine z8 tf_8 ?_;unfold wkP B at*;simp only[vW,seval]
 ·rw[if_neg (by decide),if_neg (by decide),if_pos rfl,if_neg (by decide),if_neg (by decide),if_pos rfl];refine z8 tf_10 ?_;have HF:=HF n [];unfold wkP B at*;cases hb
  ·simp only[vW,seval]
  ·simp only[vW,seval,e0];exact zf HF
 ·rw[if_neg (by decide),if_neg (by decide),if_neg (by decide),if_pos rfl,if_neg (by decide),if_neg (by decide),if_neg (by decide),if_pos rfl];refine z8 tf_12 ?_;unfold wkP B at*;cases hb
  ·simp only[vW,seval]
  ·simp only[vW,seval,nx]
 ·rw[if_neg (by decide),if_neg (by decide),if_neg (by decide),if_neg (by decide),if_pos rfl,if_neg (by decide),if_neg (by decide),if_neg (by decide),if_neg (by decide),if_pos rfl];refine z8 tf_11 ?_;have HF1:=HF n f;have HF2:=HF m f;unfold wkP B at*;cases hb
  ·simp only[vW,seval]
  by_cases h8:(8:Int)≤(c.fs.length:Int)
  ·have h8':¬c.fs.length<8:=by omega
   rw[decide_eq_false h8'];simp only[vW,seval,h8,clV]
  ·have h8':c.fs.length<8:=by omega
   rw[decide_eq_true h8'];cases hnm:(n==m)
   ·simp only[vW,seval,h8,hnm,clV];refine z7 HF1 ?_;cases z2i c.fs n f
    ·simp only[vW,seval]
    simp only[vW,seval];refine z7 HF2 ?_;cases z2i c.fs m f
    ·simp only[vW,seval]
    simp only[vW,seval,nx];cases bx
    ·simp only[vW,seval]
    ·simp only[vW,seval,no]
   ·simp only[vW,seval,h8,hnm,clV]
 ·rw[if_neg (by decide),if_neg (by decide),if_neg (by decide),if_neg (by decide),if_neg (by decide),if_neg (by decide),if_neg (by decide),if_neg (by decide),if_neg (by decide),if_neg (by decide)];refine z8 tf_9 ?_;unfold wkP B at*;cases hb
  ·simp only[vW,seval]
  ·obtain⟨fd,ef,eg⟩:=hidx rfl;rw[eg];simp only[vW,seval,ef,clV]
end
section
open Go.Lib
theorem zcg{P:Program}{t:TypeId}{z:Value}{n b:Nat}(h:(P.info? t).map (fun i=>(i.zero,i.size,i.bytes))=some (some z,n,b)):∃i,P.info? t=some i∧i.zero=some z∧i.size=n∧i.bytes=b:=by
 obtain⟨i,h1,h2⟩:=gO h;simp only[Prod.mk.injEq]at h2;exact⟨i,h1,h2.1,h2.2.1,h2.2.2⟩
theorem zly:(Tryz.prog.info? 62).map (fun i=>(i.zero,i.size,i.bytes))=some (some (.agg #[.string ⟨#[]⟩,.int .i64 0,.int .i64 0,.bool false]),4,40):=by kernel_rfl
theorem zmX:(Tryz.prog.info? 78).map (fun i=>(i.zero,i.size,i.bytes))=some (some (.agg #[.int .i64 0,.int .i64 0,.string ⟨#[]⟩,.slice none 0 0]),4,56):=by kernel_rfl
theorem zg7(ad:Addr)(n c:Nat)(news:List Value)(w:World)(hl:news.length=n*4)(hn:n≤maxLen)(hbig:n*40≤140737488355328)(hc:∀j u,news[j]?=some u→w.cell? (ad.add j)=some u)(h1:∀u∈news,u.oneCell'=true):
  Calls Tryz.prog 159 #[.slice (some ad) n c] w fun e w'=>∃v',e=.returned v'∧w'.ownsRow w.heap.size 62 4 v' n news∧Below w.heap.size w w':=by
 have mixed:=za;obtain⟨i0,hi,hz0,hz1,hz2⟩:=zcg zly;have t22:=Tryz.underlying40;have q22:∀(w:World) (a:Option Addr) (n c n' c':Nat),(binOp .eql 40 (.slice a n c) (.slice none n' c')).run Tryz.prog w=.ok (.bool a.isNone) w:=fun w a n c n' c'=>Lib.run_eql_slice_nil w _ _ a n c n' c' t22;have A:Aside (∀j u,news[j]?=some u→w.cell? (ad.add j)=some u):=hc;clear hc
 go_enter Tryz.func159,Tryz.ntmps159
 go_wp2_with (at_builtin;refine wpList_append_own _ rfl _ _ 40 rfl w.heap.size 62 i0 _ 4 40 t22 hi hz0 hz1 hz2 rfl (by decide) _ _ _ rfl (World.ownsRow_made w #[] 0 (Nat.le_refl _) (Nat.zero_le _) (by simp)) ad n c news rfl ?qc1 ?qc2 ?qc3 ?qc4 ?qc5 ?qc6 ?_)
 case qc1=>exact hl
 case qc2=>
  intro j u hj;exact Lib.cell?_alloc_some _ (A.out j u hj)
 case qc3=>exact h1
 case qc4=>rw[Nat.zero_add];exact hn
 case qc5=>rw[Nat.zero_add];exact hbig
 case qc6=>simp
 intro v' w1 hown hgrow hnil
 go_wp2
 go_ret
 refine⟨v',rfl,by simpa using hown,?_⟩;exact((Below.refl _ w).alloc (Nat.le_refl _) _).grown hgrow (by simp) (by intro k hk;simp[Value.ownBlock]at hk;omega)
theorem zg8(n c:Nat)(w:World):Calls Tryz.prog 159 #[.slice none n c] w fun e w'=>e=.returned (.slice none 0 0)∧w'=w:=by
 have mixed:=za;have t22:=Tryz.underlying40;have q22:∀(w:World) (a:Option Addr) (n c n' c':Nat),(binOp .eql 40 (.slice a n c) (.slice none n' c')).run Tryz.prog w=.ok (.bool a.isNone) w:=fun w a n c n' c'=>Lib.run_eql_slice_nil w _ _ a n c n' c' t22
 go_enter Tryz.func159,Tryz.ntmps159
 go_wp2
 go_ret
 exact⟨rfl,rfl⟩
theorem zbV(g:Sh.Glob)(l:List Fld)(hm:l.length≤maxLen)(hbig:l.length*40≤140737488355328):zC g 159 [.pv (.sl 4 (flR l))] [] (.own 1000 4 (flR l)) [.row 62 4 (flR l).length]:=by
 refine zcu (by decide) (z1z (by kernel_rfl)) fun w E us hG hl hr=> ?_;obtain⟨u,rfl⟩:∃u,us=[u]:=by
  match us,hl with
  |[u],_=>exact⟨u,rfl⟩
 have hu:=hr 0 _ u rfl rfl;cases hu with
 |pv hu=>
 obtain⟨news,F,h1,h2,h3,p,cap,rfl,h4⟩:=ze4 (by decide) hu;refine⟨news,F,h1,?_⟩;cases p with
 |none=>
  have he:flR l=[]:=by
   rcases h4 with h4|⟨ad,h4,_⟩
   ·exact h4
   ·cases h4
  have hn0:news=[]:=List.eq_nil_of_length_eq_zero (by rw[h2,he];rfl);refine(zg8 _ _ w).mono ?_;rintro e w' ⟨rfl,rfl⟩;rw[hn0,he];exact⟨_,rfl,World.ownsRow_nil _ _ _ _,.refl _ _⟩
 |some ad=>
  refine zg7 ad _ cap news w h2 (by rw[z2z];exact hm) (by rw[z2z];exact hbig) ?_ h3;rcases h4 with h4|⟨ad',h4,h5⟩
  ·intro j u hj;have hn0:news=[]:=List.eq_nil_of_length_eq_zero (by rw[h2,h4];rfl);rw[hn0]at hj;simp at hj
  ·cases h4;exact h5
theorem zgC(n:Nat)(w:World)(hn:0<n)(hbig:n*40≤140737488355328)(h63:n≤4611686018427387904):
  Calls Tryz.prog 206 #[.slice none 0 0,.int .i64 n] w fun e w'=>∃v',e=.returned v'∧w'.ownsRow w.heap.size 62 4 v' 0 []∧Below w.heap.size w w':=by
 have mixed:=za;obtain⟨i0,hi,hz0,hz1,hz2⟩:=zcg zly;have t22:=Tryz.underlying40;have t3:=Tryz.underlying3;have q1:¬((n:Int)<0):=by omega
 have q2:RowKit.wrap64 ((0:Int) - 0)=0:=by unfold RowKit.wrap64;omega
 have q3:RowKit.wrap64 ((n:Int) - 0)=(n:Int):=by unfold RowKit.wrap64;omega
 have q4:(n:Int)>0:=by omega
 have hrz:∀ty,(Builtin.append_ #[40,3] ty #[.slice none 0 0,.int .i64 (n:Int)]).run Tryz.prog w=
   .ok (.slice (some ⟨w.heap.size,0,none⟩) n (grownCap w n 0 62)) (w.drew.alloc (.cells ((#[]:Array Value)++Builtin.zeroCells (.agg #[.string ⟨#[]⟩,.int .i64 0,.int .i64 0,.bool false]:Value).cells n++Builtin.zeroCells (.agg #[.string ⟨#[]⟩,.int .i64 0,.int .i64 0,.bool false]:Value).cells (grownCap w n 0 62-n)) 62)):=fun ty=>by
  have h:=Lib.run_append_grow_zeros w 40 3 ty 62 i0 _ .i64 .i64 t22 t3 hi hz0 none 0 0 [] (run_firstCells_none w.drew i0.size 0 0 0) n hn (by omega) (by omega) (by omega) (by rw[hz2];omega) (by rw[hz2,Nat.zero_add];exact growslice_fits (by omega) (by omega));rw[Nat.zero_add]at h;exact h
 have hGn:n≤grownCap w n 0 62:=by have:=grownCap_ge w n 0 62;omega
 obtain⟨G,hG⟩:∃G,G=grownCap w n 0 62:=⟨_,rfl⟩
 rw[←hG]at hrz hGn;have hG63:G≤maxLen:=by
  have:=grownCap_le_maxLen w n 0 62 (by unfold maxLen;omega);rw[←hG]at this;exact this
 have hG64:G≤9223372036854775807:=hG63;clear hG
 go_enter Tryz.func206,Tryz.ntmps206
 go_wp2_with (at_builtin;refine Lib.wpList_append_run _ rfl _ _ _ _ rfl _ _ rfl rfl _ _ (hrz _) ?_)
 all_goals(go_ret;refine⟨_,rfl,⟨rfl,.inr ⟨w.heap.size,G,_,rfl,Nat.le_refl _,heap_alloc_new w.drew _,Nat.zero_le _,hG63,?_,by simp⟩⟩,((Below.refl _ w).drew).alloc (by simp) _⟩)
 all_goals(simp[Builtin.zeroCells,Value.cells];omega)
theorem zf1(w:World):Calls Tryz.prog 206 #[.slice none 0 0,.int .i64 0] w fun e w'=>∃v',e=.returned v'∧w'.ownsRow w.heap.size 62 4 v' 0 []∧Below w.heap.size w w':=by
 have mixed:=za;have t22:=Tryz.underlying40;have q1:¬((0:Int)<0):=by omega
 have q2:RowKit.wrap64 ((0:Int) - 0)=0:=by unfold RowKit.wrap64;omega
 have q4:¬(0:Int)>0:=by omega
 go_enter Tryz.func206,Tryz.ntmps206
 go_wp2
 go_ret
 exact⟨_,rfl,World.ownsRow_nil _ _ _ _,.refl _ _⟩
theorem zit(g:Sh.Glob)(n:Nat)(hbig:n*40≤140737488355328)(h63:n≤4611686018427387904):zC g 206 [.pv (.v (.slice none 0 0)),I (n:Int)] [] (.own 1000 4 []) [.row 62 4 0]:=by
 refine zcu (es:=[]) (by decide) (z1z (by kernel_rfl)) fun w E us hG hl hr=> ?_;obtain⟨u,u',rfl⟩:∃u u',us=[u,u']:=by
  match us,hl with
  |[u,u'],_=>exact⟨u,u',rfl⟩
 obtain rfl:=val_rel (hr 0 _ u rfl rfl) rfl;obtain rfl:=zjO (hr 1 _ u' rfl rfl);refine⟨[],fun _ _=>undef,⟨by simp,by simp⟩,?_⟩;by_cases h:n=0
 ·subst h;exact zf1 w
 ·exact zgC n w (by omega) hbig h63
theorem zgD(n:Nat)(w:World)(hn:0<n)(hbig:n*56≤140737488355328)(h63:n≤4611686018427387904):
  Calls Tryz.prog 207 #[.slice none 0 0,.int .i64 n] w fun e w'=>∃v',e=.returned v'∧w'.ownsRow w.heap.size 78 4 v' 0 []∧Below w.heap.size w w':=by
 have mixed:=za;obtain⟨i0,hi,hz0,hz1,hz2⟩:=zcg zmX;have t22:=Tryz.underlying74;have t3:=Tryz.underlying3;have q1:¬((n:Int)<0):=by omega
 have q2:RowKit.wrap64 ((0:Int) - 0)=0:=by unfold RowKit.wrap64;omega
 have q3:RowKit.wrap64 ((n:Int) - 0)=(n:Int):=by unfold RowKit.wrap64;omega
 have q4:(n:Int)>0:=by omega
 have hrz:∀ty,(Builtin.append_ #[74,3] ty #[.slice none 0 0,.int .i64 (n:Int)]).run Tryz.prog w=
   .ok (.slice (some ⟨w.heap.size,0,none⟩) n (grownCap w n 0 78)) (w.drew.alloc (.cells ((#[]:Array Value)++Builtin.zeroCells (.agg #[.int .i64 0,.int .i64 0,.string ⟨#[]⟩,.slice none 0 0]:Value).cells n++Builtin.zeroCells (.agg #[.int .i64 0,.int .i64 0,.string ⟨#[]⟩,.slice none 0 0]:Value).cells (grownCap w n 0 78-n)) 78)):=fun ty=>by
  have h:=Lib.run_append_grow_zeros w 74 3 ty 78 i0 _ .i64 .i64 t22 t3 hi hz0 none 0 0 [] (run_firstCells_none w.drew i0.size 0 0 0) n hn (by omega) (by omega) (by omega) (by rw[hz2];omega) (by rw[hz2,Nat.zero_add];exact growslice_fits (by omega) (by omega));rw[Nat.zero_add]at h;exact h
 have hGn:n≤grownCap w n 0 78:=by have:=grownCap_ge w n 0 78;omega
 obtain⟨G,hG⟩:∃G,G=grownCap w n 0 78:=⟨_,rfl⟩
 rw[←hG]at hrz hGn;have hG63:G≤maxLen:=by
  have:=grownCap_le_maxLen w n 0 78 (by unfold maxLen;omega);rw[←hG]at this;exact this
 have hG64:G≤9223372036854775807:=hG63;clear hG
 go_enter Tryz.func207,Tryz.ntmps207
 go_wp2_with (at_builtin;refine Lib.wpList_append_run _ rfl _ _ _ _ rfl _ _ rfl rfl _ _ (hrz _) ?_)
 all_goals(go_ret;refine⟨_,rfl,⟨rfl,.inr ⟨w.heap.size,G,_,rfl,Nat.le_refl _,heap_alloc_new w.drew _,Nat.zero_le _,hG63,?_,by simp⟩⟩,((Below.refl _ w).drew).alloc (by simp) _⟩)
 all_goals(simp[Builtin.zeroCells,Value.cells];omega)
theorem zf2(w:World):Calls Tryz.prog 207 #[.slice none 0 0,.int .i64 0] w fun e w'=>∃v',e=.returned v'∧w'.ownsRow w.heap.size 78 4 v' 0 []∧Below w.heap.size w w':=by
 have mixed:=za;have t22:=Tryz.underlying74;have q1:¬((0:Int)<0):=by omega
 have q2:RowKit.wrap64 ((0:Int) - 0)=0:=by unfold RowKit.wrap64;omega
 have q4:¬(0:Int)>0:=by omega
 go_enter Tryz.func207,Tryz.ntmps207
 go_wp2
 go_ret
 exact⟨_,rfl,World.ownsRow_nil _ _ _ _,.refl _ _⟩
theorem ziu(g:Sh.Glob)(n:Nat)(hbig:n*56≤140737488355328)(h63:n≤4611686018427387904):zC g 207 [.pv (.v (.slice none 0 0)),I (n:Int)] [] (.own 1000 4 []) [.row 78 4 0]:=by
 refine zcu (es:=[]) (by decide) (z1z (by kernel_rfl)) fun w E us hG hl hr=> ?_;obtain⟨u,u',rfl⟩:∃u u',us=[u,u']:=by
  match us,hl with
  |[u,u'],_=>exact⟨u,u',rfl⟩
 obtain rfl:=val_rel (hr 0 _ u rfl rfl) rfl;obtain rfl:=zjO (hr 1 _ u' rfl rfl);refine⟨[],fun _ _=>undef,⟨by simp,by simp⟩,?_⟩;by_cases h:n=0
 ·subst h;exact zf2 w
 ·exact zgD n w (by omega) hbig h63
end
section
open Go.Sh.Cd1 Go.Sh.Cd7
def slR(ls:List (List (List PV))):List (List PV):=ls.map fun l=>[PV.sl 4 l]
theorem zhh(ls:List (List (List PV)))(i:Nat):(slR ls)[i]?=(ls[i]?).map fun l=>[PV.sl 4 l]:=by unfold slR;rw[List.getElem?_map]
theorem z5O(ls:List (List (List PV))):(slR ls).length=ls.length:=by unfold slR;rw[List.length_map]
theorem slV:(type_of% @zhh)∧(type_of% @z5O):=⟨@zhh,@z5O⟩
def cat(ls:List (List (List PV)))(i:Nat):List (List PV):=(ls.take i).flatten
theorem z5U{ls:List (List (List PV))}{i:Nat}{l:List (List PV)}(h:ls[i]?=some l):cat ls (i+1)=cat ls i++l:=by
 unfold cat;rw[List.take_add_one,h];simp
theorem zg3(ls:List (List (List PV))):∀i,(cat ls i).length≤ls.flatten.length:=by
 intro i;unfold cat
 conv=>rhs;rw[←List.take_append_drop i ls,List.flatten_append,List.length_append]
 omega
theorem zdH(ls:List (List (List PV))):cat ls ls.length=ls.flatten:=by unfold cat;rw[List.take_length]
theorem zeL(g:Sh.Glob)(ls:List (List (List PV)))(hl:ls.length≤1000)(hf:ls.flatten.length≤1000000):zC g 161 [.pv (.sl 1 (slR ls))] [] (.pv (.sl 4 ls.flatten)) []:=by
 have HG:=zit g ls.flatten.length (by omega) (by omega);have hcat:=zg3 ls;have hall:=zdH ls;refine z7S tf_128 ?_;refine zz (σ:={i:Nat // i≤ls.length}) (fun i=>⟨[(0,.pv (.sl 1 (slR ls))),(3,I ((cat ls i.1).length:Int)),(9,.pv (.sl 1 (slR ls))),(10,I (ls.length:Int)),(11,I (i.1:Int))],[],[],[]⟩) (fun i=>ls.length-i.1) ⟨0,Nat.zero_le _⟩ ?_ ?_
 ·apply z1E<;>simp[leL,lk,sv,Nat.beq,I,S,ES.kill,has,drp,zH,z5O,cat]
 rintro⟨i,hi⟩;by_cases hlt:i<ls.length
 ·have d1:(i:Int)<(ls.length:Int):=by omega
  obtain⟨l,el⟩:∃l,ls[i]?=some l:=⟨_,gE hlt⟩
  have hc:=z5U el;have h1:=hcat (i+1);rw[hc,List.length_append]at h1;have w1:=wS i;have w2:IntKind.i64.wrap (((cat ls i).length:Int)+(l.length:Int))=((cat ls i).length:Int)+(l.length:Int):=wrap64 (by omega) (by omega);have d2:¬((cat ls i).length:Int)+(l.length:Int)<0:=by omega
  simp only[vW,seval,slV,d1,d2,el,w1,w2];refine zb ⟨i+1,hlt⟩ (by show ls.length-(i+1)<ls.length-i;omega) ?_;simp only[hc,List.length_append,Int.natCast_add];exact lwA
 have d1:¬(i:Int)<(ls.length:Int):=by omega
 obtain rfl:i=ls.length:=by omega
 rw[hall];simp only[vW,seval,slV,d1];refine z7 HG ?_;simp only[vW,seval,slV];refine zz (σ:={i:Nat // i≤ls.length}) (fun i=>⟨[(6,.own 2096 4 (cat ls i.1)),(25,.pv (.sl 1 (slR ls))),(26,I (ls.length:Int)),(27,I (i.1:Int))],[],[(2096,(62,4,(cat ls i.1).length))],[]⟩) (fun i=>ls.length-i.1) ⟨0,Nat.zero_le _⟩ ?_ ?_
 ·apply z1E<;>simp[leL,lk,sv,Nat.beq,I,S,ES.kill,has,drp,zH,z5O,cat]
 rintro⟨i,hi⟩;by_cases hlt:i<ls.length
 ·have d1:(i:Int)<(ls.length:Int):=by omega
  obtain⟨l,el⟩:∃l,ls[i]?=some l:=⟨_,gE hlt⟩
  have hc:=z5U el;have h1:=hcat (i+1);rw[hc,List.length_append]at h1;have w1:=wS i;simp only[vW,seval,slV,d1,el,w1];refine⟨⟨by omega,by unfold maxLen;omega⟩,zb ⟨i+1,hlt⟩ (by show ls.length-(i+1)<ls.length-i;omega) ?_⟩;simp only[hc,List.length_append];exact lwA
 have d1:¬(i:Int)<(ls.length:Int):=by omega
 obtain rfl:i=ls.length:=by omega
 rw[hall];simp only[vW,seval,slV,d1]
theorem z93(g:Sh.Glob)(ls:List (List (List PV)))(hl:ls.length≤1000)(hf:ls.flatten.length≤1000000):zC g 162 [.pv (.sl 1 (slR ls))] [] (.pv (.sl 4 ls.flatten)) []:=by
 have HG:=ziu g ls.flatten.length (by omega) (by omega);have hcat:=zg3 ls;have hall:=zdH ls;refine z7S tf_129 ?_;refine zz (σ:={i:Nat // i≤ls.length}) (fun i=>⟨[(0,.pv (.sl 1 (slR ls))),(3,I ((cat ls i.1).length:Int)),(9,.pv (.sl 1 (slR ls))),(10,I (ls.length:Int)),(11,I (i.1:Int))],[],[],[]⟩) (fun i=>ls.length-i.1) ⟨0,Nat.zero_le _⟩ ?_ ?_
 ·apply z1E<;>simp[leL,lk,sv,Nat.beq,I,S,ES.kill,has,drp,zH,z5O,cat]
 rintro⟨i,hi⟩;by_cases hlt:i<ls.length
 ·have d1:(i:Int)<(ls.length:Int):=by omega
  obtain⟨l,el⟩:∃l,ls[i]?=some l:=⟨_,gE hlt⟩
  have hc:=z5U el;have h1:=hcat (i+1);rw[hc,List.length_append]at h1;have w1:=wS i;have w2:IntKind.i64.wrap (((cat ls i).length:Int)+(l.length:Int))=((cat ls i).length:Int)+(l.length:Int):=wrap64 (by omega) (by omega);have d2:¬((cat ls i).length:Int)+(l.length:Int)<0:=by omega
  simp only[vW,seval,slV,d1,d2,el,w1,w2];refine zb ⟨i+1,hlt⟩ (by show ls.length-(i+1)<ls.length-i;omega) ?_;simp only[hc,List.length_append,Int.natCast_add];exact lwA
 have d1:¬(i:Int)<(ls.length:Int):=by omega
 obtain rfl:i=ls.length:=by omega
 rw[hall];simp only[vW,seval,slV,d1];refine z7 HG ?_;simp only[vW,seval,slV];refine zz (σ:={i:Nat // i≤ls.length}) (fun i=>⟨[(6,.own 2096 4 (cat ls i.1)),(25,.pv (.sl 1 (slR ls))),(26,I (ls.length:Int)),(27,I (i.1:Int))],[],[(2096,(78,4,(cat ls i.1).length))],[]⟩) (fun i=>ls.length-i.1) ⟨0,Nat.zero_le _⟩ ?_ ?_
 ·apply z1E<;>simp[leL,lk,sv,Nat.beq,I,S,ES.kill,has,drp,zH,z5O,cat]
 rintro⟨i,hi⟩;by_cases hlt:i<ls.length
 ·have d1:(i:Int)<(ls.length:Int):=by omega
  obtain⟨l,el⟩:∃l,ls[i]?=some l:=⟨_,gE hlt⟩
  have hc:=z5U el;have h1:=hcat (i+1);rw[hc,List.length_append]at h1;have w1:=wS i;simp only[vW,seval,slV,d1,el,w1];refine⟨⟨by omega,by unfold maxLen;omega⟩,zb ⟨i+1,hlt⟩ (by show ls.length-(i+1)<ls.length-i;omega) ?_⟩;simp only[hc,List.length_append];exact lwA
 have d1:¬(i:Int)<(ls.length:Int):=by omega
 obtain rfl:i=ls.length:=by omega
 rw[hall];simp only[vW,seval,slV,d1]
end
end Go.Proofs.YthinnldeogflgaaGreatDoor
end
