/- Merged texts: PFits Pk1 Zm0 Cd7 Zm1 Zv3 Zm2 Zm3 Zm4. No statement of the program is proved here. -/
import Derived.Test.YtpmlapgbmgbilaaGreatDoorR22
import Derived.Test.YtpmlapgbmgbilaaGreatDoorR26
set_option linter.unusedSimpArgs false
set_option linter.unusedVariables false
set_option maxRecDepth 100000
set_option maxHeartbeats 8000000
section
namespace Go.Mor
open Go
section
open Go.RowKit
theorem ziF:∀(fs:List Fld) (vs:List V) (k:Nat),(∀(i:Nat) f v,fs[i]?=some f→vs[i]?=some v→zJ v f.t=true)→z2L k fs vs=(0,0):=by
 intro fs
 induction fs with
 |nil=>grind [z2L]
 |cons f r ih=>
  intro vs k h;cases vs with
  |nil=>simp[z2L]
  |cons v q=>
   rw[z2L,if_pos (h 0 f v rfl rfl)];exact ih q (k+1) fun i f v hf hv=>h (i+1) f v (by grind) (by grind)
theorem zne{c:Cls}{vs:List V}(hc:zd c=true)(hl:vs.length=c.fs.length)(h:∀(i:Nat) f v,c.fs[i]?=some f→vs[i]?=some v→zJ v f.t=true):check c vs=(0,0):=by
 simp only[check,hc,Bool.not_true,Bool.false_eq_true,if_false,hl,ne_eq,not_true_eq_false]
 grind [ziF]
theorem z6s(t:Ty)(ht:zi t=true):zJ (z41 t) t=true:=by
 obtain⟨k,o⟩:=t;by_cases h5:k=5
 ·subst h5;simp[z41,ht,zJ,z1r,z1U,V.k,V.n,V.s,V.l]
 ·have hk:(1≤k∧k≤4)∧o=0:=by simp[zi,h5]at ht;omega
  obtain⟨hk,rfl⟩:=hk;have:k=1∨k=2∨k=3∨k=4:=by omega
  rcases this with rfl|rfl|rfl|rfl<;>rfl
def other:zB:=[111,116,104,101,114]
end
structure Chg where
 k:Int
 f:zB
 n:zB
 m:zB
 t:Ty
 x:zB
 o:zB
def rdV(s:zB):V×Int×Int:=(z2P 1000 s).getD (V.nil,0,50)
structure Nd where
 f:Bool
 n:Bool
 m:Bool
 t:Bool
 x:Bool
 o:Bool
 ok:Bool
def z0A(k:Int):Nd:=
 if k=1 then⟨false,true,false,true,true,false,true⟩
 else if k=2∨k=6 then⟨true,false,false,false,false,false,true⟩
 else if k=3 then⟨true,true,false,false,false,false,true⟩
 else if k=4 then⟨true,false,false,true,true,false,true⟩
 else if k=5 then⟨true,true,true,true,true,true,true⟩
 else⟨false,false,false,false,false,false,false⟩
def z1C(s:zB)(b:Bool):Bool:=if b then zb s else s==[]
def z3z(s:zB)(b:Bool):Bool:=if s==[] then true else if b then decide ((rdV s).2.2=0)else false
def z04(h:Chg):Bool:=
 (z0A h.k).ok&&z1C h.f (z0A h.k).f&&z1C h.n (z0A h.k).n&&z1C h.m (z0A h.k).m&&(if(z0A h.k).t then zi h.t else z0g h.t ty0)&&z3z h.x (z0A h.k).x&&z3z h.o (z0A h.k).o
inductive Tl where
 |no
 |zero
 |ev (e:V)
def zz(c:Cls)(s:zB)(t:Ty):Tl:=
 if s=[] then .zero else if(rdV s).2.2≠0 then .no else if(z2H c (rdV s).1).2=0∧z0g (z2H c (rdV s).1).1 t=true then .ev (rdV s).1 else .no
def Tl.is:Tl→Bool
 | .no=>false
 |_=>true
def Tl.val(c:Cls)(t:Ty)(vals:List V):Tl→V
 | .no=>V.nil
 | .zero=>z41 t
 | .ev e=>(z4A c vals e).1
def z0G(fs:List Fld)(s:zB):Bool:= !decide (fieldAt fs s<0)
def z2B(fs:List Fld)(s but:zB):Bool:=decide (fieldAt fs s<0)||s==but
def atV(fs:List Fld)(s:zB):Nat:=(fieldAt fs s).toNat
def z4B:Fld:=⟨[],ty0,false⟩
def z0H(c:Cls)(h:Chg):Bool:=
 if h.k=1 then decide (c.fs.length<8)&&z2B c.fs h.n []&&(zz c h.x h.t).is
 else if h.k=2 then z0G c.fs h.f
 else if h.k=3 then z0G c.fs h.f&&z2B c.fs h.n []
 else if h.k=4 then z0G c.fs h.f&&(zz c h.x h.t).is
 else if h.k=5 then z0G c.fs h.f&&decide (c.fs.length<8)&& !(h.n==h.m)&&z2B c.fs h.n h.f&&z2B c.fs h.m h.f&&(zz c h.x h.t).is&&(zz c h.o h.t).is
 else z0G c.fs h.f&&decide ((c.fs.getD (atV c.fs h.f) z4B).t.k≤3)
def z14{α:Type}(l:List α)(i:Nat)(xs:List α):List α:=l.take i++xs++l.drop (i+1)
def z0s(c:Cls)(h:Chg):List Fld:=
 let i:=atV c.fs h.f
 let f:=c.fs.getD i z4B
 if h.k=1 then c.fs++[⟨h.n,h.t,false⟩]
 else if h.k=2 then z14 c.fs i []
 else if h.k=3 then z14 c.fs i [⟨h.n,f.t,f.ix⟩]
 else if h.k=4 then z14 c.fs i [⟨f.n,h.t,false⟩]
 else if h.k=5 then z14 c.fs i [⟨h.n,h.t,false⟩,⟨h.m,h.t,false⟩]
 else z14 c.fs i [⟨f.n,f.t, !f.ix⟩]
def z1F(c:Cls)(h:Chg)(vals:List V):List V:=
 let i:=atV c.fs h.f
 let a:=(zz c h.x h.t).val c h.t vals
 let b:=(zz c h.o h.t).val c h.t vals
 if h.k=1 then vals++[a]
 else if h.k=2 then z14 vals i []
 else if h.k=4 then z14 vals i [a]
 else if h.k=5 then z14 vals i [a,b]
 else vals
def okV(c:Cls)(h:Chg):Bool:=zd c&&z04 h&&z0H c h
def z0h(c:Cls)(h:Chg):Cls×Int:=if !zd c then(⟨[],[]⟩,40)else if !okV c h then(⟨[],[]⟩,70)else(⟨c.n,z0s c h⟩,0)
def z6M(c:Cls)(h:Chg)(vals:List V):List V×Int:=if(check c vals).2≠0 then([],(check c vals).2)else if !okV c h then([],70)else(z1F c h vals,0)
end Go.Mor
end

section
namespace Go.Proofs.YtpmlapgbmgbilaaGreatDoor
open Go Go.RowKit Go.Mor Go.Sh
theorem zbp(p q:Bool):z05 Tryz.prog (do eqGuard .neq 4 (.const (.bool p)) (.const (.bool q)) (.bool p) (.bool q);binOp .neq 4 (.bool p) (.bool q))=some (.pv (.v (.bool (p !=q))),.no):=by
 cases p<;>cases q<;>kernel_rfl
theorem bNV:((false !=false)=false)∧((false !=true)=true)∧((true !=false)=true)∧((true !=true)=false):=⟨rfl,rfl,rfl,rfl⟩
theorem zsO(a b c d:Int):zq Tryz.prog (Op.equal 27 (.agg #[.int .i64 a,.int .i64 b]) (.agg #[.int .i64 c,.int .i64 d]))=some (z0g ⟨a,b⟩ ⟨c,d⟩):=by
 unfold Op.equal;obtain⟨n,hn⟩:∃n,Op.maxDepth=n+1+1:=⟨_,rfl⟩
 rw[hn,z2q _ _ _ _ (by kernel_rfl) (by kernel_rfl)];obtain⟨f,g,hl,nf,ng,pf,pg,ef,eg⟩:=zbh;rw[hl];simp only[Op.eqFields,nf,ng,ne_eq,not_false_eq_true,if_true,z02,pf,pg,ef,eg,Option.bind_some];unfold z0g;cases h:(a==c)
 ·simp[h,z2a]
 ·cases h2:(b==d)<;>simp[h,h2,z2a,z02,pg,eg,ng]
theorem z7P(a b c d:Int):z05 Tryz.prog (do eqGuard .neq 27 (.const (.agg #[.int .i64 a,.int .i64 b])) (.const (.agg #[.int .i64 c,.int .i64 d])) (.agg #[.int .i64 a,.int .i64 b]) (.agg #[.int .i64 c,.int .i64 d]);binOp .neq 27 (.agg #[.int .i64 a,.int .i64 b]) (.agg #[.int .i64 c,.int .i64 d]))=
  some (.pv (.v (.bool (!z0g ⟨a,b⟩ ⟨c,d⟩))),.no):=by
 unfold z05;rw[z02];have hg:zq Tryz.prog (eqGuard .neq 27 (.const (.agg #[.int .i64 a,.int .i64 b])) (.const (.agg #[.int .i64 c,.int .i64 d])) (.agg #[.int .i64 a,.int .i64 b]) (.agg #[.int .i64 c,.int .i64 d]))=some ():=by kernel_rfl
 rw[hg,Option.bind_some];have hb:binOp .neq 27 (.agg #[.int .i64 a,.int .i64 b]) (.agg #[.int .i64 c,.int .i64 d])=(Op.equal 27 (.agg #[.int .i64 a,.int .i64 b]) (.agg #[.int .i64 c,.int .i64 d])>>=fun r=>pure (.bool (!r))):=rfl;rw[hb,z02,zsO];rfl
end Go.Proofs.YtpmlapgbmgbilaaGreatDoor
end

section
namespace Go.Sh.Cd7
open Go Go.Sh
abbrev gQ(a:GA):Prop:=gT Go.Proofs.Tryz.prog a
theorem gK{a:GA}(h:gQ a:=by unfold gQ gT;kernel_rfl):gQ a:=h
theorem tf_124:gQ ⟨8,110,[],[],[[1000001,5],[9],[10023],[6,24051],[52054],[2,55067],[2,55,68],[70074,104],[76],[7,69,75,77084],[75,86],[7,69,85,87093],[85,95],[7,69,94,96103],[7,69,94,105],[3,8,104,106109]],[.cell true 8 4,.tmp 5],false⟩:=gK
theorem tf_40:gQ ⟨19,50,[],[],[[0,2003],[7008],[1,9],[2003,9012],[13018],[],[22024],[6,25028],[29],[19021,30040],[1,4,41049]],[.tmp 2,.tmp 3],false⟩:=gK
theorem tf_39:gQ ⟨20,38,[(12,1),(13,1),(14,1),(15,1),(17,1),(20,1),(23,1),(25,1)],[(9,[[(0,8),(2,7),(3,4)]])],[[5006],[1000001,9011],[12016],[17019],[20022],[23024],[25026],[27032],[7008,33034],[7008,33,35037]],[.cell true 8 4,.tmp 5,.tmp 6],false⟩:=gK
theorem tf_162:gQ ⟨24,27,[],[],[[4],[6009],[1000001,10],[4,10],[11013],[4,15016,26],[14,17025],[1000001,5,26],[1000001,5]],[.tmp 4],false⟩:=gK
theorem tf_127:gQ ⟨27,13,[],[],[[4],[5],[6009],[1000001,6,10012]],[.tmp 4],false⟩:=gK
abbrev c_125_0:=kV [4,5] [kO 4 1,kO 5 2,oD 6 (.mov (.val (.string ⟨#[]⟩)))] [1,2,6]
abbrev c_125_1:=kV [2068,2069,2070,2071] [oL 14 true 2 5,oM 15 0,oD 16 (.build [(.int .i64 0),(.int .i64 0)] [(0,1,(vI 1))]),kE 17 56 0 14 15 16,oM 13 17,kY 18 13 0,kY 19 13 1,oM 7 18,oM 8 19] [13,14,15,16,17,18,19]
abbrev c_125_2:=kV [2100,2101,2102,2103] [oL 21 true 2 5,oM 22 0,kK 23 .quo 3 22 2,oD 24 (.build [(.int .i64 0),(.int .i64 0)] [(0,1,(vI 2))]),kE 25 56 0 21 23 24,oM 20 25,kY 26 20 0,kY 27 20 1,oM 9 26,oM 10 27] [20,21,22,23,24,25,26,27]
abbrev c_125_3:=kR [oM 28 8,kN 29 28] [8,28]
abbrev c_125_4:=kR [oD 7 (.mov (.val (.string ⟨#[55]⟩)))] [29]
abbrev c_125_5:=kR [oM 30 10,kN 31 30] [10,29,30]
abbrev c_125_6:=kR [oD 9 (.mov (.val (.string ⟨#[34,97,32,98,34]⟩)))] [31]
abbrev c_125_7:=kR [kA 32 0 4,oL 33 false 1 32] [31,32]
abbrev c_125_8:=kR [kK 35 .eql 3 33 1,oM 34 35] [35]
abbrev c_125_9:=kV [2240,2241,2242,2243] [oM 36 7,oM 37 7,oD 38 (.bin .add 9 (.tmp 37) (.val (.string ⟨#[32,42,32,50,32,45,32,49]⟩))),oM 39 9,oD 40 (.bin .add 9 (.val (.string ⟨#[108,101,110,40]⟩)) (.tmp 39)),oD 41 (.bin .add 9 (.tmp 40) (.val (.string ⟨#[41]⟩))),oM 42 7,oD 43 (.bin .add 9 (.val (.string ⟨#[105,102,40]⟩)) (.tmp 42)),oD 44 (.bin .add 9 (.tmp 43) (.val (.string ⟨#[32,62,32,50,44,32]⟩))),oM 45 7,kB 46 .add 9 44 45,oD 47 (.bin .add 9 (.tmp 46) (.val (.string ⟨#[44,32,48,32,45,32]⟩))),oM 48 7,kB 49 .add 9 47 48,oD 50 (.bin .add 9 (.tmp 49) (.val (.string ⟨#[41]⟩))),oM 51 9,oD 52 (.bin .add 9 (.val (.string ⟨#[102,105,110,100,40,34,98,34,44,32]⟩)) (.tmp 51)),oD 53 (.bin .add 9 (.tmp 52) (.val (.string ⟨#[41]⟩))),oM 54 7,oD 55 (.bin .add 9 (.tmp 54) (.val (.string ⟨#[32,47,32]⟩))),oM 56 7,kB 57 .add 9 55 56,oD 58 (.bsl 1 [.val (.string ⟨#[]⟩),.val (.string ⟨#[51]⟩),.tmp 36,.tmp 38,.tmp 41,.tmp 50,.tmp 53,.tmp 57]),oM 59 0,oD 60 (.call 27 0 [.tmp 59,vI 8]),kX 61 1 58 60,oL 62 false 1 61,oM 6 62] [0,4,5,7,9,33,34,36,37,38,39,40,41,42,43,44,45,46,47,48,49,50,51,52,53,54,55,56,57,58,59,60,61,62]
abbrev c_125_10:=kR [kK 64 .eql 3 33 2,oM 63 64] [33,34,64]
abbrev c_125_11:=kV [2348,2349,2350,2351] [oM 65 9,oM 66 9,oD 67 (.bin .add 9 (.tmp 66) (.val (.string ⟨#[32,38,32,34,45,34,32,38,32]⟩))),oM 68 9,kB 69 .add 9 67 68,oM 70 7,oD 71 (.bin .add 9 (.val (.string ⟨#[116,101,120,116,40]⟩)) (.tmp 70)),oD 72 (.bin .add 9 (.tmp 71) (.val (.string ⟨#[41]⟩))),oM 73 9,oD 74 (.bin .add 9 (.val (.string ⟨#[108,101,102,116,40]⟩)) (.tmp 73)),oD 75 (.bin .add 9 (.tmp 74) (.val (.string ⟨#[44,32,50,41]⟩))),oM 76 9,oD 77 (.bin .add 9 (.val (.string ⟨#[102,114,111,109,40]⟩)) (.tmp 76)),oD 78 (.bin .add 9 (.tmp 77) (.val (.string ⟨#[44,32,51,41]⟩))),oM 79 7,oD 80 (.bin .add 9 (.val (.string ⟨#[105,102,40]⟩)) (.tmp 79)),oD 81 (.bin .add 9 (.tmp 80) (.val (.string ⟨#[32,61,32,49,44,32]⟩))),oM 82 9,kB 83 .add 9 81 82,oD 84 (.bin .add 9 (.tmp 83) (.val (.string ⟨#[44,32,34,110,111,34,41]⟩))),oD 85 (.bsl 1 [.val (.string ⟨#[]⟩),.val (.string ⟨#[34,120,34]⟩),.tmp 65,.tmp 69,.tmp 72,.tmp 75,.tmp 78,.tmp 84]),oM 86 0,oD 87 (.call 27 0 [.tmp 86,vI 8]),kX 88 1 85 87,oL 89 false 1 88,oM 6 89] [0,4,5,7,9,63,65,66,67,68,69,70,71,72,73,74,75,76,77,78,79,80,81,82,83,84,85,86,87,88,89]
abbrev c_125_12:=kV [2376,2377,2378,2379] [oL 91 true 2 5,oM 92 0,oL 93 true 2 4,kE 94 56 0 91 92 93,oM 90 94,kY 95 90 0,kY 96 90 1,oM 11 95,oM 12 96] [4,5,6,7,9,63,90,91,92,93,94,95,96]
abbrev c_125_13:=kV [2400,2401,2402,2403] [oM 97 12,oM 98 97,oH 99 98 true 0,oG 100 98 true (.call 27 0 [.tmp 99,vI 3]),kG 101 98 true .gtr 3 100 0,oP 102 98 101 false] [0,12,97,98,99,100,101]
abbrev c_125_14:=kR [oM 103 11,oM 6 103] [11,102,103]
abbrev c_125_15:=kR [oD 6 (.mov (.val (.string ⟨#[]⟩)))] [11,102]
abbrev F_125:SFunc:=⟨104,(.seq c_125_0 (.seq c_125_1 (.seq c_125_2 (.seq (.seq c_125_3 (.cond (.tmp 29) c_125_4 .skip)) (.seq (.seq c_125_5 (.cond (.tmp 31) c_125_6 .skip)) (.seq (.seq c_125_7 (.block 0 (.seq c_125_8 (.cond (.tmp 34) (.seq c_125_9 .ret) (.seq c_125_10 (.cond (.tmp 63) (.seq c_125_11 .ret) .skip)))))) (.seq c_125_12 (.seq (.seq c_125_13 (.cond (.tmp 102) (.seq c_125_14 .ret) .skip)) (.seq c_125_15 .ret))))))))),[.tmp 6],false⟩
theorem tf_125:zW Go.Proofs.Tryz.prog 28 (z3D [(17,0),(25,0),(58,0),(60,0),(85,0),(87,0),(94,0),(100,0)]) (fpT []) (z3E [(0,[1,2,6]),(1,[13,14,15,16,17,18,19]),(2,[20,21,22,23,24,25,26,27]),(3,[8,28]),(4,[29]),(5,[10,29,30]),(6,[31]),(7,[31,32]),(8,[35]),(9,[0,4,5,7,9,33,34,36,37,38,39,40,41,42,43,44,45,46,47,48,49,50,51,52,53,54,55,56,57,58,59,60,61,62]),(10,[33,34,64]),(11,[0,4,5,7,9,63,65,66,67,68,69,70,71,72,73,74,75,76,77,78,79,80,81,82,83,84,85,86,87,88,89]),(12,[4,5,6,7,9,63,90,91,92,93,94,95,96]),(13,[0,12,97,98,99,100,101]),(14,[11,102,103]),(15,[11,102])]) false=some F_125:=by kernel_rfl
theorem tf_161:gQ ⟨29,146,[],[],[[1000001,4],[15021],[2003,22],[4005,22029],[7,30036],[9,37043],[44047],[48053],[54],[57],[2003,6,8,10012,55056,58065],[56,67],[2003,6,8,10012,55,66,68],[66,70],[2003,6,8,10012,55,69,71075],[69,77],[2003,6,8,10012,55,76,78081],[55,76,83],[2003,6,8,10012,82,84127],[3004,8,10012,14,82,128134],[2,6,13,135145]],[.tmp 4],false⟩:=gK
theorem tf_159:gQ ⟨30,52,[(9,0),(14,0),(35,0),(48,0)],[],[[1000001,5],[8009],[2003,10011],[5,10,12014],[2003,15016],[5,15,17019],[],[20023],[25026],[24,27037],[2,7,38039],[3,40050],[3,6,40,51]],[.cell true 2 4,.tmp 5],false⟩:=gK
theorem tf_38:gQ ⟨32,27,[],[],[[1000001,5],[8009],[2003,10011],[3,5,10,12017],[7,18],[2,6,19020],[2,6,19,21026]],[.cell true 2 4,.tmp 5],false⟩:=gK
theorem tf_51:gQ ⟨45,66,[],[],[[0,2],[5010],[4,11035],[1,3,36],[2,36052],[1,3,53],[1,3,53065]],[.tmp 2],false⟩:=gK
theorem tf_52:gQ ⟨46,11,[],[],[[2],[0,4009],[3,10]],[.tmp 2],false⟩:=gK
theorem tf_0:gQ ⟨47,35,[],[],[[2],[6018],[5,19025],[0,3004,26029],[],[0,2,4,26,30033],[3,34]],[.tmp 2],false⟩:=gK
theorem tf_1:gQ ⟨48,35,[],[],[[2],[6018],[5,19025],[0,3004,26029],[],[0,2,4,26,30033],[3,34]],[.tmp 2],false⟩:=gK
theorem tf_41:gQ ⟨53,8,[],[],[[1000001,4],[2003,5007]],[.tmp 4],false⟩:=gK
theorem tf_126:gQ ⟨56,35,[],[],[[0,2,6007],[],[10013],[6007,9,15016,32],[14,17028],[29031],[1,3,5,8009,32034],[1,3,5,8]],[.tmp 6,.tmp 7],false⟩:=gK
theorem tf_141:gQ ⟨57,62,[],[],[[0,2],[6014],[1,15],[2,15],[16019],[4005,21022],[20,23027],[28046],[1,3004,47],[2,47],[48049],[2,51052,61],[50,53060],[1,3005,61],[1,3]],[.tmp 2],false⟩:=gK
theorem tf_160:gQ ⟨58,82,[],[],[[0,2],[3015],[1,16],[2,16024],[1,25],[2,25043],[1,44],[2,44062],[1,63],[1,63081]],[.tmp 2],false⟩:=gK
theorem tf_165:gQ ⟨59,33,[],[],[[1002,6],[12],[0,4005,13],[0,6,8009,13019],[4,7,20025],[5,10011,26032]],[.tmp 6],false⟩:=gK
theorem tf_166:gQ ⟨60,54,[],[],[[1000001,4],[5013],[2003,14016],[4,14,17],[20],[2003,18019],[19,22],[3,18,21,23025],[21,27],[3,18,26,28032],[26,34],[2003,18,33,35045],[3,18,33,47],[46,48051],[2,46,52053]],[.tmp 4],false⟩:=gK
theorem tf_43:gQ ⟨61,61,[],[],[[1000001,5],[8014],[2003,15016],[5,15,17020],[21033],[34042],[2,43051],[3,6,52056],[7,57060]],[.cell true 3 4,.tmp 5],false⟩:=gK
theorem tf_47:gQ ⟨74,22,[],[],[[3],[0],[6],[4005,7],[5,9],[10],[4,8,11],[8,13],[4,12,14],[12,16],[4,15,17],[4,15,19],[18,20],[18,21]],[.cell true 6 2,.tmp 3],false⟩:=gK
theorem tf_46:gQ ⟨75,12,[],[],[[4],[1,5],[0,6008],[0,6,9011]],[.tmp 4],false⟩:=gK
theorem tf_44:gQ ⟨77,20,[],[],[[4],[8],[1000001,9],[1,4,9010],[0,11],[0,4006,11017],[7,18019]],[.tmp 4],false⟩:=gK
theorem tf_42:gQ ⟨81,33,[],[],[[1000001,6007],[8,12017],[18],[2004,9,19020],[3004,6007,9,19,21026],[11,27],[2,10,28],[2,10,28032]],[.tmp 6,.tmp 7],false⟩:=gK
theorem tf_140:gQ ⟨83,56,[],[],[[2],[6012],[0,13],[2,13],[14016],[2,18019,55],[17,20029],[30045],[4005,46054],[0,3,55],[0,3]],[.tmp 2],false⟩:=gK
theorem tf_142:gQ ⟨84,21,[],[],[[0,2],[1,3020]],[.tmp 2],false⟩:=gK
theorem tf_163:gQ ⟨85,58,[],[],[[0],[4006],[7008],[9012],[9,13024],[25028],[25,29040],[41044],[45047],[41,48049],[50053],[1,54056],[1,3,50,57]],[.cell true 8 2],false⟩:=gK
theorem tf_164:gQ ⟨86,18,[],[],[[2],[3004,6011],[0,5,12017]],[.tmp 2],false⟩:=gK
theorem tf_146:gQ ⟨87,85,[(31,0),(44,0),(50,1),(69,1),(81,0)],[(17,[[(4,17),(5,2)]])],[[3004],[10011],[0,12013],[3004,12,14017],[],[18020],[21024],[25027],[25,28033],[34],[0,5008,35037],[3004,6007,35,38047],[8,48],[0,6,49050],[51066],[67069],[67,70073],[5,9,74079],[3005,74,80081],[9,82083],[9,82,84]],[.cell true 4 2,.tmp 3,.tmp 4],false⟩:=gK
theorem tf_154:gQ ⟨88,30,[],[],[[1000001,5],[10011],[6,12],[2003,13014],[5,13,15016],[7,17],[2003,18019],[2003,5,18,20025],[9,26],[8,27028],[8,27,29]],[.cell true 2 4,.tmp 5],false⟩:=gK
theorem tf_48:gQ ⟨89,37,[],[],[[0,2,6],[12],[1,3,5,13014],[1,6,8,13,15020],[9,21],[3,5,7,22],[6,22028],[5,10011,29034],[3,7,35],[3,7,35036]],[.tmp 6],false⟩:=gK
theorem tf_143:gQ ⟨106,9,[],[],[[2],[0,3008]],[.tmp 2],false⟩:=gK
theorem tf_149:gQ ⟨107,154,[],[],[[5],[8009],[10],[11013],[15023],[24034],[35036],[0,6007,37038],[5,37,39040],[1000001,14,41],[6007,42043],[5,14,44046],[7,47048],[1000001,49055],[6007,56057],[5,47,58060],[62070],[71073],[61,74],[1000001,75079],[80082],[6007,83084],[6007,83,85086],[5,7,61,87114],[0,115121],[1,6,122124],[0,5,115,125130],[131148],[1,6,149152],[1,6,149,153]],[.cell true 4 4,.tmp 5],false⟩:=gK
theorem tf_33:gQ ⟨108,84,[(8,1),(80,1)],[(5,[[(1,5),(9,5),(6,1000)]])],[[],[7008],[9054],[55066],[67073],[6,74082],[1000001,5,83]],[.cell true 4 4],false⟩:=gK
theorem tf_34:gQ ⟨109,40,[],[],[[],[3006],[7014],[15023],[0,24038],[0,7,24,39]],[.cell true 4 2],false⟩:=gK
theorem tf_156:gQ ⟨111,100,[],[],[[1000001,5],[11],[14],[2003,12013,15],[13,17],[2003,12,16,18],[16,20],[2,12,19,21027],[7,28],[3,6,29030],[3,6,29,31036],[19,38],[2003,12,37,39044],[8,45047],[12,37,49],[2003,48,50054],[5,48,55060],[3,61066],[2,67],[70],[9010,68069,71077],[69,79],[80],[81],[82],[83],[68,84],[9010,68,78,85092],[9010,68,78,93099]],[.cell true 2 4,.tmp 5],false⟩:=gK
theorem tf_49:gQ ⟨112,6,[],[],[[0],[1,4005]],[.cell true 4 3],false⟩:=gK
theorem tf_50:gQ ⟨115,15,[],[],[[],[1000002,6013],[5,14]],[.cell true 4 4],false⟩:=gK
theorem tf_9:gQ ⟨117,26,[(17,1)],[],[[2],[0,3025]],[.tmp 2],false⟩:=gK
theorem tf_2:gQ ⟨118,22,[(8,0),(20,0)],[],[[2],[0,3021]],[.tmp 2],false⟩:=gK
theorem tf_3:gQ ⟨119,15,[(6,0),(12,0),(13,0)],[],[[4],[1000001,5014]],[.tmp 4],false⟩:=gK
theorem tf_10:gQ ⟨120,7,[],[],[[2],[0,3006]],[.tmp 2],false⟩:=gK
theorem tf_4:gQ ⟨121,26,[],[],[[2],[0,3025]],[.tmp 2],false⟩:=gK
theorem tf_5:gQ ⟨122,22,[],[],[[4],[1000001,5021]],[.tmp 4],false⟩:=gK
theorem tf_12:gQ ⟨123,16,[(14,1)],[],[[2],[0,3015]],[.tmp 2],false⟩:=gK
theorem tf_15:gQ ⟨124,23,[],[],[[2],[4009],[0,10021],[3,22]],[.tmp 2],false⟩:=gK
theorem tf_8:gQ ⟨125,7,[],[],[[0,4],[1,5006]],[.tmp 4],false⟩:=gK
theorem tf_14:gQ ⟨126,14,[],[],[[2],[0,3013]],[.tmp 2],false⟩:=gK
theorem tf_18:gQ ⟨127,30,[],[],[[2],[4009],[0,10028],[3,29]],[.tmp 2],false⟩:=gK
theorem tf_19:gQ ⟨128,21,[],[],[[4],[6007],[1000001,8019],[5,20]],[.tmp 4],false⟩:=gK
theorem tf_13:gQ ⟨129,70,[(41,1),(54,1)],[],[[2],[3028],[0,29],[0,29069]],[.tmp 2],false⟩:=gK
theorem tf_16:gQ ⟨130,51,[],[],[[2],[4026],[0,3,27050]],[.tmp 2],false⟩:=gK
theorem tf_17:gQ ⟨131,37,[],[],[[4],[6018],[1000001,5,19036]],[.tmp 4],false⟩:=gK
theorem tf_11:gQ ⟨132,23,[],[],[[2],[0,3022]],[.tmp 2],false⟩:=gK
theorem tf_7:gQ ⟨133,27,[],[],[[2],[4009],[0,10025],[3,26]],[.tmp 2],false⟩:=gK
theorem tf_148:gQ ⟨146,9,[],[],[[2],[0,3008]],[.tmp 2],false⟩:=gK
theorem tf_152:gQ ⟨147,56,[],[],[[4005],[],[1,8009],[10012],[14015],[13,16018],[0,19022],[6007,23],[6007,23026],[4005,19,27029],[30032],[33047],[0,6007,48],[4005,30,48055],[0,6007]],[.tmp 4,.tmp 5],false⟩:=gK
theorem tf_153:gQ ⟨148,21,[],[],[[2],[0,3020]],[.tmp 2],false⟩:=gK
theorem tf_36:gQ ⟨150,119,[(23,1),(67,1),(84,1),(99,1),(113,1),(115,1),(118,1)],[],[[],[5020],[0,21023],[21,24033],[34040],[0,41048],[3,49055],[41,56057],[58065],[66072],[73080],[0,3,81084],[0,3,73,85087],[58,88089],[3,90097],[0,98101],[3,90,102103],[104111],[112113],[0,114115],[4,116],[0,104,117118]],[.cell true 4 2],false⟩:=gK
theorem tf_157:gQ ⟨152,27,[],[],[[1000001,4],[2003,7012],[6,13023],[5,24],[5,24026]],[.tmp 4],false⟩:=gK
theorem tf_155:gQ ⟨153,106,[],[],[[1000001,5],[12013],[14017],[2003,18019],[5,18,20025],[26031],[2003,32037],[6008,38050],[5,14,51053],[54062],[2003,9,63064],[5,63],[65067],[5,69070,95],[68,71077],[11,78094],[2003,9010,95096],[2003,9010,97],[100],[101],[102],[98,103],[98099,104],[98099,105]],[.cell true 2 4,.tmp 5],false⟩:=gK
theorem tf_6:gQ ⟨157,25,[],[],[[6],[0,7,9017],[1002,8,18024]],[.tmp 6],false⟩:=gK
theorem tf_45:gQ ⟨159,22,[(14,0),(18,0)],[],[[2],[],[0],[],[9011],[12015],[5,16019],[20],[3,6008,21]],[.tmp 2],true⟩:=gK
theorem tf_184:gQ ⟨160,36,[(24,0)],[],[[2],[],[],[],[12014],[5,15018],[19],[20021,2009999],[20,22],[3,9011,23024],[0],[],[28030],[8,31033],[34],[6,25027,35]],[.tmp 2],false⟩:=gK
theorem tf_185:gQ ⟨161,36,[(24,0)],[],[[2],[],[],[],[12014],[5,15018],[19],[20021,2009999],[20,22],[3,9011,23024],[0],[],[28030],[8,31033],[34],[6,25027,35]],[.tmp 2],false⟩:=gK
theorem tf_35:gQ ⟨177,44,[],[],[[4],[1000001,5043]],[.tmp 4],false⟩:=gK
theorem tf_32:gQ ⟨179,36,[(11,0),(25,1),(29,1),(30,0),(34,1)],[(7,[[(1,5),(7,5),(3,1000)]])],[[],[7008],[],[9018],[20021],[19,22],[23025],[23,26032],[1000001,6,33034],[5,35]],[.cell true 4 4],false⟩:=gK
theorem tf_37:gQ ⟨180,22,[(11,1),(14,1)],[],[[4007],[1,8011],[0,12014],[0,12,15021]],[],false⟩:=gK
theorem tf_158:gQ ⟨182,18,[],[],[[2],[0],[5],[6],[3004],[4,8],[9],[10],[3,7],[7,12],[3,11],[11,14],[3,13],[13,16],[3,17],[3,15],[3,15]],[.tmp 2],false⟩:=gK
noncomputable def funcs:Nat→Option SFunc
 |_=>none
end Go.Sh.Cd7
end

section
namespace Go.Proofs.YtpmlapgbmgbilaaGreatDoor
open Go Go.RowKit Go.Mor Go.Sh Go.Sh.Cd1
section
open Go.Sh.Cd7
def ndT(d:Nd):TV:=.agg [B d.f,B d.n,B d.m,B d.t,B d.x,B d.o]
def chT(h:Chg):TV:=.agg [I h.k,S (str h.f),S (str h.n),S (str h.m),I h.t.k,I h.t.o,S (str h.x),S (str h.o)]
structure TxOk(m:Nat)(s:zB):Prop where
 len:s.length<4611686018427387904
 rd:s≠[]→zC (glE m) 101 [S (str s)] [] (zfQ (rdV s)) []
 sm:s≠[]→ESmall (rdV s).1
structure ChOk(q:Nat)(h:Chg):Prop where
 f:z0B h.f
 n:z0B h.n
 m:z0B h.m
 x:TxOk q h.x
 o:TxOk q h.o
theorem zo0(g:Sh.Glob)(k:Int):zC g 74 [I k] [] (.tuple [ndT (z0A k),B (z0A k).ok]) []:=by
 refine za tf_47 ?_;have hk:k=1∨k=2∨k=6∨k=3∨k=4∨k=5∨(¬k=1∧¬k=2∧¬k=6∧¬k=3∧¬k=4∧¬k=5):=by omega
 unfold ndT B;rcases hk with rfl|rfl|rfl|rfl|rfl|rfl|⟨h1,h2,h6,h3,h4,h5⟩
 all_goals unfold z0A
 ·simp only[vW,seval]
 ·simp only[vW,seval]
 ·simp only[vW,seval]
 ·simp only[vW,seval]
 ·simp only[vW,seval]
 ·simp only[vW,seval]
 ·simp only[vW,seval,h1,h2,h6,h3,h4,h5]
theorem zjY(s:zB):zd ⟨s,[]⟩=zb s:=by simp[zd,z36]
theorem z8t(g:Sh.Glob)(s:zB)(b:Bool)(hs:z0B s):zC g 75 [S (str s),B b] [] (B (z1C s b)) []:=by
 have HR:=z0k g ⟨s,[]⟩ ⟨hs,by simp,by simp⟩;rw[zjY]at HR;have HR:=HR.inp (xs:=[.agg [S (str s),zn]]) rfl (fun j c d hc hd=>by
  cases j with
  |zero=>
   simp at hc hd;subst hc;subst hd;exact z6l rfl (fun j p q hp hq=>by
    match j with
    |0=>simp at hp hq;subst hp;subst hq;exact .refl _
    |1=>simp at hp hq;subst hp;subst hq;exact z2u 4
    |j+2=>simp at hp)
  |succ j=>simp at hc)
 have e0:=bS [];refine za tf_46 ?_;unfold z1C B zn at*;cases b
 ·simp only[vW,seval,e0]
 ·simp only[vW,seval];exact zf HR
theorem zbI(m:Nat)(s:zB)(b:Bool)(hs:TxOk m s):zC (glE m) 77 [S (str s),B b] [] (B (z3z s b)) []:=by
 have e0:=bS [];refine za tf_44 ?_;unfold z3z B;by_cases h:s=[]
 ·subst h;simp only[vW,seval,e0]
 ·have hb:(s==[])=false:=by simpa using h
  have HP:=hs.rd h;generalize rdV s=r at*;unfold zfQ at HP;cases b
  ·simp only[vW,seval,e0,hb]
  ·by_cases h0:r.2.2=0
   ·rw[if_pos h0]at HP;simp only[vW,seval,e0,hb];refine z7 HP ?_;simp only[vW,seval,h0]
   ·rw[if_neg h0]at HP;unfold zH at HP;simp only[vW,seval,e0,hb];refine z7 HP ?_;simp only[vW,seval,h0]
theorem z40(m:Nat)(h:Chg)(hh:ChOk m h):zC (glE m) 45 [chT h] [] (B (z04 h)) []:=by
 have HN:=zo0 (glE m) h.k;have H1:=fun b=>z8t (glE m) h.f b hh.f;have H2:=fun b=>z8t (glE m) h.n b hh.n;have H3:=fun b=>z8t (glE m) h.m b hh.m;have HT:=z8k (glE m) h.t;have H4:=fun b=>zbI m h.x b hh.x;have H5:=fun b=>zbI m h.o b hh.o;have hz:zi ty0=false:=by decide
 refine za tf_51 ?_;unfold z04;generalize z0A h.k=d at*;obtain⟨df,dn,dm,dt,dx,dO,dk⟩:=d;simp only[]at*;unfold ndT chT tyT B at*;simp only[vW,seval];refine z7 HN ?_;cases dk
 ·simp only[vW,seval]
 simp only[vW,seval];refine z7 (H1 df) ?_;cases z1C h.f df
 ·simp only[vW,seval]
 simp only[vW,seval];refine z7 (H2 dn) ?_;cases z1C h.n dn
 ·simp only[vW,seval]
 simp only[vW,seval];refine z7 (H3 dm) ?_;cases z1C h.m dm
 ·simp only[vW,seval]
 simp only[vW,seval];refine z7 HT ?_;have tyE:(⟨h.t.k,h.t.o⟩:Ty)=h.t:=rfl;cases dt
 ·rw[if_neg (by simp)];by_cases hq:z0g h.t ty0=true
  ·have hr:zi h.t=false:=by
    unfold z0g ty0 at hq;simp only[Bool.and_eq_true,beq_iff_eq]at hq;unfold zi;simp[hq.1,hq.2]
   have hq':z0g h.t ⟨0,0⟩=true:=hq;rw[hr,hq];simp only[vW,seval,zbp,bNV,z7P,tyE,hq'];refine z7 (H4 dx) ?_;cases z3z h.x dx
   ·simp only[vW,seval]
   simp only[vW,seval];exact zf (H5 dO)
  ·have hq:z0g h.t ty0=false:=by simpa using hq
   have hq':z0g h.t ⟨0,0⟩=false:=hq;rw[hq];cases hr:zi h.t
   ·simp only[vW,seval,zbp,bNV,z7P,tyE,hq']
   ·simp only[vW,seval,zbp,bNV,z7P,tyE,hq']
 ·rw[if_pos rfl];cases hr:zi h.t
  ·simp only[vW,seval,zbp,bNV,z7P]
  ·simp only[vW,seval,zbp,bNV,z7P];refine z7 (H4 dx) ?_;cases z3z h.x dx
   ·simp only[vW,seval]
   simp only[vW,seval];exact zf (H5 dO)
end
theorem zqV(g:Sh.Glob)(t:Ty):zC g 113 [tyT t] [] (nv (z41 t)) []:=by
 refine za tf_197 ?_;have HR:=z9e g t;unfold B at HR;obtain⟨k,o⟩:=t;generalize hr:zi ⟨k,o⟩=r at HR;have key:z41 ⟨k,o⟩=if !r||k==3||k==4 then V.nil else .mk k 0 [] []:=by rw[←hr];rfl
 rw[key];simp only[vW,seval];refine z7 HR ?_;cases r
 ·simp only[vW,seval];rfl
 ·simp only[vW,seval]
  repeat' (first|(apply And.intro)|(intro _))
  all_goals(first|(simp_all [V.nil,V.k,V.n,V.s,e0];done)|rfl)
section
open Go.Sh.Cd7
def tlT(c:Cls)(t:Ty):Tl→PV
 | .no=> .v .nilFunc
 | .zero=> .fn (.func 112) [] [.el [.v (.int .i64 t.k),.v (.int .i64 t.o)]]
 | .ev e=> .fn (.func 115) [] [.el [.v (.int .i64 e.k),.v (.int .i64 e.n),.v (.string (str e.s)),.sl 4 (V.rows e.l)],.el [.v (.string (str c.n)),.sl 4 (flR c.fs)]]
theorem zqU(t:Ty):(z41 t).l=[]:=by unfold z41;split<;>rfl
theorem zkb(g:Sh.Glob)(t:Ty)(vals:List V):zC g 112 [.pv (.sl 4 (V.rows vals)),.pv (.el [.v (.int .i64 t.k),.v (.int .i64 t.o)])] [] (tv (z41 t)) []:=by
 have HZ:=zqV g t;refine SCalls.out ?_ (z4L (zqU t));refine z0u tf_49 ?_;exact zf HZ
theorem zkc(m:Nat)(c:Cls)(e:V)(vals:List V)(hc:ClsOk c)(he:ESmall e)(hf:∀x∈vals,VFew x∧VOk x)(hl:vals.length≤4611686018427387904):
  zC (glE m) 115 [.pv (.sl 4 (V.rows vals)),.pv (.el [.v (.int .i64 e.k),.v (.int .i64 e.n),.v (.string (str e.s)),.sl 4 (V.rows e.l)]),.pv (.el [.v (.string (str c.n)),.sl 4 (flR c.fs)])] [] (tv (z4A c vals e).1) []:=by
 have HE:=zkZ m c e vals hc he hf hl;have hn:(z4A c vals e).2≠0→(z4A c vals e).1=V.nil:=by
  unfold z4A;split
  ·intro _;rfl
  ·split
   ·intro _;rfl
   ·intro h;exact absurd rfl h
 unfold ziW at HE;generalize z4A c vals e=r at*;by_cases h:r.2=0
 ·rw[if_pos h]at HE;refine za tf_50 ?_;unfold clT at HE;simp only[vW,seval];exact zf HE
 ·rw[if_neg h]at HE;rw[hn h];refine SCalls.out ?_ (z4L (x:=V.nil) rfl);refine za tf_50 ?_;unfold clT at HE;simp only[vW,seval];exact zf HE
theorem zhg(g:Sh.Glob)(c:Cls)(t:Ty):zC g 89 [clT c,S (str []),tyT t] [] (.pv (tlT c t .zero)) []:=by
 have h:zC g 89 [clT c,S (str []),tyT t] [] (.fn (.func 112) [] (z3o 1000 1)) ([[PV.v (.int .i64 t.k),.v (.int .i64 t.o)]].map fun ps=> .box (ps.map .pv)):=by
  refine zj tf_48 ?_;unfold clT;simp only[vW,seval,ztw];rfl
 exact SCalls.frz (pss:=[_]) h
theorem zmq(m:Nat)(c:Cls)(s:zB)(t:Ty)(hs:TxOk m s)(hc:ClsOk c)(hne:s≠[]):zC (glE m) 89 [clT c,S (str s),tyT t] [] (.pv (tlT c t (zz c s t))) []:=by
 have HP:=hs.rd hne;have HT:=zdk m c (rdV s).1 hc (hs.sm hne);have e0:=bS [];have hb:(s==[])=false:=by simpa using hne
 unfold zz;rw[if_neg hne];generalize rdV s=r at*;unfold zfQ at HP;unfold zeA at HT;generalize z2H c r.1=q at*;obtain⟨⟨qk,qo⟩,q2⟩:=q;obtain⟨tk,ot⟩:=t;simp only[]at*;by_cases h0:r.2.2=0
 ·rw[if_neg (c:=r.2.2≠0) (by simpa using h0)];rw[if_pos h0]at HP;by_cases h1:q2=0
  ·cases h2:z0g ⟨qk,qo⟩ ⟨tk,ot⟩
   ·rw[if_neg (by simp)];refine za tf_48 ?_;unfold clT tlT at*;simp only[vW,seval,e0,hb];refine z7 HP ?_;simp only[vW,seval,h0];refine z7 HT ?_;simp only[vW,seval,h1,z7P,h2]
   ·rw[if_pos ⟨h1,rfl⟩];have h:zC (glE m) 89 [clT c,S (str s),tyT ⟨tk,ot⟩] [] (.fn (.func 115) [] (z3o 1000 2)) ([[PV.v (.int .i64 r.1.k),.v (.int .i64 r.1.n),.v (.string (str r.1.s)),.sl 4 (V.rows r.1.l)],[.v (.string (str c.n)),.sl 4 (flR c.fs)]].map fun ps=> .box (ps.map .pv)):=by
     refine zj tf_48 ?_;unfold clT at*;simp only[vW,seval,e0,hb];refine z7 HP ?_;simp only[vW,seval,h0];refine z7 HT ?_;simp only[vW,seval,h1,z7P,h2];rfl
    exact SCalls.frz (pss:=[_,_]) h
  ·rw[if_neg (fun h=>h1 h.1)];refine za tf_48 ?_;unfold clT tlT at*;simp only[vW,seval,e0,hb];refine z7 HP ?_;simp only[vW,seval,h0];refine z7 HT ?_;simp only[vW,seval,h1]
 ·rw[if_pos (c:=r.2.2≠0) h0];rw[if_neg h0]at HP;refine za tf_48 ?_;unfold clT tlT zH at*;simp only[vW,seval,e0,hb];refine z7 HP ?_;simp only[vW,seval,h0]
theorem zdQ(m:Nat)(c:Cls)(s:zB)(t:Ty)(hs:TxOk m s)(hc:ClsOk c):zC (glE m) 89 [clT c,S (str s),tyT t] [] (.pv (tlT c t (zz c s t))) []:=by
 by_cases h:s=[]
 ·subst h;have:zz c [] t=.zero:=by unfold zz;rw[if_pos rfl]
  rw[this];exact zhg (glE m) c t
 ·exact zmq m c s t hs hc h
def fnW(w:List PV)(f:Nat):TV:=.fn (.func f) [.pv (.el w)] []
def kdT(w:List PV)(a b c:Nat):TV:=.agg [fnW w a,fnW w b,fnW w c]
def kdL(w:List PV):List TV:=[kdT w 117 118 119,kdT w 120 121 122,kdT w 123 124 125,kdT w 126 127 128,kdT w 129 130 131,kdT w 132 133 125]
def kdK:List Value:=[.int .i64 1,.int .i64 2,.int .i64 3,.int .i64 4,.int .i64 5,.int .i64 6]
noncomputable def zhN:Array Oper:=match Tryz.prog.funcs[90]? with
 |some fn=>match fn.body with
  |some (.seq _ (.seq (.region _ ops _) _))=>ops
  |_=> #[]
 |none=> #[]
def z9G:List MixO:=[.op ⟨(some 4),none,none,.mov (.tmp 0)⟩,.op ⟨(some 5),none,none,.mkf (.func 117) [(.tmp 4)] []⟩,.op ⟨(some 6),none,none,.mov (.tmp 0)⟩,.op ⟨(some 7),none,none,.mkf (.func 118) [(.tmp 6)] []⟩,.op ⟨(some 8),none,none,.mov (.tmp 0)⟩,.op ⟨(some 9),none,none,.mkf (.func 119) [(.tmp 8)] []⟩,.op ⟨(some 10),none,none,.build [.nilFunc,.nilFunc,.nilFunc] [(0,1,(.tmp 5)),(1,1,(.tmp 7)),(2,1,(.tmp 9))]⟩,.ins ((.int .i64 1)) 10,.op ⟨(some 11),none,none,.mov (.tmp 0)⟩,.op ⟨(some 12),none,none,.mkf (.func 120) [(.tmp 11)] []⟩,.op ⟨(some 13),none,none,.mov (.tmp 0)⟩,.op ⟨(some 14),none,none,.mkf (.func 121) [(.tmp 13)] []⟩,.op ⟨(some 15),none,none,.mov (.tmp 0)⟩,.op ⟨(some 16),none,none,.mkf (.func 122) [(.tmp 15)] []⟩,.op ⟨(some 17),none,none,.build [.nilFunc,.nilFunc,.nilFunc] [(0,1,(.tmp 12)),(1,1,(.tmp 14)),(2,1,(.tmp 16))]⟩,.ins ((.int .i64 2)) 17,.op ⟨(some 18),none,none,.mov (.tmp 0)⟩,.op ⟨(some 19),none,none,.mkf (.func 123) [(.tmp 18)] []⟩,.op ⟨(some 20),none,none,.mov (.tmp 0)⟩,.op ⟨(some 21),none,none,.mkf (.func 124) [(.tmp 20)] []⟩,.op ⟨(some 22),none,none,.mov (.tmp 0)⟩,.op ⟨(some 23),none,none,.mkf (.func 125) [(.tmp 22)] []⟩,.op ⟨(some 24),none,none,.build [.nilFunc,.nilFunc,.nilFunc] [(0,1,(.tmp 19)),(1,1,(.tmp 21)),(2,1,(.tmp 23))]⟩,.ins ((.int .i64 3)) 24,.op ⟨(some 25),none,none,.mov (.tmp 0)⟩,.op ⟨(some 26),none,none,.mkf (.func 126) [(.tmp 25)] []⟩,.op ⟨(some 27),none,none,.mov (.tmp 0)⟩,.op ⟨(some 28),none,none,.mkf (.func 127) [(.tmp 27)] []⟩,.op ⟨(some 29),none,none,.mov (.tmp 0)⟩,.op ⟨(some 30),none,none,.mkf (.func 128) [(.tmp 29)] []⟩,.op ⟨(some 31),none,none,.build [.nilFunc,.nilFunc,.nilFunc] [(0,1,(.tmp 26)),(1,1,(.tmp 28)),(2,1,(.tmp 30))]⟩,.ins ((.int .i64 4)) 31,.op ⟨(some 32),none,none,.mov (.tmp 0)⟩,.op ⟨(some 33),none,none,.mkf (.func 129) [(.tmp 32)] []⟩,.op ⟨(some 34),none,none,.mov (.tmp 0)⟩,.op ⟨(some 35),none,none,.mkf (.func 130) [(.tmp 34)] []⟩,.op ⟨(some 36),none,none,.mov (.tmp 0)⟩,.op ⟨(some 37),none,none,.mkf (.func 131) [(.tmp 36)] []⟩,.op ⟨(some 38),none,none,.build [.nilFunc,.nilFunc,.nilFunc] [(0,1,(.tmp 33)),(1,1,(.tmp 35)),(2,1,(.tmp 37))]⟩,.ins ((.int .i64 5)) 38,.op ⟨(some 39),none,none,.mov (.tmp 0)⟩,.op ⟨(some 40),none,none,.mkf (.func 132) [(.tmp 39)] []⟩,.op ⟨(some 41),none,none,.mov (.tmp 0)⟩,.op ⟨(some 42),none,none,.mkf (.func 133) [(.tmp 41)] []⟩,.op ⟨(some 43),none,none,.mov (.tmp 0)⟩,.op ⟨(some 44),none,none,.mkf (.func 125) [(.tmp 43)] []⟩,.op ⟨(some 45),none,none,.build [.nilFunc,.nilFunc,.nilFunc] [(0,1,(.tmp 40)),(1,1,(.tmp 42)),(2,1,(.tmp 44))]⟩,.ins ((.int .i64 6)) 45,.op ⟨(some 46),none,none,.mov (.tmp 3)⟩,.op ⟨(some 2),none,none,.mov (.tmp 46)⟩]
theorem zjd:zcP Tryz.prog 47 (fun _=>0) zhN 167 3 (List.range' 1 50)=some z9G:=by kernel_rfl
def zjc:SFunc:=⟨0,.skip,[.tmp 2],false⟩
def zpk(w:List PV)(s:ES):Prop:=exitF zjc 0 s=some (.mp kdK (kdL w),[])
theorem zje(g:Sh.Glob)(w:List PV):z5C Tryz.prog g false 3 (zpk w) z9G ⟨[(0,.pv (.el w)),(3,.mp [] [])],[],[],[]⟩:=by
 unfold z9G;simp only[vW,seval,mwV,SOper.news,SOp.news];repeat(refine⟨by rfl,?_⟩)
 show exitF zjc 0 _=some (.mp kdK (kdL w),[]);rfl
theorem znS(g:Sh.Glob)(ps:List PV):zC g 90 [.pv (.el ps)] [] (.mp kdK (kdL ps)) []:=by
 refine⟨z1k (by kernel_rfl),fun w E us hG hm hX hl hr=> ?_⟩;obtain⟨u,rfl⟩:∃u,us=[u]:=by
  match us,hl with
  |[u],_=>exact⟨u,rfl⟩
 have hu:=hr 0 _ u rfl rfl;have hS0:=z5u (lp:=true) (N:=47) (xs:=[.pv (.el ps)]) (by show 1≤47;decide) hm hl hr;refine z5c Tryz.func90 rfl ?_;refine wp_seq (wp_region ?_);show wpOps _ _ _ [0] _ _;rw[wpOps_cons];refine z2v rfl rfl (v:=.map none) (w':=w) rfl ?_;show(Code.seq _ _).wp _ _ _ _;refine wp_seq (wp_region ?_);show wpOps _ zhN _ (0::(List.range' 1 50++[])) _ _;rw[wpOps_cons];refine z2v rfl rfl (v:=.map (some w.heap.size)) (w':=w.alloc (.map #[] 0)) rfl ?_;have hnew:(w.alloc (.map #[] 0)).heap[w.heap.size]?=some (.map #[] 0):=heap_alloc_new w _;have hbel:Below w.heap.size w (w.alloc (.map #[] 0)):=(Below.refl w.heap.size w).alloc (Nat.le_refl _) _;have hS1:=hS0.same hbel;refine z8O (B:=Sh.start w E [] 47) (g:=g) (kt:=3) (et:=123) (text:=false) (t:=167) (m:=3) (b:=w.heap.size) (H:=fun _=>0) (K:=zpk ps) (by show 0≤1000;decide) (by show 47≤1000;decide) hG hX (by kernel_rfl) (by kernel_rfl) (by show 3<47;decide) (Nat.le_refl _) ?_ _ z9G zjd ⟨[(0,.pv (.el ps)),(3,.mp [] [])],[],[],[]⟩ _ _ E (zje g ps) ?_ ?_
 ·intro s a w2 E2 hS hk;show Code.ret.wp _ _ a w2;refine wp_ret ?_;have hhrs:seqO (z2c Tryz.prog) Tryz.f90.results.toList=some [.tmp 2]:=by kernel_rfl
  exact z8L (F:=zjc) (os:=[]) (os':=[]) rfl rfl hhrs rfl hS hk
 ·have hnt:Tryz.f90.ntmps=47:=rfl;show Sim _ _ ((Act.put ⟨#[u]++Array.replicate (Tryz.f90.ntmps - #[u].size) undef,[]⟩ (some 2) (.map none)).put (some 3) (.map (some w.heap.size))) _ _;have h2:=hS1.act (a2:=Act.put ⟨#[u]++Array.replicate (Tryz.f90.ntmps - #[u].size) undef,[]⟩ (some 2) (.map none)) (by rw[hnt];simp[Act.put];rfl) rfl (fun k x hx=>by
   have hx:([TV.pv (.el ps)]:List TV)[k]?=some x:=by rw[←hx];cases k<;>rfl
   cases k with
   |zero=>
    cases hx;have:=(hS1.tmp 0 _ rfl).2;simpa [Act.put,Array.getD]using this
   |succ k=>simp at hx)
  have h3:=h2.setT (k:=3) (by show 3<47;decide) (x:=.mp [] []) (v:=.map (some w.heap.size)) (.mp [] [] w.heap.size #[] 0 (fun _=>undef) hnew rfl rfl (by simp) (by simp));have he:((startE [.pv (.el ps)] []).fs.setT 3 (.mp [] []))=(⟨[(0,.pv (.el ps)),(3,.mp [] [])],[],[],[]⟩:ES).fs:=by
   refine FS.ext' (fun k=> ?_) (fun k=>rfl) (fun k=>rfl) (fun k=>rfl);show z0I (lk [(0,TV.pv (.el ps))]) 3 _ k=lk [(0,_),(3,_)] k;rw[←z1z];rfl
  rw[he]at h3;exact h3
 ·show(Act.put _ (some 3) _).tmps.getD 3 undef=_;simp[Act.put,Array.getD]
def wkP(c:Cls)(h:Chg)(i:Nat)(b:Bool)(x o:PV):List PV:=
 [.v (.string (str c.n)),.sl 4 (flR c.fs),.v (.int .i64 h.k),.v (.string (str h.f)),.v (.string (str h.n)),.v (.string (str h.m)),.v (.int .i64 h.t.k),.v (.int .i64 h.t.o),.v (.string (str h.x)),.v (.string (str h.o)),
  .v (.int .i64 (i:Int)),.v (.bool b),x,o]
def wkC(c:Cls)(h:Chg):List PV:=wkP c h (atV c.fs h.f) (z0G c.fs h.f) (tlT c h.t (zz c h.x h.t)) (tlT c h.t (zz c h.o h.t))
theorem zdn(fs:List Fld)(s:zB):z29 fs s=.tuple [I (atV fs s:Int),B (z0G fs s)]:=by
 unfold z29 atV z0G;by_cases h:fieldAt fs s<0
 ·rw[if_pos h,decide_eq_true h];have:(fieldAt fs s).toNat=0:=by omega
  rw[this];rfl
 ·rw[if_neg h,decide_eq_false h];have:((fieldAt fs s).toNat:Int)=fieldAt fs s:=by omega
  rw[this];rfl
theorem zmK(g:Sh.Glob)(c:Cls)(h:Chg)(i:Nat)(b:Bool)(x o:PV)(s t:zB)(hl:c.fs.length≤4611686018427387904):zC g 157 [.pv (.el (wkP c h i b x o)),S (str s),S (str t)] [] (B (z2B c.fs s t)) []:=by
 have HF:=z65 g c s hl;rw[zdn]at HF;have hv:z2B c.fs s t=(!z0G c.fs s||(s==t)):=by unfold z2B z0G;simp
 rw[hv];generalize z0G c.fs s=q at*;generalize atV c.fs s=j at*;refine za tf_6 ?_;unfold clT wkP B at*;cases q
 ·simp only[vW,seval];refine z8 HF ?_;rfl
 ·simp only[vW,seval];exact zf HF
theorem zmr(c:Cls)(t:Ty)(x:Tl):∃p,tlT c t x=p∧z9B true (some (.pv p))=some (.pv (.v (.bool x.is)),.no):=by
 cases x<;>exact⟨_,rfl,rfl⟩
def zfB(k:Int):Nat:=if k=1 then 117 else if k=2 then 120 else if k=3 then 123 else if k=4 then 126 else if k=5 then 129 else 132
def zfb(k:Int):Nat:=if k=1 then 118 else if k=2 then 121 else if k=3 then 124 else if k=4 then 127 else if k=5 then 130 else 133
def zgv(k:Int):Nat:=if k=1 then 119 else if k=2 then 122 else if k=3 then 125 else if k=4 then 128 else if k=5 then 131 else 125
theorem zrK(g:Sh.Glob)(c:Cls)(h:Chg)(hk:h.k=1∨h.k=2∨h.k=3∨h.k=4∨h.k=5∨h.k=6)(hl:c.fs.length≤4611686018427387904):zC g (zfB h.k) [.pv (.el (wkC c h))] [] (B (z0H c h)) []:=by
 have HF:=fun s t=>zmK g c h (atV c.fs h.f) (z0G c.fs h.f) (tlT c h.t (zz c h.x h.t)) (tlT c h.t (zz c h.o h.t)) s t hl;have e0:=bS [];have hidx:z0G c.fs h.f=true→∃f,c.fs[atV c.fs h.f]?=some f∧c.fs.getD (atV c.fs h.f) z4B=f:=by
  intro hh;unfold z0G at hh;have h0:¬fieldAt c.fs h.f<0:=by simpa using hh
  obtain⟨f,hf,_⟩:=z2W (fun f:Fld=>f.n==h.f) c.fs (atV c.fs h.f) (by unfold atV fieldAt at*;omega);exact⟨f,hf,by rw[List.getD_eq_getElem?_getD,hf];rfl⟩
 unfold wkC;obtain⟨px,hpx,nx⟩:=zmr c h.t (zz c h.x h.t);obtain⟨po,hpo,no⟩:=zmr c h.t (zz c h.o h.t);rw[hpx,hpo]at HF ⊢;unfold z0H zfB;generalize(zz c h.x h.t).is=bx at*;generalize(zz c h.o h.t).is=bo at*;generalize atV c.fs h.f=i at*;generalize z0G c.fs h.f=hb at*;clear hpx hpo;obtain⟨k,f,n,m,t,x,o⟩:=h;simp only[]at*;rcases hk with rfl|rfl|rfl|rfl|rfl|rfl
 ·rw[if_pos rfl,if_pos rfl];refine za tf_9 ?_;have HF:=HF n [];unfold wkP B at*;by_cases h8:(c.fs.length:Int)<8
  ·have h8':c.fs.length<8:=by omega
   rw[decide_eq_true h8',Bool.true_and];simp only[vW,seval,h8,e0,clV];refine z7 HF ?_;cases z2B c.fs n []
   ·simp only[vW,seval]
   ·simp only[vW,seval,nx]
  ·have h8':¬c.fs.length<8:=by omega
   rw[decide_eq_false h8'];simp only[vW,seval,h8,clV]
 ·rw[if_neg (by decide),if_pos rfl,if_neg (by decide),if_pos rfl];refine za tf_10 ?_;unfold wkP B at*;simp only[vW,seval]
 ·rw[if_neg (by decide),if_neg (by decide),if_pos rfl,if_neg (by decide),if_neg (by decide),if_pos rfl];refine za tf_12 ?_;have HF:=HF n [];unfold wkP B at*;cases hb
  ·simp only[vW,seval]
  ·simp only[vW,seval,e0];exact zf HF
 ·rw[if_neg (by decide),if_neg (by decide),if_neg (by decide),if_pos rfl,if_neg (by decide),if_neg (by decide),if_neg (by decide),if_pos rfl];refine za tf_14 ?_;unfold wkP B at*;cases hb
  ·simp only[vW,seval]
  ·simp only[vW,seval,nx]
 ·rw[if_neg (by decide),if_neg (by decide),if_neg (by decide),if_neg (by decide),if_pos rfl,if_neg (by decide),if_neg (by decide),if_neg (by decide),if_neg (by decide),if_pos rfl];refine za tf_13 ?_;have HF1:=HF n f;have HF2:=HF m f;unfold wkP B at*;cases hb
  ·simp only[vW,seval]
  by_cases h8:(8:Int)≤(c.fs.length:Int)
  ·have h8':¬c.fs.length<8:=by omega
   rw[decide_eq_false h8'];simp only[vW,seval,h8,clV]
  ·have h8':c.fs.length<8:=by omega
   rw[decide_eq_true h8'];cases hnm:(n==m)
   ·simp only[vW,seval,h8,hnm,clV];refine z7 HF1 ?_;cases z2B c.fs n f
    ·simp only[vW,seval]
    simp only[vW,seval];refine z7 HF2 ?_;cases z2B c.fs m f
    ·simp only[vW,seval]
    simp only[vW,seval,nx];cases bx
    ·simp only[vW,seval]
    ·simp only[vW,seval,no]
   ·simp only[vW,seval,h8,hnm,clV]
 ·rw[if_neg (by decide),if_neg (by decide),if_neg (by decide),if_neg (by decide),if_neg (by decide),if_neg (by decide),if_neg (by decide),if_neg (by decide),if_neg (by decide),if_neg (by decide)];refine za tf_11 ?_;unfold wkP B at*;cases hb
  ·simp only[vW,seval]
  ·obtain⟨fd,ef,eg⟩:=hidx rfl;rw[eg];simp only[vW,seval,ef,clV]
end
end Go.Proofs.YtpmlapgbmgbilaaGreatDoor
end
