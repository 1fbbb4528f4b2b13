/- Merged texts: Cd5 Ze2 Ze3 Ze4 Ze5 Ze10. No statement of the program is proved here. -/
import Derived.Test.YtcpaleaajdilgaaGreatDoorQ16
set_option linter.unusedSimpArgs false
set_option linter.unusedVariables false
set_option maxRecDepth 100000
set_option maxHeartbeats 8000000
section
namespace Go.Sh.Cd5
open Go Go.Sh
abbrev gQ(a:GA):Prop:=gT Go.Proofs.Tryz.prog a
theorem gK{a:GA}(h:gQ a:=by unfold gQ gT;kernel_rfl):gQ a:=h
abbrev c_95_0:=kV [2,3,4] [oD 2 (.new zV),oD 3 (.new [(.int .i64 0)]),oD 4 (.new [(.int .i64 0)])] []
abbrev c_95_1:=kR [oM 10 0,oD 11 (.slen (.tmp 10)),kK 12 .gtr 3 11 200] [10,11]
abbrev c_95_2:=kR [oD 13 (.build zV []),kS 4 2 13,oN (.st 1 (.tmp 3) (vI 200)),oN (.st 1 (.tmp 4) (vI 50))] [0,12,13]
abbrev c_95_3:=kV [2068,2069,2070,2071,5] [oM 14 0,oD 15 (.slen (.tmp 14)),oD 16 (.build [(.slice none 0 0),(.int .i64 0),(.int .i64 0)] [(2,1,(.tmp 15))]),oD 17 (.call 74 0 []),oD 18 (.build [(.slice none 0 0),(.int .i64 0),(.int .i64 0),(.map none)] [(0,3,(.tmp 16)),(3,1,(.tmp 17))]),oD 5 (.new [(.slice none 0 0),(.int .i64 0),(.int .i64 0),(.map none)]),kS 4 5 18] [12,14,15,16,17,18]
abbrev c_95_4:=kV [2080,2081,2082,2083] [oM 19 0,kC 20 75 0 19] [0,19]
abbrev c_95_5:=kV [2148,2149,2150,2151,7] [kC 37 76 1 5,oM 36 37,kY 38 36 0,kY 39 36 1,kY 40 36 2,oD 7 (.new zV),kS 4 7 38,oM 8 39,oM 9 40] [5,20,36,37,38,39,40]
abbrev c_95_6:=kR [oM 41 9,kN 42 41] [9,41]
abbrev c_95_7:=kR [oD 43 (.build zV []),oM 44 8,kS 4 2 43,kS 1 3 44,oN (.st 1 (.tmp 4) (vI 50))] [7,8,42,43,44]
abbrev c_95_8:=kV [2184,2185,2186,2187] [oL 45 true 4 7,kC 46 77 0 45,kN 47 46] [8,42,45,46]
abbrev c_95_9:=kR [oD 48 (.build zV []),kS 4 2 48,oN (.st 1 (.tmp 3) (vI 0)),oN (.st 1 (.tmp 4) (vI 51))] [7,47,48]
abbrev c_95_10:=kR [oL 49 true 4 7,kS 4 2 49,oN (.st 1 (.tmp 3) (vI 0)),oN (.st 1 (.tmp 4) (vI 0))] [7,47,49]
noncomputable abbrev F_95:SFunc:=⟨50,(.seq c_95_0 (.seq (.seq c_95_1 (.cond (.tmp 12) (.seq c_95_2 .ret) .skip)) (.seq c_95_3 (.seq (.seq c_95_4 (.block 0 (.raw 50 (zdv Go.Proofs.Tryz.prog 36 0)))) (.seq c_95_5 (.seq (.seq c_95_6 (.cond (.tmp 42) (.seq c_95_7 .ret) .skip)) (.seq (.seq c_95_8 (.cond (.tmp 47) (.seq c_95_9 .ret) .skip)) (.seq c_95_10 .ret)))))))),[.cell true 4 2,.cell false 1 3,.cell false 1 4],false⟩
theorem tf_95:z0e Go.Proofs.Tryz.prog 36 (z62 [(17,0),(20,0),(32,0),(37,1),(46,0)]) (fpT []) (z5l [(1,[10,11]),(2,[0,12,13]),(3,[12,14,15,16,17,18]),(4,[0,19]),(9,[5,20,36,37,38,39,40]),(10,[9,41]),(11,[7,8,42,43,44]),(12,[8,42,45,46]),(13,[7,47,48]),(14,[7,47,49])]) false=some F_95:=by kernel_rfl
theorem tf_96:gQ ⟨40,13,[],[],[[0,2003],[5006],[1,7],[2003,7009],[1,4,10012]],[.tmp 2,.tmp 3],false⟩:=gK
theorem tf_99:gQ ⟨75,4,[],[],[[0,2],[1,3]],[.tmp 2],false⟩:=gK
theorem tf_97:gQ ⟨77,8,[(7,1)],[],[[0,2],[4005],[1,3,6007]],[.tmp 2],false⟩:=gK
theorem tf_37:gQ ⟨83,93,[(88,1)],[(19,[[(1,3),(4,68)]])],[[1000001,4],[10],[13],[2003,11012,14016],[12,18],[2003,11,17,19021],[5,22025],[17,27],[2003,11,26,28034],[26,36],[11,35,37041],[2003,6,42062],[11,35,64],[63,65068],[69],[],[73076],[8009,77082],[83],[2003,7,70072,84090],[2003,63,91092]],[.tmp 4],false⟩:=gK
abbrev c_expr_pieces_1_0:=kR [kI 3 0] []
abbrev c_expr_pieces_1_1:=kR [oM 6 3,oL 7 false 1 1,oD 8 (.slen (.tmp 7)),kB 9 .lss 3 6 8,oM 10 9,kL 11 10 true false 1 1,oH 12 10 true 3,oG 13 10 true (.sidx (.tmp 11) (.tmp 12)),oG 14 10 true (.bin .eql 5 (.tmp 13) (.val (.int .u8 32))),oP 15 10 14 false] [6,7,8,9,10,11,12,13,14]
abbrev c_expr_pieces_1_2:=kR [oM 16 3,kK 17 .add 3 16 1,oM 3 17] [15,16,17]
abbrev c_expr_pieces_1_3:SCode:=(.seq (.seq c_expr_pieces_1_1 (.cond (.tmp 15) .skip (.exit 2))) (.block 3 c_expr_pieces_1_2))
abbrev c_expr_pieces_1_4:=kR [oM 18 3,oL 19 false 1 1,oD 20 (.slen (.tmp 19)),kB 21 .eql 3 18 20] [18,19,20]
abbrev c_expr_pieces_1_5:=kV [2104,2105,2106,2107,4] [oL 23 false 1 1,oM 24 3,oD 25 (.ssub (.tmp 23) (some (.tmp 24)) none),kC 26 130 0 25,oM 22 26,kY 27 22 0,kY 28 22 1,oD 4 (.new [(.int .i64 0),(.int .i64 0),(.string ⟨#[]⟩),(.int .i64 0)]),kS 4 4 27,oM 5 28] [21,22,23,24,25,26,27,28]
abbrev c_expr_pieces_1_6:=kR [oM 29 3,kA 30 3 4,kS 1 30 29] [29,30]
abbrev c_expr_pieces_1_8:=kR [oM 39 3,oM 40 5,kB 41 .add 3 39 40,oM 3 41] [5,38,39,40,41]
theorem tf_100:gQ ⟨130,47,[],[],[[3],[6007],[9014],[0,4,8,15018],[8,20025],[0,4,19,26029],[4,19,31032],[0,30,33036],[0,3,30,37039],[40],[5,41042],[5,41,43046]],[.cell true 4 2,.tmp 3],false⟩:=gK
theorem tf_24:gQ ⟨132,48,[(9,3),(13,1),(45,3)],[(7,[[(1,6),(2,5),(9,5),(6,1000)]])],[[],[8009,2009999],[10013],[14020],[21027],[1000001,5007,28029],[28,30038],[6007,39047,2009999]],[.cell true 4 4],false⟩:=gK
theorem tf_28:gQ ⟨133,28,[],[],[[],[3011],[0,12022],[0,12,23027]],[.cell true 4 2],false⟩:=gK
theorem tf_23:gQ ⟨134,45,[(28,1),(42,1)],[],[[1,6],[9015],[16029],[0,2,4,30],[4,6,30031],[],[35037],[8,38042],[0,2,32034,43],[6,43044],[0,2,32034]],[.tmp 6],false⟩:=gK
theorem tf_36:gQ ⟨157,27,[],[],[[1000001,6],[2,7017],[3004,18023],[3004,18,24026]],[.tmp 6],false⟩:=gK
theorem tf_125:gQ ⟨170,56,[],[],[[2],[6012],[0,13],[2,13],[14016],[2,18019,55],[17,20029],[30045],[4005,46054],[0,3,55],[0,3]],[.tmp 2],false⟩:=gK
theorem tf_121:gQ ⟨176,138,[],[],[[0,2],[6],[9],[1,7008,10023],[8,25],[1,7,24,26044],[24,46],[7,45,47049],[1,3,50067],[45,69],[70],[1,7,68,71099],[7,68,101],[100,102114],[1,115],[2,115],[116119],[2,121122,137],[120,123128],[1,4,129],[2,129135],[5,136],[1,4,137],[1,4],[1,100]],[.tmp 2],false⟩:=gK
theorem tf_102:gQ ⟨204,39,[],[],[[3],[],[6020],[21030],[31032],[0,33],[4005,34035],[4005,34,36038]],[.cell true 4 2,.tmp 3],false⟩:=gK
theorem tf_101:gQ ⟨205,52,[],[],[[3],[],[5037],[38040],[41044],[0,4,45046],[0,4,45,47051]],[.cell true 4 2,.tmp 3],false⟩:=gK
theorem tf_103:gQ ⟨206,55,[(19,0),(52,0)],[],[[3],[],[],[6008],[10011],[9,12013],[16],[0,14015,17019],[4005,20021],[4005,20,22026],[14015,28],[27,29030],[31045],[0,4005,46047],[3,27,46,48053],[0,4005,54]],[.cell true 4 2,.tmp 3],false⟩:=gK
theorem tf_98:gQ ⟨207,27,[],[],[[4],[],[1],[],[11013],[14022],[7,23024],[7,23,25],[0,5,8010,26]],[.tmp 4],false⟩:=gK
theorem tf_26:gQ ⟨208,75,[(9,1),(11,3),(15,3),(20,1),(22,3),(28,1),(61,1),(67,3)],[(17,[[(1,4),(6,2),(4,1000)]])],[[],[6008],[9011,2009999],[0,12015,2009999],[3,16],[9,17019],[0,20024,2009999],[20,25028],[29037],[38],[41],[0,4,39040,42044],[40,46],[0,4,39,45,47049],[39,45,51],[50,52054],[55061],[0,4005,62068,2009999],[0,4005,62,69071],[0,4,50,72074,2009999]],[.cell true 4 2],false⟩:=gK
theorem tf_22:gQ ⟨209,100,[],[],[[1,4],[5011],[0,3,12],[4,12013],[16],[0,3,14015,17035],[15,37],[0,3,14,36,38046],[36,48],[0,3,14,47,49057],[47,59],[0,3,14,58,60073],[0,58,75],[3,14,74,76084],[14,74,86],[3,85,87099],[3,85]],[.tmp 4],false⟩:=gK
theorem tf_133:gQ ⟨230,6,[],[],[[0,2],[1,3005]],[.tmp 2],false⟩:=gK
theorem tf_104:gQ ⟨244,6,[],[],[[2],[0,3005]],[.tmp 2],false⟩:=gK
theorem tf_105:gQ ⟨245,6,[],[],[[2],[0,3005]],[.tmp 2],false⟩:=gK
theorem tf_157:gQ ⟨246,8,[],[],[[4],[1000001,5007]],[.tmp 4],false⟩:=gK
theorem tf_29:gQ ⟨247,24,[(7,1)],[],[[4],[6007],[1,5,8015],[0,16],[0,4,16023]],[.tmp 4],false⟩:=gK
theorem tf_27:gQ ⟨248,12,[(6,1),(9,1)],[],[[1,4006],[0,7011,2009999]],[],false⟩:=gK
theorem tf_106:gQ ⟨249,17,[],[],[[2],[0],[5],[6],[7],[3004],[4,9],[10],[11],[12],[13],[14],[3,8],[3,8,16],[15],[15]],[.tmp 2],false⟩:=gK
theorem tf_25:gQ ⟨250,28,[(16,3),(19,3),(20,0),(26,3)],[],[[4],[],[1],[],[9010],[6,11],[12016,2009999],[12,17021,2009999],[22],[0,7008,23026,2009999],[5,27]],[.tmp 4],false⟩:=gK
theorem tf_131:gQ ⟨266,20,[],[],[[2],[0],[5],[6],[7],[3004],[4,9],[10],[3,8],[8,12],[3,11],[11,14],[15],[16],[17],[18],[3,19],[3,13],[3,13]],[.tmp 2],false⟩:=gK
theorem tf_137:gQ ⟨268,42,[],[],[[0,6],[8017],[1003,18],[6,18020],[],[21028],[30031],[29,32040],[1003,7,41]],[.tmp 6],false⟩:=gK
theorem tf_107:gQ ⟨282,18,[],[],[[4],[1000001,5017]],[.tmp 4],false⟩:=gK
theorem tf_130:gQ ⟨298,17,[],[],[[2],[0],[5],[6],[7],[3004],[4,9],[10],[11],[12],[13],[14],[3,8],[3,8,16],[15],[15]],[.tmp 2],false⟩:=gK
theorem tf_136:gQ ⟨301,112,[],[],[[0,2],[3],[6],[1,4005,7025],[5,27],[1,4,26,28042],[26,44],[1,4,43,45058],[43,60],[1,4,59,61075],[59,77],[1,4,76,78091],[4,76,93],[1,92,94111],[1,92]],[.tmp 2],false⟩:=gK
noncomputable def funcs:Nat→Option SFunc
 |_=>none
end Go.Sh.Cd5
end

section
namespace Go.Proofs.YtcpaleaajdilgaaGreatDoor
open Go Go.RowKit Go.Mor Go.Sh Go.Sh.Cd1 Go.Sh.Cd5
def pcR(q:Pc):List PV:=[.v (.int .i64 q.k),.v (.int .i64 q.n),.v (.string (str q.s)),.v (.int .i64 (q.p:Int))]
def pcT(q:Pc):TV:=.agg [I q.k,I q.n,S (str q.s),I (q.p:Int)]
def pcs(L:List Pc):TV:=.pv (.sl 4 (L.map pcR))
def pB(L:List Pc)(p sz:Nat):List TV:=[pcs L,I (p:Int),I (sz:Int),z0c]
theorem z4E(g:Sh.Glob)(L:List Pc)(p sz:Nat)(hL:L.length≤maxLen):zC g 133 [.ptr 1000 0] [.box (pB L p sz)] (pcT (pkP L sz p)) [.box (pB L p sz)]:=by
 refine zp tf_28 ?_;unfold pB pcs pcT;by_cases hlt:p<L.length
 ·have d1:(p:Int)<(L.length:Int):=by omega
  obtain⟨q,eq⟩:∃q,L[p]?=some q:=⟨_,gE hlt⟩
  have hq:pkP L sz p=q:=by simp[pkP,eq]
  rw[hq];simp only[vW,seval,d1,eq,pcR,bmV]
 ·have d1:¬(p:Int)<(L.length:Int):=by omega
  have hq:pkP L sz p=⟨0,0,[],sz⟩:=by simp[pkP,List.getElem?_eq_none (Nat.le_of_not_lt hlt)]
  rw[hq];simp only[vW,seval,d1,bmV];rfl
theorem z45(g:Sh.Glob)(L:List Pc)(p sz:Nat)(t:zB)(hL:L.length≤maxLen)(hp:p<maxLen):zC g 247 [.ptr 1000 0,S (str t)] [.box (pB L p sz)] (B (zX (pkP L sz p) t)) [.box (pB L (if zX (pkP L sz p) t then p+1 else p) sz)]:=by
 refine zp tf_29 ?_;have HP:=z4E g L p sz hL;have w1:IntKind.i64.wrap ((p:Int)+1)=((p+1:Nat):Int):=by unfold maxLen at hp;rw[wrap64 (by omega) (by omega)];omega
 unfold zX at*;generalize pkP L sz p=q at*;unfold pB pcs pcT B at*;by_cases hk:q.k=4
 ·have hb:(q.k==4)=true:=by simp[hk]
  cases ht:q.s==t
  ·simp only[vW,seval];refine zt HP ?_;simp only[vW,seval,bmV,hk,hb,ht]
  ·simp only[vW,seval];refine zt HP ?_;simp only[vW,seval,bmV,hk,hb,ht,w1]
 ·have hb:(q.k==4)=false:=by simp[hk]
  simp only[vW,seval];refine zt HP ?_;simp only[vW,seval,bmV,hk,hb]
def zQ(a:Nat):Value:=.iface 212 (.int .i64 (a:Int))
theorem z9l(g:Sh.Glob)(L:List Pc)(p sz:Nat)(t:zB)(hL:L.length≤maxLen)(hp:p<maxLen)(h:zX (pkP L sz p) t=true):zC g 248 [.ptr 1000 0,S (str t)] [.box (pB L p sz)] (.tuple []) [.box (pB L (p+1) sz)]:=by
 refine zp tf_27 ?_;have HT:=z45 g L p sz t hL hp;rw[h,if_pos rfl]at HT;unfold pB pcs B at*;simp only[vW,seval];exact z1h HT
theorem zao(g:Sh.Glob)(L:List Pc)(p sz:Nat)(t:zB)(hL:L.length≤maxLen)(hp:p<maxLen)(h:zX (pkP L sz p) t=false):z7X Tryz.prog g 248 [.ptr 1000 0,S (str t)] [.box (pB L p sz)] (zQ (pkP L sz p).p) [.box (pB L p sz)]:=by
 refine z8B zf tf_27 rfl rfl rfl ?_
 conv in SFunc.code _=>reduce
 have HT:=z45 g L p sz t hL hp;have HP:=z4E g L p sz hL;rw[h,if_neg (by simp)]at HT;unfold pB pcs B pcT zQ at*;simp only[vW,seval];refine zU HT ?_;(with_reducible apply z4s);simp only[vW,seval];(with_reducible apply zkN);(· simp only[vW,seval,bmV];with_reducible rfl);(· rfl);(· exact HP);(· first|rfl|(simp only[vcA,seval];omega));(· simp only[vW,seval,bmV];with_reducible rfl);simp only[vW,seval,bmV]
theorem zaD(g:Sh.Glob)(s:zB):zC g 249 [S (str s)] [] (I (zq s)) []:=by
 refine za tf_106 ?_;have q1:=bS [108,101,110];have q2:=bS [116,101,120,116];have q3:=bS [110,117,109];have q4:=bS [108,101,102,116];have q5:=bS [114,105,103,104,116];have q6:=bS [102,114,111,109];have q7:=bS [102,105,110,100];have q8:=bS [109,105,110];have q9:=bS [109,97,120];have q10:=bS [105,102];have hb:∀t:zB,(s==t)=decide (s=t):=fun t=>by rw[Bool.eq_iff_iff];simp
 unfold zq;simp only[vW,seval,q1,q2,q3,q4,q5,q6,q7,q8,q9,q10,hb]
 repeat' (first|(apply And.intro)|(intro _))
 all_goals simp_all
section
section
variable(g:Sh.Glob)(L:List Pc)(sz:Nat)
def EOk(f:Nat):Prop:=∀(zi:Int) (p:Nat) (e:V) (p':Nat),0≤zi→zi≤5→p≤L.length→pE L sz f zi p=some (.ok e p')→zC g 132 [.ptr 1000 0,I zi] [.box (pB L p sz)] (tv e) [.box (pB L p' sz)]
def za4(f:Nat):Prop:=∀(zi:Int) (p a p':Nat),0≤zi→zi≤5→p≤L.length→pE L sz f zi p=some (.bad a p')→z7X Tryz.prog g 132 [.ptr 1000 0,I zi] [.box (pB L p sz)] (zQ a) [.box (pB L p' sz)]
def TOk(f:Nat):Prop:=∀(p:Nat) (e:V) (p':Nat),p≤L.length→pT L sz f p=some (.ok e p')→zC g 208 [.ptr 1000 0] [.box (pB L p sz)] (tv e) [.box (pB L p' sz)]
def zbD(f:Nat):Prop:=∀(p a p':Nat),p≤L.length→pT L sz f p=some (.bad a p')→z7X Tryz.prog g 208 [.ptr 1000 0] [.box (pB L p sz)] (zQ a) [.box (pB L p' sz)]
theorem z5o{q:Pc}{p:Nat}(h:pkP L sz p=q)(hk:q.k≠0):p<L.length:=by
 rcases Nat.lt_or_ge p L.length with h1|h1
 ·exact h1
 ·rw[pkP,List.getElem?_eq_none h1]at h;subst h;exact absurd rfl hk
theorem z1j{p:Nat}{t:zB}(h:zX (pkP L sz p) t=true):p<L.length:=by
 refine z5o L sz rfl ?_;unfold zX at h;simp only[Bool.and_eq_true,beq_iff_eq]at h;rw[h.1];decide
theorem z86(s:zB):0≤zu s∧zu s≤4:=by
 unfold zu
 repeat' split
 all_goals omega
theorem zcR(s:zB):0≤zq s∧zq s≤3:=by
 unfold zq
 repeat' split
 all_goals omega
theorem z5M:∀f,(∀zi p e p',p≤L.length→pE L sz f zi p=some (.ok e p')→p'≤L.length)∧(∀zi e0 p e p',p≤L.length→pL L sz f zi e0 p=some (.ok e p')→p'≤L.length)∧
  (∀p e p',p≤L.length→pT L sz f p=some (.ok e p')→p'≤L.length)∧(∀n k p acc l p',p≤L.length→pH L sz f n k p acc=some (.ok l p')→p'≤L.length)
 |0=>⟨fun _ _ _ _ _ h=>by simp[pE]at h,fun _ _ _ _ _ _ h=>by simp[pL]at h,fun _ _ _ _ h=>by simp[pT]at h,fun _ _ _ _ _ _ _ h=>by simp[pH]at h⟩
 |f+1=>by
  obtain⟨h1,h2,h3,h4⟩:=z5M f;refine⟨fun zi p e p' hp h=> ?_,fun zi e0 p e p' hp h=> ?_,fun p e p' hp h=> ?_,fun n k p acc l p' hp h=> ?_⟩
  ·rw[pE]at h;split at h
   ·rename_i e1 p1 ht;exact h2 _ _ _ _ _ (h3 _ _ _ hp ht) h
   ·cases h
   ·cases h
  ·rw[pL]at h;split at h
   ·cases h;exact hp
   ·rename_i hk;rw[not_or]at hk;have hlt:=z5o L sz (p:=p) rfl (by have:=hk.1;simp only[ne_eq,Decidable.not_not]at this;rw[this];decide);split at h
    ·rename_i e2 p2 he;exact h2 _ _ _ _ _ (h1 _ _ _ _ hlt he) h
    ·cases h
    ·cases h
  ·rw[pT]at h;split at h
   ·rename_i hs;have hlt:=z1j L sz hs;split at h
    ·rename_i e1 p1 he;split at h
     ·rename_i hs2;cases h;exact z1j L sz hs2
     ·cases h
    ·cases h
    ·cases h
   split at h
   ·rename_i hs;have hlt:=z1j L sz hs;split at h
    ·rename_i e1 p1 he;cases h;exact h3 _ _ _ hlt he
    ·cases h
    ·cases h
   split at h
   ·rename_i hk;cases h;exact z5o L sz rfl (by rw[hk];decide)
   split at h
   ·rename_i hk;cases h;exact z5o L sz rfl (by rw[hk];decide)
   split at h
   ·rename_i hk;have hlt:=z5o L sz (p:=p) rfl (by rw[hk];decide);split at h
    ·rename_i ht;have hlt2:=z1j L sz ht.2;split at h
     ·rename_i l p1 he;cases h;exact h4 _ _ _ _ _ _ hlt2 he
     ·cases h
     ·cases h
    ·cases h;exact hlt
   ·cases h
  ·rw[pH]at h;split at h
   ·split at h
    ·cases h
    ·rename_i hk hs;have hp2:(if 0<k then p+1 else p)≤L.length:=by
      split
      ·rename_i h0;refine z1j L sz (t:=[44]) ?_;cases hh:zX (pkP L sz p) [44]with
       |true=>rfl
       |false=>exact absurd ⟨h0,hh⟩ hs
      ·exact hp
     split at h
     ·rename_i e1 p1 he;exact h4 _ _ _ _ _ _ (h1 _ _ _ _ hp2 he) h
     ·cases h
     ·cases h
   ·split at h
    ·rename_i hs;cases h;exact z1j L sz hs
    ·cases h
variable{g L sz}
theorem zho{f:Nat}(hL:L.length≤4611686018427387904)(ih:∀f',f'<f→EOk g L sz f'∧za4 g L sz f'∧TOk g L sz f'∧zbD g L sz f'):EOk g L sz f:=by
 intro zi p e p' h0 h5 hp h;cases f with
 |zero=>simp[pE]at h
 |succ f=>
 rw[pE]at h;cases ht:pT L sz f p with
 |none=>rw[ht]at h;cases h
 |some r=>
 cases r with
 |bad a q=>rw[ht]at h;cases h
 |ok e1 p1=>
 rw[ht]at h;simp only at h;have HT:=(ih f (Nat.lt_succ_self f)).2.2.1 p e1 p1 hp ht;have hp1:=(z5M L sz f).2.2.1 p e1 p1 hp ht;refine zp tf_24 ?_;have hml:L.length≤maxLen:=by unfold maxLen;omega
 unfold pB pcs at HT ⊢;simp only[vW,seval,bmV];(with_reducible apply z30);simp only[vW,seval,bmV];refine zU HT ?_;refine zw (σ:={x:Nat×V×Nat // x.1≤f∧x.2.2≤L.length∧pL L sz x.1 zi x.2.1 x.2.2=some (.ok e p')})
  (fun x=>⟨[(0,.ptr 1000 0),(1,I zi),(4,.ptr 4 0),(5,.ptr 5 0)],[(1000,[.pv (.sl 4 (L.map pcR)),I (x.1.2.2:Int),I (sz:Int),z0c]),(4,[I 0,I 0,S ⟨#[]⟩,.pv (.v (.slice none 0 0))]),
   (5,[I x.1.2.1.k,I x.1.2.1.n,S (str x.1.2.1.s),.pv (.sl 4 (V.rows x.1.2.1.l))])],[],[]⟩) (fun x=>x.1.1) ⟨(f,e1,p1),Nat.le_refl _,hp1,h⟩ (z0Y rfl) ?_
 rintro⟨⟨f1,e2,p2⟩,hf1,hp2,hl⟩;simp only at hf1 hp2 hl;cases f1 with
 |zero=>simp[pL]at hl
 |succ f1=>
 have HP:=z4E g L p2 sz hml;rw[pL]at hl;generalize hq:pkP L sz p2=q at HP hl;obtain⟨b0,b4⟩:=z86 q.s;unfold pB pcs pcT at HP;simp only[vW,seval,bmV];refine zt HP ?_;by_cases hk:q.k=4
 ·by_cases hb:zu q.s<zi
  ·rw[if_pos (.inr hb)]at hl;cases hl;simp only[vW,seval,bmV,hk,hb]
  ·rw[if_neg (by rw[not_or];exact⟨by simpa using hk,hb⟩)]at hl;have hlt:=z5o L sz hq (by rw[hk];decide);cases he:pE L sz f1 (zu q.s+1) (p2+1)with
   |none=>rw[he]at hl;cases hl
   |some r=>
   cases r with
   |bad a q'=>rw[he]at hl;cases hl
   |ok e3 p3=>
   rw[he]at hl;simp only at hl;have HE:=(ih f1 (by omega)).1 (zu q.s+1) (p2+1) e3 p3 (by omega) (by omega) hlt he;have hp3:=(z5M L sz f1).1 _ _ _ _ hlt he;have w1:=wS p2;have w2:IntKind.i64.wrap (zu q.s+1)=zu q.s+1:=wrap64 (by omega) (by omega);unfold pB pcs at HE;simp only[vW,seval,bmV,hk,hb,w1];(with_reducible apply z30);simp only[vW,seval,bmV,w2];(with_reducible apply z05);simp only[vW,seval,bmV,w2];rfl;rfl;exact HE;exact km;simp only[vW,seval,bmV,w2];rfl;simp only[vW,seval,bmV];refine zc ⟨(f1,.mk 4 0 q.s [e2,e3],p3),by omega,hp3,hl⟩ (Nat.lt_succ_self f1) ?_;apply z06<;>simp[leL,lk,sv,Nat.beq,I,S,ES.kill,has,drp,zK,bmV]
   exact⟨rfl,rfl,rfl,by rw[Vl,show V.rows [e2,e3]=[V.row e2,V.row e3] from rfl,z1k,z1k]⟩
 ·rw[if_pos (.inl hk)]at hl;cases hl;simp only[vW,seval,bmV,hk]
theorem zfu{f:Nat}(hL:L.length≤4611686018427387904)(ih:∀f',f'<f→EOk g L sz f'∧za4 g L sz f'∧TOk g L sz f'∧zbD g L sz f'):za4 g L sz f:=by
 intro zi p a p' h0 h5 hp h;cases f with
 |zero=>simp[pE]at h
 |succ f=>
 have hml:L.length≤maxLen:=by unfold maxLen;omega
 rw[pE]at h;cases ht:pT L sz f p with
 |none=>rw[ht]at h;cases h
 |some r=>
 cases r with
 |bad a q=>
  rw[ht]at h;cases h;have HT:=(ih f (Nat.lt_succ_self f)).2.2.2 p a p' hp ht;refine z8B zf tf_24 rfl rfl rfl ?_
  conv in SFunc.code _=>reduce
  unfold pB pcs at HT ⊢;unfold zQ at*;simp only[vW,seval,bmV];(with_reducible apply z4s);simp only[vW,seval,bmV];(with_reducible apply z2B);(· rfl);(· simp only[vW,seval,bmV];with_reducible rfl);(· exact HT);(· first|rfl|(simp only[vcA,seval];omega));(· simp only[vW,seval,bmV];with_reducible rfl);simp only[vW,seval,bmV]
 |ok e1 p1=>
 rw[ht]at h;simp only at h;have HT:=(ih f (Nat.lt_succ_self f)).2.2.1 p e1 p1 hp ht;have hp1:=(z5M L sz f).2.2.1 p e1 p1 hp ht;refine z8B zf tf_24 rfl rfl rfl ?_
 conv in SFunc.code _=>reduce
 unfold pB pcs at HT ⊢;unfold zQ;simp only[vW,seval,bmV];(with_reducible apply z30);simp only[vW,seval,bmV];refine zU HT ?_;refine zw (σ:={x:Nat×V×Nat // x.1≤f∧x.2.2≤L.length∧pL L sz x.1 zi x.2.1 x.2.2=some (.bad a p')})
  (fun x=>⟨[(0,.ptr 1000 0),(1,I zi),(4,.ptr 4 0),(5,.ptr 5 0)],[(1000,[.pv (.sl 4 (L.map pcR)),I (x.1.2.2:Int),I (sz:Int),z0c]),(4,[I 0,I 0,S ⟨#[]⟩,.pv (.v (.slice none 0 0))]),
   (5,[I x.1.2.1.k,I x.1.2.1.n,S (str x.1.2.1.s),.pv (.sl 4 (V.rows x.1.2.1.l))])],[],[]⟩) (fun x=>x.1.1) ⟨(f,e1,p1),Nat.le_refl _,hp1,h⟩ (z0Y rfl) ?_
 rintro⟨⟨f1,e2,p2⟩,hf1,hp2,hl⟩;simp only at hf1 hp2 hl;cases f1 with
 |zero=>simp[pL]at hl
 |succ f1=>
 have HP:=z4E g L p2 sz hml;rw[pL]at hl;generalize hq:pkP L sz p2=q at HP hl;obtain⟨b0,b4⟩:=z86 q.s;unfold pB pcs pcT at HP;simp only[vW,seval,bmV];refine zt HP ?_;by_cases hk:q.k=4
 ·by_cases hb:zu q.s<zi
  ·rw[if_pos (.inr hb)]at hl;cases hl
  ·rw[if_neg (by rw[not_or];exact⟨by simpa using hk,hb⟩)]at hl;have hlt:=z5o L sz hq (by rw[hk];decide);have w1:=wS p2;have w2:IntKind.i64.wrap (zu q.s+1)=zu q.s+1:=wrap64 (by omega) (by omega);cases he:pE L sz f1 (zu q.s+1) (p2+1)with
   |none=>rw[he]at hl;cases hl
   |some r=>
   cases r with
   |bad a2 q'=>
    rw[he]at hl;cases hl;have HE:=(ih f1 (by omega)).2.1 (zu q.s+1) (p2+1) a p' (by omega) (by omega) hlt he;unfold pB pcs zQ at HE;simp only[vW,seval,bmV,hk,hb,w1];(with_reducible apply z4s);simp only[vW,seval,bmV,w2];(with_reducible apply z2B);(· rfl);(· simp only[vW,seval,bmV,w2];with_reducible rfl);(· exact HE);(· first|rfl|(simp only[vcA,seval];omega));(· simp only[vW,seval,bmV,w2];with_reducible rfl);simp only[vW,seval,bmV,w2]
   |ok e3 p3=>
   rw[he]at hl;simp only at hl;have HE:=(ih f1 (by omega)).1 (zu q.s+1) (p2+1) e3 p3 (by omega) (by omega) hlt he;have hp3:=(z5M L sz f1).1 _ _ _ _ hlt he;unfold pB pcs at HE;simp only[vW,seval,bmV,hk,hb,w1];(with_reducible apply z30);simp only[vW,seval,bmV,w2];(with_reducible apply z05);simp only[vW,seval,bmV,w2];rfl;rfl;exact HE;exact km;simp only[vW,seval,bmV,w2];rfl;simp only[vW,seval,bmV];refine zc ⟨(f1,.mk 4 0 q.s [e2,e3],p3),by omega,hp3,hl⟩ (Nat.lt_succ_self f1) ?_;apply z06<;>simp[leL,lk,sv,Nat.beq,I,S,ES.kill,has,drp,zK,bmV]
   exact⟨rfl,rfl,rfl,by rw[Vl,show V.rows [e2,e3]=[V.row e2,V.row e3] from rfl,z1k,z1k]⟩
 ·rw[if_pos (.inl hk)]at hl;cases hl
theorem z2g(l:List V)(x:V):V.rows (l++[x])=V.rows l++[[.v (.int .i64 x.k),.v (.int .i64 x.n),.v (.string (str x.s)),.sl 4 (V.rows x.l)]]:=by rw[z0k,z0k,List.map_append,List.map_cons,List.map_nil,z1k]
theorem zfa{f:Nat}(hL:L.length≤4611686018427387904)(ih:∀f',f'<f→EOk g L sz f')(n p:Nat)(l:List V)(p':Nat)(hn0:0<n)(hn:n≤3)(hp:p≤L.length)(h:pH L sz f n 0 p []=some (.ok l p')):
  zC g 250 [.ptr 1000 0,I (n:Int)] [.box (pB L p sz)] (.pv (.sl 4 (V.rows l))) [.box (pB L p' sz)]:=by
 have hml:L.length<maxLen:=by unfold maxLen;omega
 refine zp tf_25 ?_;unfold pB pcs at*;simp only[vW,seval,bmV];refine zw (σ:={x:Nat×Nat×Nat×List V // x.1≤f∧x.2.1≤n∧x.2.2.1≤L.length∧x.2.2.2.length=x.2.1∧pH L sz x.1 n x.2.1 x.2.2.1 x.2.2.2=some (.ok l p')})
  (fun x=>⟨[(0,.ptr 1000 0),(5,.own 3000 4 (V.rows x.1.2.2.2)),(7,I (n:Int)),(8,I (x.1.2.1:Int))],[(1000,[.pv (.sl 4 (L.map pcR)),I (x.1.2.2.1:Int),I (sz:Int),z0c])],[(3000,(76,4,x.1.2.1))],[]⟩) (fun x=>x.1.1) ⟨(f,0,p,[]),Nat.le_refl _,Nat.zero_le _,hp,rfl,h⟩ ?_ ?_
 ·refine ES.Lw.trans ?_ (z6L (k:=5) (d:=3000) (e:=76) (W:=4) (.inr (by decide)) rfl);exact z0Y rfl
 rintro⟨⟨f1,k,p1,acc⟩,hf1,hk,hp1,hacc,hl⟩;simp only at hf1 hk hp1 hacc hl;cases f1 with
 |zero=>simp[pH]at hl
 |succ f1=>
 rw[pH]at hl;by_cases hkn:k<n
 ·rw[if_pos hkn]at hl;have d1:(k:Int)<(n:Int):=by omega
  split at hl
  ·cases hl
  rename_i hcom;cases he:pE L sz f1 1 (if 0<k then p1+1 else p1)with
  |none=>rw[he]at hl;cases hl
  |some r=>
  cases r with
  |bad a q'=>rw[he]at hl;cases hl
  |ok e3 p3=>
  rw[he]at hl;simp only at hl;have wk:=wS k;have hacc':(V.rows acc).length=k:=by rw[z1b,hacc]
  by_cases h0:0<k
  ·rw[if_pos h0]at he;have hs:zX (pkP L sz p1) [44]=true:=by
    cases hh:zX (pkP L sz p1) [44]with
    |true=>rfl
    |false=>exact absurd ⟨h0,hh⟩ hcom
   have hlt:=z1j L sz hs;have HN:=z9l g L p1 sz [44] (by omega) (by omega) hs;have HE:=ih f1 (by omega) 1 (p1+1) e3 p3 (by omega) (by omega) hlt he;have hp3:=(z5M L sz f1).1 _ _ _ _ hlt he;have d0:(0:Int)<(k:Int):=by omega
   have q44:=bS [44];unfold pB pcs at HN HE;simp only[vW,seval,bmV,d1,d0];(with_reducible apply z30);simp only[vW,seval,bmV,q44];refine zU HN ?_;(with_reducible apply z30);simp only[vW,seval,bmV];refine zt HE ?_;simp only[vW,seval,bmV,hacc',wk];refine⟨⟨by omega,by unfold maxLen;omega⟩,zc ⟨(f1,k+1,p3,acc++[e3]),by omega,hkn,hp3,by simp[hacc],hl⟩ (Nat.lt_succ_self f1) ?_⟩;refine z0Y ?_;simp only[z2g,I]
  ·rw[if_neg h0]at he;obtain rfl:k=0:=by omega
   have HE:=ih f1 (by omega) 1 p1 e3 p3 (by omega) (by omega) hp1 he;have hp3:=(z5M L sz f1).1 _ _ _ _ hp1 he;have d2:(0:Int)<(n:Int):=by omega
   have w01:IntKind.i64.wrap 1=1:=by decide
   unfold pB pcs at HE;simp only[vW,seval,bmV,d2];(with_reducible apply z30);simp only[vW,seval,bmV];refine zt HE ?_;simp only[vW,seval,bmV,hacc',w01];refine⟨by unfold maxLen;omega,zc ⟨(f1,1,p3,acc++[e3]),by omega,hkn,hp3,by simp[hacc],hl⟩ (Nat.lt_succ_self f1) ?_⟩;refine z0Y ?_;simp only[z2g,I];rfl
 ·rw[if_neg hkn]at hl;have d1:¬(k:Int)<(n:Int):=by omega
  split at hl
  ·rename_i hs;cases hl;have hlt:=z1j L sz hs;have HN:=z9l g L p1 sz [41] (by omega) (by omega) hs;have q41:=bS [41];unfold pB pcs at HN;simp only[vW,seval,bmV,d1];(with_reducible apply z30);simp only[vW,seval,bmV,q41];exact z1h HN
  ·cases hl
theorem zde{f:Nat}(hL:L.length≤4611686018427387904)(ih:∀f',f'<f→EOk g L sz f')(ihb:∀f',f'<f→za4 g L sz f')(n p a p':Nat)(hn0:0<n)(hn:n≤3)(hp:p≤L.length)(h:pH L sz f n 0 p []=some (.bad a p')):
  z7X Tryz.prog g 250 [.ptr 1000 0,I (n:Int)] [.box (pB L p sz)] (zQ a) [.box (pB L p' sz)]:=by
 have hml:L.length<maxLen:=by unfold maxLen;omega
 refine z8B zf tf_25 rfl rfl rfl ?_
 conv in SFunc.code _=>reduce
 unfold pB pcs zQ at*;simp only[vW,seval,bmV];refine zw (σ:={x:Nat×Nat×Nat×List V // x.1≤f∧x.2.1≤n∧x.2.2.1≤L.length∧x.2.2.2.length=x.2.1∧pH L sz x.1 n x.2.1 x.2.2.1 x.2.2.2=some (.bad a p')})
  (fun x=>⟨[(0,.ptr 1000 0),(5,.own 3000 4 (V.rows x.1.2.2.2)),(7,I (n:Int)),(8,I (x.1.2.1:Int))],[(1000,[.pv (.sl 4 (L.map pcR)),I (x.1.2.2.1:Int),I (sz:Int),z0c])],[(3000,(76,4,x.1.2.1))],[]⟩) (fun x=>x.1.1) ⟨(f,0,p,[]),Nat.le_refl _,Nat.zero_le _,hp,rfl,h⟩ ?_ ?_
 ·refine ES.Lw.trans ?_ (z6L (k:=5) (d:=3000) (e:=76) (W:=4) (.inr (by decide)) rfl);exact z0Y rfl
 rintro⟨⟨f1,k,p1,acc⟩,hf1,hk,hp1,hacc,hl⟩;simp only at hf1 hk hp1 hacc hl;cases f1 with
 |zero=>simp[pH]at hl
 |succ f1=>
 rw[pH]at hl;by_cases hkn:k<n
 ·rw[if_pos hkn]at hl;have d1:(k:Int)<(n:Int):=by omega
  by_cases hcom:0<k∧zX (pkP L sz p1) [44]=false
  ·rw[if_pos hcom]at hl;cases hl;have HN:=zao g L p' sz [44] (by omega) (by omega) hcom.2;have d0:(0:Int)<(k:Int):=by omega
   have q44:=bS [44];unfold pB pcs zQ at HN;simp only[vW,seval,bmV,d1,d0];(with_reducible apply z4s);simp only[vW,seval,bmV,q44];(with_reducible apply z2B);(· rfl);(· simp only[vW,seval,bmV];with_reducible rfl);(· exact HN);(· first|rfl|(simp only[vcA,seval];omega));(· simp only[vW,seval,bmV];with_reducible rfl);simp only[vW,seval,bmV]
  rw[if_neg hcom]at hl;have wk:=wS k;have hacc':(V.rows acc).length=k:=by rw[z1b,hacc]
  by_cases h0:0<k
  ·rw[if_pos h0]at hl;have hs:zX (pkP L sz p1) [44]=true:=by
    cases hh:zX (pkP L sz p1) [44]with
    |true=>rfl
    |false=>exact absurd ⟨h0,hh⟩ hcom
   have hlt:=z1j L sz hs;have HN:=z9l g L p1 sz [44] (by omega) (by omega) hs;have d0:(0:Int)<(k:Int):=by omega
   have q44:=bS [44];unfold pB pcs at HN;simp only[vW,seval,bmV,d1,d0];(with_reducible apply z30);simp only[vW,seval,bmV,q44];refine zU HN ?_;cases he:pE L sz f1 1 (p1+1)with
   |none=>rw[he]at hl;cases hl
   |some r=>
   cases r with
   |bad a2 q'=>
    rw[he]at hl;cases hl;have HE:=ihb f1 (by omega) 1 (p1+1) a p' (by omega) (by omega) hlt he;unfold pB pcs zQ at HE;(with_reducible apply z4s);simp only[vW,seval,bmV];(with_reducible apply z2B);(· rfl);(· simp only[vW,seval,bmV];with_reducible rfl);(· exact HE);(· first|rfl|(simp only[vcA,seval];omega));(· simp only[vW,seval,bmV];with_reducible rfl);simp only[vW,seval,bmV]
   |ok e3 p3=>
   rw[he]at hl;simp only at hl;have HE:=ih f1 (by omega) 1 (p1+1) e3 p3 (by omega) (by omega) hlt he;have hp3:=(z5M L sz f1).1 _ _ _ _ hlt he;unfold pB pcs at HE;(with_reducible apply z30);simp only[vW,seval,bmV];refine zt HE ?_;simp only[vW,seval,bmV,hacc',wk];refine⟨⟨by omega,by unfold maxLen;omega⟩,zc ⟨(f1,k+1,p3,acc++[e3]),by omega,hkn,hp3,by simp[hacc],hl⟩ (Nat.lt_succ_self f1) ?_⟩;refine z0Y ?_;simp only[z2g,I]
  ·rw[if_neg h0]at hl;obtain rfl:k=0:=by omega
   have d2:(0:Int)<(n:Int):=by omega
   have w01:IntKind.i64.wrap 1=1:=by decide
   simp only[vW,seval,bmV,d2];cases he:pE L sz f1 1 p1 with
   |none=>rw[he]at hl;cases hl
   |some r=>
   cases r with
   |bad a2 q'=>
    rw[he]at hl;cases hl;have HE:=ihb f1 (by omega) 1 p1 a p' (by omega) (by omega) hp1 he;unfold pB pcs zQ at HE;(with_reducible apply z4s);simp only[vW,seval,bmV];(with_reducible apply z2B);(· rfl);(· simp only[vW,seval,bmV];with_reducible rfl);(· exact HE);(· first|rfl|(simp only[vcA,seval];omega));(· simp only[vW,seval,bmV];with_reducible rfl);simp only[vW,seval,bmV]
   |ok e3 p3=>
   rw[he]at hl;simp only at hl;have HE:=ih f1 (by omega) 1 p1 e3 p3 (by omega) (by omega) hp1 he;have hp3:=(z5M L sz f1).1 _ _ _ _ hp1 he;unfold pB pcs at HE;(with_reducible apply z30);simp only[vW,seval,bmV];refine zt HE ?_;simp only[vW,seval,bmV,hacc',w01];refine⟨by unfold maxLen;omega,zc ⟨(f1,1,p3,acc++[e3]),by omega,hkn,hp3,by simp[hacc],hl⟩ (Nat.lt_succ_self f1) ?_⟩;refine z0Y ?_;simp only[z2g,I];rfl
 ·rw[if_neg hkn]at hl;have d1:¬(k:Int)<(n:Int):=by omega
  split at hl
  ·cases hl
  ·rename_i hs;cases hl;have HN:=zao g L p' sz [41] (by omega) (by omega) (by simpa using hs);have q41:=bS [41];unfold pB pcs zQ at HN;simp only[vW,seval,bmV,d1];(with_reducible apply z4s);simp only[vW,seval,bmV,q41];(with_reducible apply z2B);(· rfl);(· simp only[vW,seval,bmV];with_reducible rfl);(· exact HN);(· first|rfl|(simp only[vcA,seval];omega));(· simp only[vW,seval,bmV];with_reducible rfl);simp only[vW,seval,bmV]
theorem zex(k n:Int)(t:zB):Wk (nv (.mk k n t [])) (tv (.mk k n t [])):=z3s rfl
theorem zfU{f:Nat}(hL:L.length≤4611686018427387904)(ih:∀f',f'<f→EOk g L sz f'∧za4 g L sz f'∧TOk g L sz f'∧zbD g L sz f'):TOk g L sz f:=by
 intro p e p' hp h;have hml:L.length<maxLen:=by unfold maxLen;omega
 cases f with
 |zero=>simp[pT]at h
 |succ f=>
 have T40:=z45 g L p sz [40] (by omega) (by omega);have T45:=z45 g L p sz [45] (by omega) (by omega);have q40:=bS [40];have q41:=bS [41];have q45:=bS [45];rw[pT]at h;by_cases h40:zX (pkP L sz p) [40]=true
 ·rw[if_pos h40]at h;rw[h40,if_pos rfl]at T40;have hlt:=z1j L sz h40;cases he:pE L sz f 1 (p+1)with
  |none=>rw[he]at h;cases h
  |some r=>
  cases r with
  |bad a q'=>rw[he]at h;cases h
  |ok e1 p1=>
  rw[he]at h;simp only at h;split at h
  ·rename_i h41;cases h;have HE:=(ih f (Nat.lt_succ_self f)).1 1 (p+1) e p1 (by omega) (by omega) hlt he;have hp1:=(z5M L sz f).1 _ _ _ _ hlt he;have HN:=z9l g L p1 sz [41] (by omega) (by omega) h41;refine zp tf_26 ?_;unfold pB pcs B at*;simp only[vW,seval,bmV,q40];refine zU T40 ?_;(with_reducible apply z30);simp only[vW,seval,bmV];refine zU HE ?_;(with_reducible apply z30);simp only[vW,seval,bmV,q41];exact z1h HN
  ·cases h
 have h40:zX (pkP L sz p) [40]=false:=by simpa using h40
 rw[h40,if_neg (by simp)]at T40;rw[if_neg (by simp[h40])]at h;by_cases h45:zX (pkP L sz p) [45]=true
 ·rw[if_pos h45]at h;rw[h45,if_pos rfl]at T45;have hlt:=z1j L sz h45;cases he:pT L sz f (p+1)with
  |none=>rw[he]at h;cases h
  |some r=>
  cases r with
  |bad a q'=>rw[he]at h;cases h
  |ok e1 p1=>
  rw[he]at h;cases h;have HE:=(ih f (Nat.lt_succ_self f)).2.2.1 (p+1) e1 p' hlt he;refine zp tf_26 ?_;unfold pB pcs B at*;simp only[vW,seval,bmV,q40];refine zt T40 ?_;simp only[vW,seval,bmV,q45];refine zU T45 ?_;(with_reducible apply z30);simp only[vW,seval,bmV];refine zt HE ?_;simp only[vW,seval,bmV,q45];rw[show V.rows [e1]=[V.row e1] from rfl,z1k]
 have h45:zX (pkP L sz p) [45]=false:=by simpa using h45
 rw[h45,if_neg (by simp)]at T45;rw[if_neg (by simp[h45])]at h;have HP:=z4E g L p sz (by omega);have w1:IntKind.i64.wrap ((p:Int)+1)=((p+1:Nat):Int):=by unfold maxLen at hml;rw[wrap64 (by omega) (by omega)];omega
 have hin:=fun hk=>z5o L sz (p:=p) rfl hk;generalize hq:pkP L sz p=q at*;by_cases k1:q.k=1
 ·rw[if_pos k1]at h;cases h;refine SCalls.out ?_ (zex 1 q.n []);refine zp tf_26 ?_;unfold pB pcs B pcT at*;simp only[vW,seval,bmV,q40];refine zt T40 ?_;simp only[vW,seval,bmV,q45];refine zU T45 ?_;refine zt HP ?_;simp only[vW,seval,bmV,k1,w1];rfl
 rw[if_neg k1]at h;by_cases k2:q.k=2
 ·rw[if_pos k2]at h;cases h;refine SCalls.out ?_ (zex 2 0 q.s);refine zp tf_26 ?_;unfold pB pcs B pcT at*;simp only[vW,seval,bmV,q40];refine zt T40 ?_;simp only[vW,seval,bmV,q45];refine zU T45 ?_;refine zt HP ?_;simp only[vW,seval,bmV,k2,w1]
 rw[if_neg k2]at h;by_cases k3:q.k=3
 ·rw[if_pos k3]at h;have hlt:=hin (by rw[k3];decide);have HK:=zaD g q.s;obtain⟨t0,t3⟩:=zcR q.s;have T2:=z45 g L (p+1) sz [40] (by omega) (by omega);have hin2:zX (pkP L sz (p+1)) [40]=true→p+1<L.length:=fun h=>z1j L sz h;generalize zX (pkP L sz (p+1)) [40]=b at*;generalize ht:zq q.s=t at*;by_cases hc:0<t∧b=true
  ·rw[if_pos hc]at h;obtain⟨hc1,rfl⟩:=hc;rw[if_pos rfl]at T2;cases he:pH L sz f t.toNat 0 (p+2) []with
   |none=>rw[he]at h;cases h
   |some r=>
   cases r with
   |bad a q'=>rw[he]at h;cases h
   |ok l p1=>
   rw[he]at h;cases h;have HH:=zfa hL (fun f' hf'=>(ih f' (by omega)).1) t.toNat (p+2) l p' (by omega) (by omega) (hin2 rfl) he;have ht2:((t.toNat:Nat):Int)=t:=by omega
   rw[ht2]at HH;refine zp tf_26 ?_;unfold pB pcs B pcT at*;simp only[vW,seval,bmV,q40];refine zt T40 ?_;simp only[vW,seval,bmV,q45];refine zU T45 ?_;refine zt HP ?_;simp only[vW,seval,bmV,k3,w1];refine z7 HK ?_;simp only[vW,seval,bmV,hc1,q40];refine zU T2 ?_;(with_reducible apply z30);simp only[vW,seval,bmV];exact z1h HH
  ·rw[if_neg hc]at h;cases h;refine SCalls.out ?_ (zex 3 0 q.s);refine zp tf_26 ?_;unfold pB pcs B pcT at*;simp only[vW,seval,bmV,q40];refine zt T40 ?_;simp only[vW,seval,bmV,q45];refine zU T45 ?_;refine zt HP ?_;simp only[vW,seval,bmV,k3,w1];refine z7 HK ?_;by_cases hc1:0<t
   ·have hb:b=false:=by simpa [hc1]using hc
    rw[hb,if_neg (by simp)]at T2;simp only[vW,seval,bmV,hc1,q40];exact z1h T2
   ·simp only[vW,seval,bmV,hc1]
 rw[if_neg k3]at h;cases h
theorem zfb{f:Nat}(hL:L.length≤4611686018427387904)(ih:∀f',f'<f→EOk g L sz f'∧za4 g L sz f'∧TOk g L sz f'∧zbD g L sz f'):zbD g L sz f:=by
 intro p a p' hp h;have hml:L.length<maxLen:=by unfold maxLen;omega
 cases f with
 |zero=>simp[pT]at h
 |succ f=>
 have T40:=z45 g L p sz [40] (by omega) (by omega);have T45:=z45 g L p sz [45] (by omega) (by omega);have q40:=bS [40];have q41:=bS [41];have q45:=bS [45];rw[pT]at h;refine z8B zf tf_26 rfl rfl rfl ?_
 conv in SFunc.code _=>reduce
 by_cases h40:zX (pkP L sz p) [40]=true
 ·rw[if_pos h40]at h;rw[h40,if_pos rfl]at T40;have hlt:=z1j L sz h40;unfold pB pcs B zQ at*;simp only[vW,seval,bmV,q40];refine zU T40 ?_;cases he:pE L sz f 1 (p+1)with
  |none=>rw[he]at h;cases h
  |some r=>
  cases r with
  |bad a q'=>
   rw[he]at h;cases h;have HE:=(ih f (Nat.lt_succ_self f)).2.1 1 (p+1) a p' (by omega) (by omega) hlt he;unfold pB pcs zQ at HE;(with_reducible apply z4s);simp only[vW,seval,bmV];(with_reducible apply z2B);(· rfl);(· simp only[vW,seval,bmV];with_reducible rfl);(· exact HE);(· first|rfl|(simp only[vcA,seval];omega));(· simp only[vW,seval,bmV];with_reducible rfl);simp only[vW,seval,bmV]
  |ok e1 p1=>
  rw[he]at h;simp only at h;have HE:=(ih f (Nat.lt_succ_self f)).1 1 (p+1) e1 p1 (by omega) (by omega) hlt he;have hp1:=(z5M L sz f).1 _ _ _ _ hlt he;unfold pB pcs at HE;(with_reducible apply z30);simp only[vW,seval,bmV];refine zU HE ?_;split at h
  ·cases h
  ·rename_i h41;cases h;have HN:=zao g L p' sz [41] (by omega) (by omega) (by simpa using h41);unfold pB pcs zQ at HN;(with_reducible apply z4s);simp only[vW,seval,bmV,q41];(with_reducible apply z2B);(· rfl);(· simp only[vW,seval,bmV];with_reducible rfl);(· exact HN);(· first|rfl|(simp only[vcA,seval];omega));(· simp only[vW,seval,bmV];with_reducible rfl);simp only[vW,seval,bmV]
 have h40:zX (pkP L sz p) [40]=false:=by simpa using h40
 rw[h40,if_neg (by simp)]at T40;rw[if_neg (by simp[h40])]at h;by_cases h45:zX (pkP L sz p) [45]=true
 ·rw[if_pos h45]at h;rw[h45,if_pos rfl]at T45;have hlt:=z1j L sz h45;unfold pB pcs B zQ at*;simp only[vW,seval,bmV,q40];refine zt T40 ?_;simp only[vW,seval,bmV,q45];refine zU T45 ?_;cases he:pT L sz f (p+1)with
  |none=>rw[he]at h;cases h
  |some r=>
  cases r with
  |ok e1 q'=>rw[he]at h;cases h
  |bad a q'=>
  rw[he]at h;cases h;have HE:=(ih f (Nat.lt_succ_self f)).2.2.2 (p+1) a p' hlt he;unfold pB pcs zQ at HE;(with_reducible apply z4s);simp only[vW,seval,bmV];(with_reducible apply z2B);(· rfl);(· simp only[vW,seval,bmV];with_reducible rfl);(· exact HE);(· first|rfl|(simp only[vcA,seval];omega));(· simp only[vW,seval,bmV];with_reducible rfl);simp only[vW,seval,bmV]
 have h45:zX (pkP L sz p) [45]=false:=by simpa using h45
 rw[h45,if_neg (by simp)]at T45;rw[if_neg (by simp[h45])]at h;have HP:=z4E g L p sz (by omega);have w1:IntKind.i64.wrap ((p:Int)+1)=((p+1:Nat):Int):=by unfold maxLen at hml;rw[wrap64 (by omega) (by omega)];omega
 have hin:=fun hk=>z5o L sz (p:=p) rfl hk;have HK:=zaD g (pkP L sz p).s;have T2:=z45 g L (p+1) sz [40] (by omega);have hin2:zX (pkP L sz (p+1)) [40]=true→p+1<L.length:=fun h=>z1j L sz h;generalize zX (pkP L sz (p+1)) [40]=b at*;generalize hq:pkP L sz p=q at*;unfold pB pcs B pcT zQ at*;simp only[vW,seval,bmV,q40];refine zt T40 ?_;simp only[vW,seval,bmV,q45];refine zU T45 ?_;refine zt HP ?_;by_cases k1:q.k=1
 ·rw[if_pos k1]at h;cases h
 rw[if_neg k1]at h;by_cases k2:q.k=2
 ·rw[if_pos k2]at h;cases h
 rw[if_neg k2]at h;by_cases k3:q.k=3
 ·rw[if_pos k3]at h;have hlt:=hin (by rw[k3];decide);obtain⟨t0,t3⟩:=zcR q.s;have T2:=T2 (by omega);generalize ht:zq q.s=t at*;by_cases hc:0<t∧b=true
  ·rw[if_pos hc]at h;obtain⟨hc1,rfl⟩:=hc;rw[if_pos rfl]at T2;cases he:pH L sz f t.toNat 0 (p+2) []with
   |none=>rw[he]at h;cases h
   |some r=>
   cases r with
   |ok l p1=>rw[he]at h;cases h
   |bad a q'=>
   rw[he]at h;cases h;have HH:=zde hL (fun f' hf'=>(ih f' (by omega)).1) (fun f' hf'=>(ih f' (by omega)).2.1) t.toNat (p+2) a p' (by omega) (by omega) (hin2 rfl) he;have ht2:((t.toNat:Nat):Int)=t:=by omega
   rw[ht2]at HH;unfold pB pcs zQ at HH;simp only[vW,seval,bmV,k3,w1];refine z7 HK ?_;simp only[vW,seval,bmV,hc1,q40];refine zU T2 ?_;(with_reducible apply z4s);simp only[vW,seval,bmV];(with_reducible apply z2B);(· rfl);(· simp only[vW,seval,bmV];with_reducible rfl);(· exact HH);(· first|rfl|(simp only[vcA,seval];omega));(· simp only[vW,seval,bmV];with_reducible rfl);simp only[vW,seval,bmV]
  ·rw[if_neg hc]at h;cases h
 rw[if_neg k3]at h;cases h;simp only[vW,seval,bmV,k1,k2,k3,w1];(with_reducible apply z4s);simp only[vW,seval,bmV]
theorem z8C(hL:L.length≤4611686018427387904)(f:Nat):EOk g L sz f∧za4 g L sz f∧TOk g L sz f∧zbD g L sz f:=by
 induction f using Nat.strongRecOn with
 |_ f ih=>exact⟨zho hL ih,zfu hL ih,zfU hL ih,zfb hL ih⟩
end
end
section
open Go.Sh.Cd4
def p0T(r:Option (Pc×Nat)):TV:=match r with
 |some (q,z)=> .tuple [.agg [I q.k,I q.n,S (str q.s),I 0],I (z:Int)]
 |none=> .tuple [.agg [I 0,I 0,S (str []),I 0],I 0]
def zlW(l:zB):Option (Pc×Nat):=if 1000000000000000<(z15 l 0 0).1 then none else some (⟨1,(z15 l 0 0).1,[],0⟩,(z15 l 0 0).2)
theorem zd7(g:Sh.Glob)(l:zB)(hl:l.length<4611686018427387904):zC g 204 [S (str l)] [] (p0T (zlW l)) []:=by
 unfold zlW;generalize hR:z15 l 0 0=R;refine z0s tf_102 ?_;refine zw (σ:={ q:Int×Nat // 0≤q.1∧q.1≤1000000000000001∧q.2≤l.length∧z15 (l.drop q.2) q.1 q.2=R })
  (fun q=>⟨[(0,S (str l)),(2,.ptr 2 0),(4,I q.1.1),(5,I (q.1.2:Int))],[(2,[I 0,I 0,S ⟨#[]⟩,I 0])],[],[]⟩) (fun q=>l.length-q.1.2) ⟨(0,0),by decide,by decide,Nat.zero_le _,hR⟩ ?_ ?_
 ·exact lwA
 rintro⟨⟨n,z⟩,h0,h1,hz,hd⟩;simp only at h0 h1 hz hd;by_cases hk:z<l.length
 ·have d1:(z:Int)<(l.length:Int):=by omega
  obtain⟨c,ec⟩:∃c,l[z]?=some c:=⟨_,gE hk⟩
  rw[z1M ec,z15]at hd;have hc:=c.toNat_lt;by_cases q1:48≤c.toNat
  ·have d2:(48:Int)≤(c.toNat:Int):=by omega
   by_cases q2:c.toNat≤57
   ·have d3:(c.toNat:Int)≤57:=by omega
    rw[if_pos (by unfold z1v;simp[q1,q2])]at hd;have w0:IntKind.i64.wrap (10*n)=10*n:=wrap64 (by omega) (by omega);have w1:IntKind.u8.wrap ((c.toNat:Int) - 48)=(c.toNat:Int) - 48:=by rw[IntKind.wrap_u8];omega
    have w2:IntKind.i64.wrap ((c.toNat:Int) - 48)=(c.toNat:Int) - 48:=wrap64 (by omega) (by omega);have w3:IntKind.i64.wrap (10*n+((c.toNat:Int) - 48))=10*n+((c.toNat:Int) - 48):=wrap64 (by omega) (by omega);have w4:=wS z;simp only[vW,seval,d1,d2,d3,ec,w0,w1,w2,w3,w4];refine zc ⟨(min (10*n+((c.toNat:Int) - 48)) 1000000000000001,z+1),by omega,by omega,hk,hd⟩ (by show l.length-(z+1)<l.length-z;omega) ?_;exact lwA
   ·have d3:¬(c.toNat:Int)≤57:=by omega
    rw[if_neg (by unfold z1v;simp[q2])]at hd;subst hd;by_cases hn:1000000000000000<n
    ·simp only[vW,seval,d1,d2,d3,ec,hn,p0T];rfl
    ·simp only[vW,seval,d1,d2,d3,ec,hn,p0T];rfl
  ·have d2:¬(48:Int)≤(c.toNat:Int):=by omega
   rw[if_neg (by unfold z1v;simp[q1])]at hd;subst hd;by_cases hn:1000000000000000<n
   ·simp only[vW,seval,d1,d2,ec,hn,p0T];rfl
   ·simp only[vW,seval,d1,d2,ec,hn,p0T];rfl
 ·have d1:¬(z:Int)<(l.length:Int):=by omega
  rw[List.drop_eq_nil_of_le (by omega),z15]at hd;subst hd;by_cases hn:1000000000000000<n
  ·simp only[vW,seval,d1,hn,p0T];rfl
  ·simp only[vW,seval,d1,hn,p0T];rfl
theorem z7S(g:Sh.Glob)(l:zB)(hl:l.length<4611686018427387904):zC g 244 [S (str l)] [] (B (zb l)) []:=by
 refine za tf_104 ?_;have HR:=zbG g l hl;unfold B at*;simp only[vW,seval];exact zd HR
theorem z7T(m:Nat)(l:zB)(hl:l.length<4611686018427387904):zC (gl0 m) 245 [S (str l)] [] (B (zh l)) []:=by
 refine za tf_105 ?_;have HR:=zbp m (.mk 2 0 l []) ⟨by unfold z1P V.s;simp only;omega,by simp[V.l]⟩;have hk:z14 (.mk 2 0 l [])=zh l:=by unfold z14 z0U;simp[V.k,V.n,V.l,V.s]
 rw[hk]at HR;have HR:=HR.inp (xs:=[nv (.mk 2 0 l [])]) rfl (fun j c d hc hd=>by
  match j with
  |0=>simp at hc hd;subst hc;subst hd;exact z3s rfl
  |j+1=>simp at hc)
 unfold B nv at*;simp only[vW,seval];exact zd HR
inductive ESmall:V→Prop where
 |mk {k n:Int} {s:zB} {l:List V} (h:l.length<4611686018427387904) (ht:s.length<4611686018427387904) (hs:∀y∈l,ESmall y):ESmall (.mk k n s l)
theorem ESmall.len{x:V}(h:ESmall x):x.l.length<4611686018427387904:=by cases h;assumption
theorem ESmall.txt{x:V}(h:ESmall x):x.s.length<4611686018427387904:=by cases h;assumption
theorem ESmall.sub{x y:V}(h:ESmall x)(hy:y∈x.l):ESmall y:=by cases h with|mk _ _ hs=>exact hs y hy
theorem zoN(s t:zB):(s==t)=decide (s=t):=by rw[Bool.eq_iff_iff];simp
theorem znX(m:Nat)(e:V)(he:ESmall e)(n:Int):zC (gl0 m) 209 [.ptr 1000 0,tv e] [.box [z0c,I n]] (B (z0y e)) [.box [z0c,I n]]:=by
 refine zp tf_22 ?_;have HT:=z7T m e.s he.txt;have HN:=z7S (gl0 m) e.s he.txt;have HK:=zaD (gl0 m) e.s;have e0:=bS [];have hlen0:decide ((e.l.length:Int)=0)=(e.l.length==0):=by rw[Bool.eq_iff_iff];simp
 have hlen1:decide ((e.l.length:Int)=1)=(e.l.length==1):=by rw[Bool.eq_iff_iff];simp;omega
 have hlen2:decide ((e.l.length:Int)=2)=(e.l.length==2):=by rw[Bool.eq_iff_iff];simp;omega
 have e45:=bS [45];unfold B at*;unfold z0y;by_cases k1:e.k=1
 ·rw[if_neg (by simp[k1]),if_pos k1];simp only[vW,seval,bmV,k1,e0,zoN]
  repeat' (first|(apply And.intro)|(intro _))
  all_goals(first|(simp_all;done)|(simp only[Option.some.injEq,Prod.mk.injEq,TV.pv.injEq,PV.v.injEq,Value.bool.injEq];rw[Bool.eq_iff_iff];simp_all<;>omega))
 by_cases n0:e.n=0
 ·rw[if_neg (by simp[n0]),if_neg k1];by_cases k2:e.k=2
  ·rw[if_pos k2];simp only[vW,seval,bmV,k2,n0];refine z7 HT ?_;cases zh e.s
   ·simp only[vW,seval,bmV]
   ·simp only[vW,seval,bmV,hlen0,Bool.true_and]
  rw[if_neg k2];by_cases k3:e.k=3
  ·rw[if_pos k3];simp only[vW,seval,bmV,k3,n0];refine z7 HN ?_;cases zb e.s
   ·simp only[vW,seval,bmV]
   ·simp only[vW,seval,bmV,hlen0,Bool.true_and]
  rw[if_neg k3];by_cases k4:e.k=4
  ·rw[if_pos k4];simp only[vW,seval,bmV,k4,n0];refine⟨fun h=> ?_,fun h=> ?_⟩
   ·rw[decide_eq_true h,hlen2,Bool.true_and]
   ·rw[decide_eq_false h,Bool.false_and]
  rw[if_neg k4];by_cases k5:e.k=5
  ·rw[if_pos k5];simp only[vW,seval,bmV,k5,n0,e45];cases e.s==[45]
   ·simp only[vW,seval,bmV]
   ·simp only[vW,seval,bmV,hlen1,Bool.true_and]
  rw[if_neg k5];by_cases k6:e.k=6
  ·rw[if_pos k6];simp only[vW,seval,bmV,k6,n0];refine z7 HK ?_;simp only[vW,seval,bmV];refine⟨fun h=> ?_,fun h=> ?_⟩
   ·refine z7 HK ?_;simp only[vW,seval,bmV,h]
   ·rw[decide_eq_false h,Bool.false_and]
  ·rw[if_neg k6];simp only[vW,seval,bmV,k1,k2,k3,k4,k5,k6,n0]
 ·rw[if_pos ⟨k1,n0⟩];simp only[vW,seval,bmV,k1,n0]
end
end Go.Proofs.YtcpaleaajdilgaaGreatDoor
end
