/- Merged texts: Px2 Cd6 Pe5 Pe6 PFits Pe10 Zh8 Zi4. No statement of the program is proved here. -/
import Derived.Test.YtmiokadmddjccaaGreatDoorM1
import Derived.Test.YtmiokadmddjccaaGreatDoorM2
import Derived.Test.YtmiokadmddjccaaGreatDoorM3
import Derived.Test.YtmiokadmddjccaaGreatDoorM4
import Derived.Test.YtmiokadmddjccaaGreatDoorM5
import Derived.Test.YtmiokadmddjccaaGreatDoorM6
set_option linter.unusedSimpArgs false
set_option linter.unusedVariables false
section
namespace Go.Mor
open Go
set_option maxHeartbeats 2000000
theorem z169{s:List UInt8}(h:z13 s=true):∃b r,s=b::r∧small b=true∧s.all nameB=true:=by
 unfold z13 at h;simp only[Bool.and_eq_true,decide_eq_true_eq]at h;obtain⟨⟨⟨h1,_⟩,h2⟩,h3⟩:=h;cases s with
 |nil=>simp at h1
 |cons b r=>exact⟨b,r,rfl,by simpa using h2,h3⟩
end Go.Mor
end

section
namespace Go.Sh.Cd6
open Go Go.Sh
set_option maxRecDepth 100000
abbrev c_74_0:=kV [4] [kO 4 0,kT 8 false] [0,8]
abbrev c_74_1:=kV [2100,2101,2102,2103] [oD 25 (.call 31 0 []),oM 9 25] [25]
abbrev c_74_2:=kV [2108,2109,2110,2111,10] [oL 26 true 2 4,kC 27 21 0 26,oD 10 (.new [(.string ⟨#[]⟩),(.slice none 0 0)]),kS 2 10 27] [4,26,27]
abbrev c_74_3:=kV [2120,2121,2122,2123,11] [oM 28 3,oL 29 true 2 10,oD 30 (.call 32 0 [.tmp 28,.tmp 29,vI 1]),oD 11 (.new zV),kS 4 11 30] [3,28,29,30]
abbrev c_74_4:=kV [2132,2133,2134,2135] [oL 31 true 2 10,oM 32 1,oD 33 (.call 22 0 [.tmp 31,.tmp 32,vI 9]),oM 12 33] [1,31,32,33]
abbrev c_74_5:=kV [2144,2145,2146,2147] [oL 34 true 2 10,oM 35 2,oD 36 (.call 22 0 [.tmp 34,.tmp 35,vI 9]),oM 13 36] [2,34,35,36]
abbrev c_74_6:=kR [oD 14 (.mov (.val (.slice none 0 0)))] []
abbrev c_74_7:=kR [kI 15 0] []
abbrev c_74_8:=kR [oM 37 15,kA 38 1 10,oL 39 false 1 38,kZ 40 39,kB 41 .lss 3 37 40] [37,38,39,40]
abbrev c_74_9:=kV [2204,2205,2206,2207] [oL 44 true 4 11,kA 45 1 10,oL 46 false 1 45,oM 47 15,kX 48 4 46 47,kA 49 0 48,oL 50 false 1 49,kD 51 33 0 44 50] [41,44,45,46,47,48,49,50]
abbrev c_74_10:SCode:=.reg [([],[oM 52 14,oM 53 12,oM 54 15,kX 55 4 53 54,oL 56 true 4 55,oD 57 (.bsl 4 [.tmp 56]),oD 58 (.app 49 4 56 (.tmp 52) (.tmp 57)),oM 14 58]),([58],[oM 52 14,oM 53 12,oM 54 15,kX 55 4 53 54,oL 56 true 4 55,oD 57 (.bsl 4 [.tmp 56]),oD 58 (.appN 49 4 56 (.tmp 52) (.tmp 57)),oM 14 58])] [51,52,53,54,55,56,57,58]
abbrev c_74_11:SCode:=.reg [([],[oM 59 14,oM 60 13,oM 61 15,kX 62 4 60 61,oL 63 true 4 62,oD 64 (.bsl 4 [.tmp 63]),oD 65 (.app 49 4 56 (.tmp 59) (.tmp 64)),oM 14 65]),([65],[oM 59 14,oM 60 13,oM 61 15,kX 62 4 60 61,oL 63 true 4 62,oD 64 (.bsl 4 [.tmp 63]),oD 65 (.appN 49 4 56 (.tmp 59) (.tmp 64)),oM 14 65])] [51,59,60,61,62,63,64,65]
abbrev c_74_12:=kR [oM 42 15,kK 43 .add 3 42 1,oM 15 43] [42,43]
abbrev c_74_13:SCode:=(.seq (.seq c_74_8 (.cond (.tmp 41) .skip (.exit 0))) (.seq (.block 1 (.seq c_74_9 (.cond (.tmp 51) c_74_10 c_74_11))) c_74_12))
abbrev c_74_14:=kV [2280,2281,2282,2283,16] [oL 67 true 4 11,oL 68 true 2 10,oM 69 12,kE 70 34 0 67 68 69,oM 66 70,kY 71 66 0,kY 72 66 1,oD 16 (.new zV),kS 4 16 71,oM 17 72] [13,15,66,67,68,69,70,71,72]
abbrev c_74_15:=kV [2308,2309,2310,2311,18] [oL 74 true 4 11,oL 75 true 2 10,oM 76 14,kE 77 34 0 74 75 76,oM 73 77,kY 78 73 0,kY 79 73 1,oD 18 (.new zV),kS 4 18 78,oM 19 79] [14,73,74,75,76,77,78,79]
abbrev c_74_16:=kV [20] [oD 80 (.build [(.string ⟨#[]⟩),(.slice none 0 0)] [(0,1,(.val (.string ⟨#[111,116,104,101,114]⟩)))]),oD 20 (.new [(.string ⟨#[]⟩),(.slice none 0 0)]),kS 2 20 80] [80]
abbrev c_74_17:=kR [kI 21 0] []
abbrev c_74_18:=kR [oM 81 21,kA 82 1 10,oL 83 false 1 82,kZ 84 83,kB 85 .lss 3 81 84] [81,82,83,84]
abbrev c_74_19:=kV [22] [kA 88 1 10,oL 89 false 1 88,oM 90 21,kX 91 4 89 90,oL 92 true 4 91,oD 22 (.new [(.string ⟨#[]⟩),(.int .i64 0),(.int .i64 0),(.bool false)]),kS 4 22 92] [85,88,89,90,91,92]
abbrev c_74_20:=kR [kA 93 0 22,oL 94 false 1 93,oD 95 (.bin .add 9 (.val (.string ⟨#[122]⟩)) (.tmp 94)),kA 96 0 22,kS 1 96 95] [93,94,95,96]
abbrev c_74_21:SCode:=.reg [([],[kA 97 1 20,oL 98 false 1 97,oL 99 true 4 22,oD 100 (.bsl 4 [.tmp 99]),oD 101 (.app 62 4 40 (.tmp 98) (.tmp 100)),kA 102 1 20,kS 1 102 101]),([101],[kA 97 1 20,oL 98 false 1 97,oL 99 true 4 22,oD 100 (.bsl 4 [.tmp 99]),oD 101 (.appN 62 4 40 (.tmp 98) (.tmp 100)),kA 102 1 20,kS 1 102 101])] [22,97,98,99,100,101,102]
abbrev c_74_22:=kR [oM 86 21,kK 87 .add 3 86 1,oM 21 87] [86,87]
abbrev c_74_23:SCode:=(.seq (.seq c_74_18 (.cond (.tmp 85) .skip (.exit 2))) (.seq (.block 3 (.seq c_74_19 (.seq c_74_20 c_74_21))) c_74_22))
abbrev c_74_24:=kV [2420,2421,2422,2423,2432,2433,2434,2435,23] [oL 104 true 4 11,kC 105 35 0 104,oL 106 true 2 20,oM 107 12,kE 108 34 0 105 106 107,oM 103 108,kY 109 103 0,kY 110 103 1,oD 23 (.new zV),kS 4 23 109,oM 24 110] [10,11,12,20,21,103,104,105,106,107,108,109,110]
abbrev c_74_25:=kV [2508,2509,2510,2511,2528,2529,2530,2531] [oM 111 9,oM 112 111,oH 113 112 true 17,kG 114 112 true .eql 28 113 0,oP 115 112 114 false,oM 116 115,oH 117 116 true 19,kG 118 116 true .eql 28 117 0,oP 119 116 118 false,oM 120 119,oH 121 120 true 24,kG 122 120 true .eql 28 121 0,oP 123 120 122 false,oM 124 123,kL 125 124 true true 4 16,kL 126 124 true true 4 18,oG 127 124 true (.call 36 0 [.tmp 125,.tmp 126]),oP 128 124 127 false,oM 129 128,kL 130 129 true true 4 16,kL 131 129 true true 4 23,oG 132 129 true (.call 36 0 [.tmp 130,.tmp 131]),oP 133 129 132 false,oM 8 133] [9,16,17,18,19,23,24,111,112,113,114,115,116,117,118,119,120,121,122,123,124,125,126,127,128,129,130,131,132,133]
abbrev F_74:SFunc:=⟨134,(.seq c_74_0 (.seq c_74_1 (.seq c_74_2 (.seq c_74_3 (.seq c_74_4 (.seq c_74_5 (.seq c_74_6 (.seq (.seq c_74_7 (.block 0 (.loop c_74_13))) (.seq c_74_14 (.seq c_74_15 (.seq c_74_16 (.seq (.seq c_74_17 (.block 2 (.loop c_74_23))) (.seq c_74_24 (.seq c_74_25 .ret)))))))))))))),[.tmp 8],false⟩
theorem tf_74:z6 Go.Proofs.Tryz.prog 6 (hintT [(25,0),(27,0),(30,0),(33,0),(36,0),(51,0),(57,0),(64,0),(70,0),(77,0),(100,0),(105,0),(108,0),(127,0),(132,0)]) (fpT []) (killT [(0,[0,8]),(1,[25]),(2,[4,26,27]),(3,[3,28,29,30]),(4,[1,31,32,33]),(5,[2,34,35,36]),(8,[37,38,39,40]),(10,[41,44,45,46,47,48,49,50]),(11,[51,52,53,54,55,56,57,58]),(12,[51,59,60,61,62,63,64,65]),(9,[42,43]),(13,[13,15,66,67,68,69,70,71,72]),(14,[14,73,74,75,76,77,78,79]),(15,[80]),(17,[81,82,83,84]),(19,[85,88,89,90,91,92]),(20,[93,94,95,96]),(21,[22,97,98,99,100,101,102]),(18,[86,87]),(22,[10,11,12,20,21,103,104,105,106,107,108,109,110]),(23,[9,16,17,18,19,23,24,111,112,113,114,115,116,117,118,119,120,121,122,123,124,125,126,127,128,129,130,131,132,133])]) false=some F_74:=by kernel_rfl
abbrev c_81_0:=kV [2] [kO 2 0,kT 4 false] [0,4]
abbrev c_81_1:=kR [kA 7 0 2,oL 8 false 1 7,kK 9 .eql 3 8 3,oM 10 9,kF 11 10 true 2 2,kL 12 10 true false 1 11,oH 13 10 true 1,kH 14 10 true .eql 9 12 13,oP 15 10 14 false] [7,8,9,10,11,12,13,14]
abbrev c_81_2:=kR [kT 4 true] [1,2,15]
abbrev c_81_3:=kR [kI 5 0] [4,15]
abbrev c_81_4:=kR [oM 16 5,kA 17 3 2,oL 18 false 1 17,kZ 19 18,kB 20 .lss 3 16 19] [16,17,18,19]
abbrev c_81_5:=kV [2116,2117,2118,2119] [kA 23 3 2,oL 24 false 1 23,oM 25 5,kX 26 4 24 25,oL 27 true 4 26,oM 28 1,kD 29 33 0 27 28,oM 6 29] [20,23,24,25,26,27,28,29]
abbrev c_81_6:=kR [oM 30 6] [6]
abbrev c_81_7:=kR [kT 4 true] [1,2,5,30]
abbrev c_81_8:=kR [oM 21 5,kK 22 .add 3 21 1,oM 5 22] [4,21,22,30]
abbrev c_81_9:SCode:=(.seq (.seq c_81_4 (.cond (.tmp 20) .skip (.exit 0))) (.seq (.block 1 (.seq c_81_5 (.seq c_81_6 (.cond (.tmp 30) (.seq c_81_7 .ret) .skip)))) c_81_8))
abbrev c_81_10:=kR [kT 4 false] [1,2,5]
abbrev F_81:SFunc:=⟨31,(.seq c_81_0 (.seq (.seq c_81_1 (.cond (.tmp 15) (.seq c_81_2 .ret) .skip)) (.seq (.seq c_81_3 (.block 0 (.loop c_81_9))) (.seq c_81_10 .ret)))),[.tmp 4],false⟩
theorem tf_81:z6 Go.Proofs.Tryz.prog 33 (hintT [(29,0)]) (fpT []) (killT [(0,[0,4]),(1,[7,8,9,10,11,12,13,14]),(2,[1,2,15]),(3,[4,15]),(4,[16,17,18,19]),(6,[20,23,24,25,26,27,28,29]),(7,[6]),(8,[1,2,5,30]),(5,[4,21,22,30]),(9,[1,2,5])]) false=some F_81:=by kernel_rfl
abbrev c_84_0:=kV [1,2] [kO 1 0,oD 2 (.new zV)] [0]
abbrev c_84_1:=kR [kA 6 0 1,oL 7 false 1 6,kK 8 .eql 3 7 3] [6,7]
abbrev c_84_2:=kR [kA 9 2 1,oL 10 false 1 9,oD 11 (.bin .add 9 (.val (.string ⟨#[122]⟩)) (.tmp 10)),kA 12 2 1,kS 1 12 11] [8,9,10,11,12]
abbrev c_84_3:=kR [oD 3 (.mov (.val (.slice none 0 0)))] [8]
abbrev c_84_4:=kR [kI 4 0] []
abbrev c_84_5:=kR [oM 13 4,kA 14 3 1,oL 15 false 1 14,kZ 16 15,kB 17 .lss 3 13 16] [13,14,15,16]
abbrev c_84_6:=kV [2100,2101,2102,2103,5] [kA 20 3 1,oL 21 false 1 20,oM 22 4,kX 23 4 21 22,oL 24 true 4 23,kC 25 35 0 24,oD 5 (.new zV),kS 4 5 25] [17,20,21,22,23,24,25]
abbrev c_84_7:SCode:=.reg [([],[oM 26 3,oL 27 true 4 5,oD 28 (.bsl 4 [.tmp 27]),oD 29 (.app 26 4 56 (.tmp 26) (.tmp 28)),oM 3 29]),([29],[oM 26 3,oL 27 true 4 5,oD 28 (.bsl 4 [.tmp 27]),oD 29 (.appN 26 4 56 (.tmp 26) (.tmp 28)),oM 3 29])] [5,26,27,28,29]
abbrev c_84_8:=kR [oM 18 4,kK 19 .add 3 18 1,oM 4 19] [18,19]
abbrev c_84_9:SCode:=(.seq (.seq c_84_5 (.cond (.tmp 17) .skip (.exit 0))) (.seq (.block 1 (.seq c_84_6 c_84_7)) c_84_8))
abbrev c_84_10:=kR [oM 30 3,kA 31 3 1,kS 1 31 30] [3,4,30,31]
abbrev c_84_11:=kR [oL 32 true 4 1,kS 4 2 32] [1,32]
abbrev F_84:SFunc:=⟨33,(.seq c_84_0 (.seq (.seq c_84_1 (.cond (.tmp 8) c_84_2 .skip)) (.seq c_84_3 (.seq (.seq c_84_4 (.block 0 (.loop c_84_9))) (.seq c_84_10 (.seq c_84_11 .ret)))))),[.cell true 4 2],false⟩
theorem tf_84:z6 Go.Proofs.Tryz.prog 35 (hintT [(25,0),(28,0)]) (fpT []) (killT [(0,[0]),(1,[6,7]),(2,[8,9,10,11,12]),(3,[8]),(5,[13,14,15,16]),(7,[17,20,21,22,23,24,25]),(8,[5,26,27,28,29]),(6,[18,19]),(9,[3,4,30,31]),(10,[1,32])]) false=some F_84:=by kernel_rfl
end Go.Sh.Cd6
end

section
namespace Go.Mor
open Go
set_option maxHeartbeats 2000000
section
variable{l:List UInt8}{c:Cls}(hc:GoodC c)
end
theorem z118{fs:List Fld}{vals:List V}:∀{d:Nat} {e:V} (d':Nat),d≤d'→okE d e=true→worthV fs vals d' e=worthV fs vals d e
 |0,e,_,_,h=>by simp[okE]at h
 |d+1,e,0,hd,_=>by omega
 |d+1,e,d'+1,hd,h=>by
  rw[okE,Bool.and_eq_true,List.all_eq_true]at h;unfold worthV;rw[List.map_congr_left fun x hx=>z118 d' (by omega) (h.2 x hx)]
theorem kidsT_map{t t':V→Ty×Bool}{g:V→V}:∀{l:List V},(∀x∈l,t' (g x)=t x)→kidsT t' (l.map g)=kidsT t l
 |[],_=>rfl
 |x::l,h=>by rw[List.map_cons];unfold kidsT;rw[h x (List.mem_cons_self ..),kidsT_map fun y hy=>h y (List.mem_cons_of_mem _ hy)]
theorem nodeT_ne{fs fs':List Fld}{e e':V}{ps:List Ty}(hk:e'.k=e.k)(hs:e'.s=e.s)(h:e.k≠3):nodeT fs' e' ps=nodeT fs e ps:=by
 unfold nodeT;rw[hk,hs];by_cases h2:e.k=2
 ·rw[if_pos h2,if_pos h2]
 ·rw[if_neg h2,if_neg h2,if_neg h,if_neg h]
theorem nodeW_ne{fs fs':List Fld}{vals vals':List V}{e e':V}{ws:List V}(hk:e'.k=e.k)(hn:e'.n=e.n)(hs:e'.s=e.s)(h:e.k≠3):nodeW fs' vals' e' ws=nodeW fs vals e ws:=by
 unfold nodeW;rw[hk,hs,hn];by_cases h2:e.k=2
 ·rw[if_pos h2,if_pos h2]
 ·rw[if_neg h2,if_neg h2,if_neg h,if_neg h]
def namesV(s:List UInt8):Nat→V→Bool
 |0,_=>false
 |d+1,e=>(e.k==3&&e.s==s)||e.l.any (namesV s d)
theorem names_same{fs:List Fld}{one two:List V}:∀(d:Nat) (e:V),okE d e=true→ntE fs d e→(∀(i:Nat) f,fs[i]?=some f→namesV f.n d e=true→one[i]?=two[i]?)→worthV fs one d e=worthV fs two d e
 |0,e,h,_,_=>by simp[okE]at h
 |d+1,e,h,hn,hs=>by
  rw[okE,Bool.and_eq_true,List.all_eq_true]at h;obtain⟨hn1,hn2⟩:=hn;have hm:e.l.map (worthV fs one d)=e.l.map (worthV fs two d):=List.map_congr_left fun x hx=>names_same d x (h.2 x hx) (hn2 x hx) (fun i f hf hx'=>hs i f hf (by
   unfold namesV;rw[Bool.or_eq_true];exact .inr (List.any_eq_true.2 ⟨x,hx,hx'⟩)))
  unfold worthV;rw[hm];by_cases h3:e.k=3
  ·obtain⟨i,f,e1,e2,e3,_⟩:=hn1 h3;have:=hs i f e2 (by unfold namesV;rw[e3,h3];simp);unfold nodeW;rw[if_neg (by omega),if_pos h3,if_neg (by omega),if_pos h3,e1,Int.toNat_natCast,List.getD_eq_getElem?_getD,List.getD_eq_getElem?_getD,this]
  ·exact nodeW_ne rfl rfl rfl h3
def renV:Nat→V→V
 |0,e=>e
 |d+1,e=> .mk e.k e.n (if e.k=3 then 122::e.s else e.s) (e.l.map (renV d))
def renF(fs:List Fld):List Fld:=fs.map fun f=>⟨122::f.n,f.t,f.ix⟩
theorem ren_at(fs:List Fld)(s:List UInt8):fieldAt (renF fs) (122::s)=fieldAt fs s:=by
 unfold fieldAt z48 renF;rw[List.findIdx?_map];have:((fun f:Fld=>f.n==122::s)∘fun f:Fld=>(⟨122::f.n,f.t,f.ix⟩:Fld))=fun f:Fld=>f.n==s:=by
  funext f;simp[Function.comp_def]
 rw[this]
theorem ren_same{fs:List Fld}{vals:List V}:∀(d:Nat) (e:V),typeV (renF fs) d (renV d e)=typeV fs d e∧worthV (renF fs) vals d (renV d e)=worthV fs vals d e
 |0,e=>⟨rfl,rfl⟩
 |d+1,e=>by
  have ih:=fun x=>ren_same (fs:=fs) (vals:=vals) d x;have hl:(renV (d+1) e).l=e.l.map (renV d):=rfl;have hk:(renV (d+1) e).k=e.k:=rfl;have hn:(renV (d+1) e).n=e.n:=rfl;have hs:(renV (d+1) e).s=if e.k=3 then 122::e.s else e.s:=rfl
  generalize renV (d+1) e=e' at hl hk hn hs;constructor
  ·unfold typeV;rw[hl,kidsT_map fun x _=>(ih x).1];cases kidsT (typeV fs d) e.l with
   |none=>rfl
   |some ps=>
    show nodeT (renF fs) e' ps=nodeT fs e ps;by_cases h3:e.k=3
    ·rw[if_pos h3]at hs;unfold nodeT;rw[hk,hs,if_neg (show ¬e.k=2 by omega),if_pos h3,if_neg (show ¬e.k=2 by omega),if_pos h3,ren_at];by_cases hlt:fieldAt fs e.s<0
     ·rw[if_pos hlt,if_pos hlt]
     ·rw[if_neg hlt,if_neg hlt];obtain⟨i,hi⟩:∃i:Nat,fieldAt fs e.s=i:=⟨(fieldAt fs e.s).toNat,by omega⟩
      obtain⟨f,h1,_⟩:=z158 _ _ i hi;have h2:(renF fs)[i]?=some ⟨122::f.n,f.t,f.ix⟩:=by unfold renF;rw[List.getElem?_map,h1];rfl
      rw[hi,Int.toNat_natCast,z38 h1,z38 h2]
    ·rw[if_neg h3]at hs;exact nodeT_ne hk hs h3
  ·unfold worthV;rw[hl,List.map_map];have hm:e.l.map (worthV (renF fs) vals d∘renV d)=e.l.map (worthV fs vals d):=List.map_congr_left fun x _=>(ih x).2;rw[hm];by_cases h3:e.k=3
   ·rw[if_pos h3]at hs;unfold nodeW;rw[hk,hs,if_neg (show ¬e.k=2 by omega),if_pos h3,if_neg (show ¬e.k=2 by omega),if_pos h3,ren_at]
   ·rw[if_neg h3]at hs;exact nodeW_ne hk hn hs h3
theorem ren_ok{fs:List Fld}(hl:∀f∈fs,f.n.length≤8):∀(d:Nat) (e:V),okE d e=true→ntE fs d e→okE d (renV d e)=true
 |0,e,h,_=>by simp[okE]at h
 |d+1,e,h,hn=>by
  rw[okE,Bool.and_eq_true,List.all_eq_true]at h;obtain⟨hn1,hn2⟩:=hn;have hl':(renV (d+1) e).l=e.l.map (renV d):=rfl;have hk:(renV (d+1) e).k=e.k:=rfl;have hn':(renV (d+1) e).n=e.n:=rfl;have hs:(renV (d+1) e).s=if e.k=3 then 122::e.s else e.s:=rfl
  generalize renV (d+1) e=e' at hl' hk hn' hs ⊢;rw[okE,Bool.and_eq_true,List.all_eq_true];refine⟨?_,fun x hx=> ?_⟩
  ·by_cases h3:e.k=3
   ·rw[if_pos h3]at hs;obtain⟨h4,h5,h6⟩:=node3 h.1 h3;obtain⟨i,f,e1,e2,e3,_⟩:=hn1 h3;have h7:=hl f (gM e2);rw[e3]at h7;obtain⟨b,r,g1,g2,g3⟩:=z169 h5;have hr:z13 (122::e.s)=true:=by
     unfold z13;simp only[List.length_cons,List.headD_cons,List.all_cons,g3,Bool.and_true];simp[show small 122=true by decide,show nameB 122=true by decide];omega
    unfold nodeE;rw[hk,hn',hs,hl',if_neg (by rw[h4];simp),if_neg (by omega),if_neg (by omega),if_pos h3,hr,h6];rfl
   ·rw[if_neg h3]at hs;have h1:=h.1;unfold nodeE at h1 ⊢;rw[hk,hn',hs,hl',List.length_map];exact h1
  ·rw[hl',List.mem_map]at hx;obtain⟨y,hy,rfl⟩:=hx;exact ren_ok hl d y (h.2 y hy) (hn2 y hy)
theorem ren_size:∀(d D:Nat) (e:V),d≤D→okE d e=true→szE D (renV d e)=szE D e
 |0,D,e,_,h=>by simp[okE]at h
 |d+1,0,e,h,_=>by omega
 |d+1,D+1,e,hD,h=>by
  rw[okE,Bool.and_eq_true,List.all_eq_true]at h;have hl:(renV (d+1) e).l=e.l.map (renV d):=rfl;generalize renV (d+1) e=e' at hl;unfold szE;rw[hl,List.map_map];congr 2;exact List.map_congr_left fun x hx=>ren_size d D x (by omega) (h.2 x hx)
end Go.Mor
end

section
namespace Go.Mor
open Go Go.RowKit
set_option maxHeartbeats 1000000
def other:List UInt8:=[111,116,104,101,114]
end Go.Mor
end

section
namespace Go.Mor
open Go Go.RowKit
set_option maxHeartbeats 2000000
def mixV(e:V)(fs:List Fld)(one two:List V):List V:=fs.mapIdx fun i f=>if namesV f.n 4 e then one.getD i V.nil else two.getD i V.nil
theorem mix_at{e:V}{fs:List Fld}{one two:List V}{i:Nat}{f:Fld}(h:fs[i]?=some f):(mixV e fs one two)[i]?=some (if namesV f.n 4 e then one.getD i V.nil else two.getD i V.nil):=by unfold mixV;rw[List.getElem?_mapIdx,h];rfl
theorem mix_len(e:V)(fs:List Fld)(one two:List V):(mixV e fs one two).length=fs.length:=by unfold mixV;exact List.length_mapIdx
theorem mix_fit{c:Cls}{e:V}{one two:List V}(h1:FitAll c.fs one)(h2:FitAll c.fs two):FitAll c.fs (mixV e c.fs one two):=by
 refine⟨h1.1,mix_len ..,fun i f v hf hv=> ?_⟩;rw[mix_at hf]at hv;cases hv;have hi:=(gJ hf).1;have e1:one[i]?=some (one[i]'(by rw[h1.2.1];exact hi)):=gE _;have e2:two[i]?=some (two[i]'(by rw[h2.2.1];exact hi)):=gE _;rw[z38 e1,z38 e2];split
 ·exact h1.2.2 i f _ hf e1
 ·exact h2.2.2 i f _ hf e2
theorem mix_eval{c:Cls}(h:GoodC c)(l:List UInt8){kind:Int}(hk:kind=1∨kind=2){one two:List V}(h1:FitAll c.fs one)(h2:FitAll c.fs two):
  evalA c (mixV (exprOf l c.fs kind) c.fs one two) (exprOf l c.fs kind)=(worthV c.fs one 8 (exprOf l c.fs kind),0):=by
 have hf:=mix_fit (e:=exprOf l c.fs kind) h1 h2;rw[made_eval h l hk (check_ok h.right hf.2.1 hf.2.2)];obtain⟨_,_,h3,h4⟩:=z57 h l hk;rw[z118 (vals:=one) 8 (by omega) h3,z118 (vals:=mixV _ _ _ _) 8 (by omega) h3];have key:worthV c.fs one 4 (exprOf l c.fs kind)=worthV c.fs (mixV (exprOf l c.fs kind) c.fs one two) 4 (exprOf l c.fs kind):=names_same 4 _ h3 h4 fun i f hf hn=>by
  rw[mix_at hf,if_pos hn];have hi:=(gJ hf).1;have e1:one[i]?=some (one[i]'(by rw[h1.2.1];exact hi)):=gE _;rw[z38 e1,e1]
 rw[key]
theorem ren_class{c:Cls}(h:GoodC c):z30 ⟨other,renF c.fs⟩=true:=by
 rw[right_iff];refine⟨show z13 other=true by decide,by unfold renF;rw[List.length_map];have:=h.len;omega,fun f hf=> ?_,fun i j f g hf hg he=> ?_⟩
 ·unfold renF at hf;obtain⟨g,hg,rfl⟩:=List.mem_map.1 hf;obtain⟨hr,hl⟩:=h.fs g hg;unfold z28 at hr ⊢;simp only[Bool.and_eq_true]at hr ⊢;refine⟨⟨?_,hr.1.2⟩,hr.2⟩;have hn:=hr.1.1;unfold z13 at hn ⊢;simp only[Bool.and_eq_true,decide_eq_true_eq,List.length_cons,List.headD_cons,List.all_cons]at hn ⊢;exact⟨⟨⟨by omega,by omega⟩,by decide⟩,by decide,hn.2⟩
 ·unfold renF at hf hg;rw[List.getElem?_map,Option.map_eq_some_iff]at hf hg;obtain⟨f',hf',rfl⟩:=hf;obtain⟨g',hg',rfl⟩:=hg;exact h.di i j f' g' hf' hg' (by simpa using he)
theorem ren_fit{c:Cls}{vals:List V}(h:FitAll c.fs vals):FitAll (renF c.fs) vals:=by
 refine⟨fun f hf=> ?_,by unfold renF;rw[List.length_map];exact h.2.1,fun i f v hf hv=> ?_⟩
 ·unfold renF at hf;obtain⟨g,hg,rfl⟩:=List.mem_map.1 hf;exact h.1 g hg
 ·unfold renF at hf;rw[List.getElem?_map,Option.map_eq_some_iff]at hf;obtain⟨f',hf',rfl⟩:=hf;exact h.2.2 i f' v hf' hv
theorem ren_eval{c:Cls}(h:GoodC c)(l:List UInt8){kind:Int}(hk:kind=1∨kind=2){vals:List V}(hf:FitAll c.fs vals):
  evalA ⟨other,renF c.fs⟩ vals (renV 4 (exprOf l c.fs kind))=(worthV c.fs vals 8 (exprOf l c.fs kind),0):=by
 obtain⟨h1,h2,h3,h4⟩:=z57 h l hk;obtain⟨p1,p2⟩:=ren_same (fs:=c.fs) (vals:=vals) 4 (exprOf l c.fs kind);have ho:=ren_ok (fun f hf=>(h.fs f hf).2) 4 _ h3 h4;have hs:=ren_size 4 8 _ (by omega) h3;have hr:rightE (renV 4 (exprOf l c.fs kind))=true:=by
  unfold rightE at h1 ⊢;rw[hs,ok_more 8 (by omega) ho];simp only[Bool.and_eq_true]at h1;rw[h1.2];rfl
 have t4:=z135 (fs:=c.fs) 8 (by omega) h3;have w4:=z118 (fs:=c.fs) (vals:=vals) 8 (by omega) h3;have hc:check ⟨other,renF c.fs⟩ vals=(0,0):=check_ok (ren_class h) (ren_fit hf).2.1 (ren_fit hf).2.2;have ht:typeA ⟨other,renF c.fs⟩ (renV 4 (exprOf l c.fs kind))=(⟨kind,0⟩,0):=by
  unfold typeA;rw[if_pos hr,if_pos (ren_class h)];show(if(typeV (renF c.fs) 8 _).2=true then((typeV (renF c.fs) 8 _).1,(0:Int))else(ty0,60))=_;rw[z135 8 (by omega) ho,p1,←t4,h2];rfl
 unfold evalA;rw[ht,hc];show(worthV (renF c.fs) vals 8 _,(0:Int))=_;rw[z118 8 (by omega) ho,p2,←w4]
end Go.Mor
end

section
namespace Go.Proofs.YtmiokadmddjccaaGreatDoor
open Go Go.RowKit Go.Mor Go.Sh Go.Sh.Cd1 Go.Sh.Cd6
set_option maxRecDepth 100000
set_option maxHeartbeats 8000000
theorem okE_sub{d:Nat}{e x:V}(h:okE (d+1) e=true)(hx:x∈e.l):okE d x=true:=by
 rw[okE,Bool.and_eq_true,List.all_eq_true]at h;exact h.2 x hx
theorem any_take{f:V→Bool}{l:List V}{i:Nat}{x:V}(h:l[i]?=some x):(l.take (i+1)).any f=((l.take i).any f||f x):=by
 rw[List.take_add_one,h,List.any_append];simp
theorem names_ok(g:Sh.Glob)(s:List UInt8):∀(d:Nat) (e:V),okE d e=true→ESmall e→SCalls Tryz.prog g 33 [tv e,S (str s)] [] (.pv (.v (.bool (namesV s d e)))) []:=by
 intro d
 induction d with
 |zero=>intro e h;simp[okE]at h
 |succ d ih=>
  intro e ho he;have hl:=he.len;have HD:=fun x hx=>ih x (okE_sub ho hx) (he.sub hx);unfold namesV;by_cases h3:e.k=3∧(e.s==s)=true
  ·obtain⟨hk,hp⟩:=h3;have hb:(e.k==3)=true:=by rw[hk];rfl
   rw[hb,hp,Bool.true_and,Bool.true_or];refine z7 hmix tf_81 rfl ?_;simp only[vcA,seval,vV,hk,hp]
  have hb:(e.k==3&&e.s==s)=false:=by
   cases h1:(e.k==3)
   ·rfl
   ·cases h2:(e.s==s)
    ·rfl
    ·exact absurd ⟨beq_iff_eq.1 h1,h2⟩ h3
  rw[hb,Bool.false_or];have hc:(¬e.k=3∧(True∨False))∨(e.k=3∧(e.s==s)=false):=by
   by_cases hk:e.k=3
   ·cases hp:(e.s==s)
    ·exact .inr ⟨hk,rfl⟩
    ·exact absurd ⟨hk,hp⟩ h3
   ·exact .inl ⟨hk,.inl trivial⟩
  generalize hR:e.l.any (namesV s d)=R;refine z7 hmix tf_81 rfl ?_;rcases hc with⟨hk,hp⟩|⟨hk,hp⟩
  all_goals(
   simp only[vcA,seval,vV,hk,hp];refine v_loop (σ:={i:Nat // i≤e.l.length∧(e.l.take i).any (namesV s d)=false}) (fun i=>⟨[(1,S (str s)),(2,.ptr 2 0),(5,I (i.1:Int))],[(2,[I e.k,I e.n,S (str e.s),.pv (.sl 4 (V.rows e.l))])],[],[]⟩)
    (fun i=>e.l.length-i.1) ⟨0,Nat.zero_le _,rfl⟩ ?_ ?_
   ·apply lw_of<;>simp[leL,lk,sv,Nat.beq,I,S,ES.kill,has,drp,nilT,hk]
   rintro⟨i,hi,hno⟩;by_cases hlt:i<e.l.length
   ·have d1:(i:Int)<(e.l.length:Int):=by omega
    obtain⟨x,ex⟩:∃x,e.l[i]?=some x:=⟨_,gE hlt⟩
    have w1:IntKind.i64.wrap ((i:Int)+1)=((i+1:Nat):Int):=by rw[wrap64 (by omega) (by omega)];omega
    have HX:=HD x (gM ex);have ha:=any_take (f:=namesV s d) ex;rw[hno,Bool.false_or]at ha;simp only[vcA,seval,vV,d1,ex];(with_reducible apply v_call);exact kv;rfl;exact HX;exact km;exact kv;cases hx:namesV s d x
    ·rw[hx]at ha;simp only[vcA,seval,vV,w1];refine z11 ⟨i+1,hlt,ha⟩ (by show e.l.length-(i+1)<e.l.length-i;omega) ?_;apply lw_of<;>simp[leL,lk,sv,Nat.beq,I,S,ES.kill,has,drp,nilT]
    ·have:R=true:=by rw[←hR,List.any_eq_true];exact⟨x,gM ex,hx⟩
     subst this;simp only[vcA,seval,vV]
   ·have d1:¬(i:Int)<(e.l.length:Int):=by omega
    obtain rfl:i=e.l.length:=by omega
    rw[List.take_length]at hno;rw[hno]at hR;subst hR;simp only[vcA,seval,vV,d1])
theorem map_take{f:V→V}{l:List V}{i:Nat}{x:V}(h:l[i]?=some x):(l.take (i+1)).map f=(l.take i).map f++[f x]:=by
 rw[List.take_add_one,h,List.map_append];rfl
theorem renamed_ok(g:Sh.Glob):∀(d:Nat) (e:V),okE d e=true→ESmall e→SCalls Tryz.prog g 35 [tv e] [] (tv (renV d e)) []:=by
 intro d
 induction d with
 |zero=>intro e h;simp[okE]at h
 |succ d ih=>
  intro e ho he;have hl:=(okE_key ho).1;have ht:=(okE_key ho).2;have HD:=fun x hx=>ih x (okE_sub ho hx) (he.sub hx);unfold renV;obtain⟨t,hs⟩:∃t,(if e.k=3 then 122::e.s else e.s)=t:=⟨_,rfl⟩
  rw[hs];have qz:(⟨#[122]⟩:ByteArray)=str [122]:=rfl;have go:∀s0,str s0=str t→swp Tryz.prog g c_84_9.loop
    (blockW 0 (thenW (swp Tryz.prog g (c_84_10.seq (c_84_11.seq SCode.ret)) (Post1 [SRes.cell true 4 2] (tv (.mk e.k e.n t (e.l.map (renV d))))))
     (Post1 [SRes.cell true 4 2] (tv (.mk e.k e.n t (e.l.map (renV d)))))))
    ⟨[(1,.ptr 1 0),(2,.ptr 2 0),(3,nilT),(4,I 0)],[(1,[I e.k,I e.n,S (str s0),.pv (.sl 4 (V.rows e.l))]),(2,[I 0,I 0,S ⟨#[]⟩,nilT])],[],[]⟩:=by
   intro s0 h0;rw[h0];refine v_loop (σ:={i:Nat // i≤e.l.length}) (fun i=>⟨[(1,.ptr 1 0),(2,.ptr 2 0),(3,.own 3000 4 (V.rows ((e.l.take i.1).map (renV d)))),(4,I (i.1:Int))],
    [(1,[I e.k,I e.n,S (str t),.pv (.sl 4 (V.rows e.l))]),(2,[I 0,I 0,S ⟨#[]⟩,nilT])],[(3000,(26,4,i.1))],[]⟩) (fun i=>e.l.length-i.1) ⟨0,Nat.zero_le _⟩ ?_ ?_
   ·refine ES.Lw.trans ?_ (adT_lw (k:=3) (d:=3000) (e:=26) (W:=4) (.inr (by decide)) rfl);exact lw_eq rfl
   rintro⟨i,hi⟩;have hlen:((e.l.take i).map (renV d)).length=i:=by rw[List.length_map,List.length_take];omega
   by_cases hlt:i<e.l.length
   ·have d1:(i:Int)<(e.l.length:Int):=by omega
    obtain⟨x,ex⟩:∃x,e.l[i]?=some x:=⟨_,gE hlt⟩
    have w1:IntKind.i64.wrap ((i:Int)+1)=((i+1:Nat):Int):=by rw[wrap64 (by omega) (by omega)];omega
    have HX:=HD x (gM ex);have hm:=map_take (f:=renV d) ex;simp only[vcA,seval,vV,d1,ex,nilT];(with_reducible apply v_call);exact kv;rfl;exact HX;exact km;exact kv;simp only[vcA,seval,vV,hlen,w1];refine⟨⟨by omega,by unfold maxLen;omega⟩,z11 ⟨i+1,hlt⟩ (by show e.l.length-(i+1)<e.l.length-i;omega) ?_⟩;simp only[hm,z39];apply lw_of<;>simp[leL,lk,sv,Nat.beq,I,S,ES.kill,has,drp,nilT]
   ·have d1:¬(i:Int)<(e.l.length:Int):=by omega
    obtain rfl:i=e.l.length:=by omega
    rw[List.take_length];simp only[vcA,seval,vV,d1,nilT]
  refine call_of1 hmix tf_84 rfl rfl ?_;by_cases hk:e.k=3
  ·rw[if_pos hk]at hs;rw[hk]at go ⊢;simp only[vcA,seval,vV,hk,qz];refine⟨by omega,?_⟩;exact go _ (by rw[←hs])
  ·rw[if_neg hk]at hs;simp only[vcA,seval,vV,hk];exact go _ (by rw[←hs])
theorem mix_take{e:V}{fs:List Fld}{one two:List V}{i:Nat}{f:Fld}(h:fs[i]?=some f):(mixV e fs one two).take (i+1)=(mixV e fs one two).take i++[if namesV f.n 4 e then one.getD i V.nil else two.getD i V.nil]:=by
 rw[List.take_add_one,mix_at h];rfl
theorem ren_take{fs:List Fld}{i:Nat}{f:Fld}(h:fs[i]?=some f):renF (fs.take (i+1))=renF (fs.take i)++[⟨122::f.n,f.t,f.ix⟩]:=by
 unfold renF;rw[List.take_add_one,h,List.map_append];rfl
theorem evalFields_ok(m:Nat)(x:Raw)(n o:List Int)(l:List UInt8)(hx:RawOk x)(hn:n.length≤9223372036854775807)(ho:o.length≤9223372036854775807)(hl:l.length≤9223372036854775807):
  SCalls Tryz.prog (glE m) 6 [rawT x,.pv (.sl 1 (iiR n)),.pv (.sl 1 (iiR o)),bysT l] [] (.pv (.v (.bool true))) []:=by
 have HA:=awake_ok m;have HC:=classOf4_ok (glE m) x hx;have HE:=madeE_ok m x l (kind:=1) (.inl rfl) hl;have H1:=madeV_ok (glE m) x n 9 hn (by decide);have H2:=madeV_ok (glE m) x o 9 ho (by decide);have hg:=z49 x;have hf1:=made_fit x n (many:=9) (by decide);have hf2:=made_fit x o (many:=9) (by decide);have hw1:=vals_few hg n (many:=9) (by decide);have hw2:=vals_few hg o (many:=9) (by decide);have hl1:=z43 (z8 x).fs n 9;have hl2:=z43 (z8 x).fs o 9;have hc6:=hg.len;have hw:=made_fits hg l (.inl rfl) hf1;obtain⟨hr,_,ho4,hnt⟩:=z57 hg l (kind:=1) (.inl rfl);have hs:=z71 hr;have hW1:=made_eval hg l (kind:=1) (.inl rfl) (vals_check hg n (many:=9) (by decide));have hW2:=mix_eval hg l (kind:=1) (.inl rfl) hf1 hf2;have hW3:=ren_eval hg l (kind:=1) (.inl rfl) hf1;have HW1:=evEval_ok m _ _ _ (good_ok hg) hs hw1 (by omega);rw[hW1]at HW1;have HW2:=evEval_ok m (z8 x) (exprOf l (z8 x).fs 1) (mixV (exprOf l (z8 x).fs 1) (z8 x).fs (mkVals (z8 x).fs n 9) (mkVals (z8 x).fs o 9)) (good_ok hg) hs (fun v hv=>by
  obtain⟨i,hi⟩:=List.getElem?_of_mem hv;have hil:=(gJ hi).1;rw[mix_len]at hil;rw[mix_at (gE hil)]at hi;have e1:(mkVals (z8 x).fs n 9)[i]?=some _:=gE (by omega);have e2:(mkVals (z8 x).fs o 9)[i]?=some _:=gE (by omega);rw[z38 e1,z38 e2]at hi;cases hi;split
  ·exact hw1 _ (gM e1)
  ·exact hw2 _ (gM e2)) (by rw[mix_len];omega)
 rw[hW2]at HW2;have hro:=ren_ok (fun f hf=>(hg.fs f hf).2) 4 _ ho4 hnt;have hrc:ClsOk ⟨other,renF (z8 x).fs⟩:=⟨by show other.length<4611686018427387904;decide,fun f hf=>by
  unfold renF at hf;obtain⟨g,hgg,rfl⟩:=List.mem_map.1 hf;have:=(hg.fs g hgg).2;unfold Short;simp only[List.length_cons];omega,by unfold renF;rw[List.length_map];omega⟩
 have HW3:=evEval_ok m ⟨other,renF (z8 x).fs⟩ (renV 4 (exprOf l (z8 x).fs 1)) (mkVals (z8 x).fs n 9) hrc (okE_small 4 _ hro) hw1 (by omega);rw[hW3]at HW3;have HN:=fun s=>names_ok (glE m) s 4 _ ho4 hs;have HR:=renamed_ok (glE m) 4 _ ho4 hs;obtain⟨wl,_⟩:=fits_12 (.inl rfl) hw;have HS:=refSame_ok (glE m) (worthV (z8 x).fs (mkVals (z8 x).fs n 9) 8 (exprOf l (z8 x).fs 1)) (worthV (z8 x).fs (mkVals (z8 x).fs n 9) 8 (exprOf l (z8 x).fs 1)) (few0 wl).small;rw[z132]at HS;unfold evalT at HW1 HW2 HW3;simp only[if_true]at HW1 HW2 HW3;have hmt:=fun i f (h:(z8 x).fs[i]?=some f)=>mix_take (e:=exprOf l (z8 x).fs 1) (one:=mkVals (z8 x).fs n 9) (two:=mkVals (z8 x).fs o 9) h;have hml:=mix_len (exprOf l (z8 x).fs 1) (z8 x).fs (mkVals (z8 x).fs n 9) (mkVals (z8 x).fs o 9);have h8:=fun f hf=>(hg.fs f hf).2;generalize worthV (z8 x).fs (mkVals (z8 x).fs n 9) 8 (exprOf l (z8 x).fs 1)=w at*;generalize mixV (exprOf l (z8 x).fs 1) (z8 x).fs (mkVals (z8 x).fs n 9) (mkVals (z8 x).fs o 9)=mix at*;generalize renV 4 (exprOf l (z8 x).fs 1)=r at*;generalize mkVals (z8 x).fs n 9=one at*;generalize mkVals (z8 x).fs o 9=two at*;generalize exprOf l (z8 x).fs 1=e at*;generalize z8 x=c at*
 have qo:(⟨#[111,116,104,101,114]⟩:ByteArray)=str other:=rfl;have qz:(⟨#[122]⟩:ByteArray)=str [122]:=rfl;unfold B bysT rawT clT tv at*;refine z7 hmix tf_74 rfl ?_;simp only[vcA,seval,vV];(with_reducible apply v_call);exact kv;rfl;exact HA;exact km;exact kv;simp only[vcA,seval,vV];(with_reducible apply v_call);exact kv;rfl;exact HC;exact km;exact kv;simp only[vcA,seval,vV];(with_reducible apply v_call);exact kv;rfl;exact HE;exact km;exact kv;simp only[vcA,seval,vV];(with_reducible apply v_call);exact kv;rfl;exact H1;exact km;exact kv;simp only[vcA,seval,vV];(with_reducible apply v_call);exact kv;rfl;exact H2;exact km;exact kv;simp only[vcA,seval,vV];refine v_loop (σ:={i:Nat // i≤c.fs.length}) (fun i=>⟨[(9,.pv (.v (.bool true))),(10,.ptr 10 0),(11,.ptr 11 0),(12,.pv (.sl 4 (V.rows one))),(13,.pv (.sl 4 (V.rows two))),(14,.own 3000 4 (V.rows (mix.take i.1))),(15,I (i.1:Int))],
   [(4,[I x.n,.pv (.sl 4 (rfR x.fs))]),(10,[S (str c.n),.pv (.sl 4 (flR c.fs))]),(11,[I e.k,I e.n,S (str e.s),.pv (.sl 4 (V.rows e.l))])],[(3000,(49,4,i.1))],[]⟩) (fun i=>c.fs.length-i.1) ⟨0,Nat.zero_le _⟩ ?_ ?_
 ·refine ES.Lw.trans ?_ (adT_lw (k:=14) (d:=3000) (e:=49) (W:=4) (.inr (by decide)) rfl);exact lw_eq rfl
 rintro⟨i,hi⟩;have hlen:(mix.take i).length=i:=by rw[List.length_take];omega
 by_cases hlt:i<c.fs.length
 ·have d1:(i:Int)<(c.fs.length:Int):=by omega
  have w1:IntKind.i64.wrap ((i:Int)+1)=((i+1:Nat):Int):=by rw[wrap64 (by omega) (by omega)];omega
  obtain⟨f,ef⟩:∃f,c.fs[i]?=some f:=⟨_,gE hlt⟩
  obtain⟨a,ea⟩:∃a,one[i]?=some a:=⟨_,gE (by omega)⟩
  obtain⟨b,eb⟩:∃b,two[i]?=some b:=⟨_,gE (by omega)⟩
  have hm:=hmt i f ef;rw[z38 ea,z38 eb]at hm;have HNf:=HN f.n;simp only[vcA,seval,vV,d1,ef,clV];(with_reducible apply v_call);exact kv;rfl;exact HNf;exact km;exact kv;cases hN:namesV f.n 4 e
  ·rw[hN,if_neg (by simp)]at hm;simp only[vcA,seval,vV,ea,eb,hlen,w1];refine⟨⟨by omega,by unfold maxLen;omega⟩,z11 ⟨i+1,hlt⟩ (by show c.fs.length-(i+1)<c.fs.length-i;omega) ?_⟩;simp only[hm,z39];apply lw_of<;>simp[leL,lk,sv,Nat.beq,I,S,ES.kill,has,drp,nilT]
  ·rw[hN,if_pos rfl]at hm;simp only[vcA,seval,vV,ea,eb,hlen,w1];refine⟨⟨by omega,by unfold maxLen;omega⟩,z11 ⟨i+1,hlt⟩ (by show c.fs.length-(i+1)<c.fs.length-i;omega) ?_⟩;simp only[hm,z39];apply lw_of<;>simp[leL,lk,sv,Nat.beq,I,S,ES.kill,has,drp,nilT]
 have d1:¬(i:Int)<(c.fs.length:Int):=by omega
 obtain rfl:i=c.fs.length:=by omega
 rw[List.take_of_length_le (show mix.length≤c.fs.length by omega)];simp only[vcA,seval,vV,d1,clV];(with_reducible apply v_call);exact kv;rfl;exact HW1;exact km;exact kv;simp only[vcA,seval,vV];(with_reducible apply v_call);exact kv;rfl;exact HW2;exact km;exact kv;simp only[vcA,seval,vV,qo];refine v_loop (σ:={i:Nat // i≤c.fs.length}) (fun i=>⟨[(9,.pv (.v (.bool true))),(10,.ptr 10 0),(11,.ptr 11 0),(12,.pv (.sl 4 (V.rows one))),(16,.ptr 16 0),(17,I 0),(18,.ptr 18 0),(19,I 0),(20,.ptr 20 0),(21,I (i.1:Int))],
   [(10,[S (str c.n),.pv (.sl 4 (flR c.fs))]),(11,[I e.k,I e.n,S (str e.s),.pv (.sl 4 (V.rows e.l))]),(16,[I w.k,I w.n,S (str w.s),.pv (.sl 4 (V.rows w.l))]),(18,[I w.k,I w.n,S (str w.s),.pv (.sl 4 (V.rows w.l))]),
    (20,[S (str other),.own 3001 4 (flR (renF (c.fs.take i.1)))])],[(3001,(62,4,i.1))],[]⟩) (fun i=>c.fs.length-i.1) ⟨0,Nat.zero_le _⟩ ?_ ?_
 ·refine ES.Lw.trans ?_ (show ES.Lw ⟨[(9,.pv (.v (.bool true))),(10,.ptr 10 0),(11,.ptr 11 0),(12,.pv (.sl 4 (V.rows one))),(16,.ptr 16 0),(17,I 0),(18,.ptr 18 0),(19,I 0),(20,.ptr 20 0),(21,I 0)],
   [(10,[S (str c.n),.pv (.sl 4 (flR c.fs))]),(11,[I e.k,I e.n,S (str e.s),.pv (.sl 4 (V.rows e.l))]),(16,[I w.k,I w.n,S (str w.s),.pv (.sl 4 (V.rows w.l))]),(18,[I w.k,I w.n,S (str w.s),.pv (.sl 4 (V.rows w.l))]),(20,[.pv (.v (.string (str other))),.pv (.v (.slice none 0 0))])],[],[]⟩ _ by apply lw_of<;>simp[leL,lk,sv,Nat.beq,I,S,ES.kill,has,drp,nilT])
  refine ES.Lw.trans ?_ (adB_lw (x:=20) (j:=1) (d:=3001) (e:=62) (W:=4) (.inr (by decide)) (by decide) rfl (by simp only[vcA,seval]) rfl);exact lw_eq rfl
 rintro⟨i,hi⟩;have hlen:(renF (c.fs.take i)).length=i:=by unfold renF;rw[List.length_map,List.length_take];omega
 by_cases hlt:i<c.fs.length
 ·have d1:(i:Int)<(c.fs.length:Int):=by omega
  have w1:IntKind.i64.wrap ((i:Int)+1)=((i+1:Nat):Int):=by rw[wrap64 (by omega) (by omega)];omega
  obtain⟨f,ef⟩:∃f,c.fs[i]?=some f:=⟨_,gE hlt⟩
  have hn8:=h8 f (gM ef);have hm:=ren_take ef;simp only[vcA,seval,vV,d1,ef,clV,qz,hlen,w1];refine⟨by omega,⟨by omega,by unfold maxLen;omega⟩,z11 ⟨i+1,hlt⟩ (by show c.fs.length-(i+1)<c.fs.length-i;omega) ?_⟩;simp only[hm,flR_snoc];apply lw_of<;>simp[leL,lk,sv,Nat.beq,I,S,ES.kill,has,drp,nilT,flR1]
 have d1:¬(i:Int)<(c.fs.length:Int):=by omega
 obtain rfl:i=c.fs.length:=by omega
 rw[List.take_length];simp only[vcA,seval,vV,d1,clV];(with_reducible apply v_call);exact kv;rfl;exact HR;exact km;exact kv;simp only[vcA,seval,vV];(with_reducible apply v_call);exact kv;rfl;exact HW3;exact km;exact kv;simp only[vcA,seval,vV];(with_reducible apply v_call);exact kv;rfl;exact HS;exact km;exact kv;simp only[vcA,seval,vV];(with_reducible apply v_call);exact kv;rfl;exact HS;exact km;exact kv;simp only[vcA,seval,vV]
end Go.Proofs.YtmiokadmddjccaaGreatDoor
end
