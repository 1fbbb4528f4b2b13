/- Merged texts: Cd4. No statement of the program is proved here. -/
import Derived.Test.YtcpaleaajdilgaaDoorM10
import Derived.Test.YtcpaleaajdilgaaDoorM12
import Derived.KernelRfl
set_option linter.unusedSimpArgs false
set_option linter.unusedVariables false
set_option maxRecDepth 100000
set_option maxHeartbeats 8000000
section
namespace Go.Sh.Cd4
open Go Go.Sh
abbrev c_15_0:=kV [5,6,9] [kO 5 0,kO 6 1,kO 9 4,kT 10 false] [0,1,4,10]
abbrev c_15_1:=kV [2092,2093,2094,2095] [oD 23 (.call 4 0 []),oM 11 23] [23]
abbrev c_15_2:=kR [oM 24 11,kN 25 24] [24]
abbrev c_15_3:=kR [kT 10 false] [2,3,5,6,9,11,25]
abbrev c_15_4:=kV [2108,2109,2110,2111,12] [oL 26 true 2 5,kC 27 5 0 26,oD 12 (.new [(.string ⟨#[]⟩),(.slice none 0 0)]),kS 2 12 27] [5,10,25,26,27]
abbrev c_15_5:=kV [2120,2121,2122,2123] [oL 28 true 2 12,oM 29 2,oD 30 (.call 6 0 [.tmp 28,.tmp 29,vI 3]),oM 13 30] [2,28,29,30]
abbrev c_15_6:=kR [kA 31 2 9,oL 32 false 1 31,kA 33 2 9,oL 34 false 1 33,oD 35 (.slen (.tmp 34)),oD 36 (.imm false (.tmp 35) (vI 70)),oD 37 (.ssub (.tmp 32) none (some (.tmp 36))),kA 38 2 9,kS 1 38 37] [31,32,33,34,35,36,37,38]
abbrev c_15_7:=kR [kA 39 3 9,oN (.st 1 (.tmp 39) (.val (.slice none 0 0)))] [39]
abbrev c_15_8:SCode:=.reg [([41],[oM 40 13,oD 41 (.appN 31 4 56 (.val (.slice none 0 0)) (.tmp 40)),oM 14 41]),([41],[oM 40 13,oD 41 (.appN 31 4 56 (.val (.slice none 0 0)) (.tmp 40)),oM 14 41])] [40,41]
abbrev c_15_9:=kR [oM 42 14,kZ 43 42,kK 44 .gtr 3 43 0] [42,43]
abbrev c_15_10:=kV [2196,2197,2198,2199] [oM 45 14,oM 46 3,oM 47 14,kZ 48 47,kD 49 7 0 46 48,oL 50 true 4 9,kX 51 4 45 49,kS 4 51 50] [44,45,46,47,48,49,50,51]
abbrev c_15_11:=kV [2216,2217,2218,2219] [oL 52 true 2 12,oL 53 true 2 6,kC 54 8 0 53,oD 55 (.bsl 2 [.tmp 52,.tmp 54]),kZ 56 55,kI 57 0] [6,12,44,52,53,54]
abbrev c_15_12:=kR [kB 58 .lss 3 57 56] []
abbrev c_15_13:=kV [16] [kX 59 2 55 57,oL 60 true 2 59,oD 16 (.new [(.string ⟨#[]⟩),(.slice none 0 0)]),kS 2 16 60] [58,59,60]
abbrev c_15_14:SCode:=.reg [([64,2292,2293,2294,2295],[oM 61 13,oM 62 14,oM 63 13,oD 64 (.appN 31 4 56 (.val (.slice none 0 0)) (.tmp 63)),oL 65 true 4 9,oD 66 (.bsl 4 [.tmp 65]),oD 67 (.app 31 4 56 (.tmp 64) (.tmp 66)),oM 68 13,oM 69 3,oM 70 13,kZ 71 70,kK 72 .add 3 71 1,kD 73 7 0 69 72,oD 74 (.sub 4 (.tmp 68) none (some (.tmp 73))),oD 75 (.bsl 1 [.tmp 61,.tmp 62,.tmp 67,.tmp 74]),kZ 76 75,kI 77 0]),([64,2292,2293,2294,2295],[oM 61 13,oM 62 14,oM 63 13,oD 64 (.appN 31 4 56 (.val (.slice none 0 0)) (.tmp 63)),oL 65 true 4 9,oD 66 (.bsl 4 [.tmp 65]),oD 67 (.app 31 4 56 (.tmp 64) (.tmp 66)),oM 68 13,oM 69 3,oM 70 13,kZ 71 70,kK 72 .add 3 71 1,kD 73 7 0 69 72,oD 74 (.sub 4 (.tmp 68) none (some (.tmp 73))),oD 75 (.bsl 1 [.tmp 61,.tmp 62,.tmp 67,.tmp 74]),kZ 76 75,kI 77 0])] [61,62,63,64,65,66,67,68,69,70,71,72,73,74]
abbrev c_15_15:=kR [kB 78 .lss 3 77 76] []
abbrev c_15_16:=kR [kX 79 1 75 77,oL 80 false 1 79,oM 18 80] [78,79,80]
abbrev c_15_17:=kV [2336,2337,2338,2339] [oL 82 true 2 16,oM 83 18,kD 84 9 0 82 83,oM 81 84,kY 85 81 0,kY 86 81 1,oM 19 85,oM 20 86] [81,82,83,84,85,86]
abbrev c_15_18:=kV [2360,2361,2362,2363] [oL 88 true 2 16,oM 89 18,kD 90 10 0 88 89,oM 87 90,kY 91 87 0,kY 92 87 1,oM 21 91,oM 22 92] [18,87,88,89,90,91,92]
abbrev c_15_19:=kR [oM 93 19,oM 94 21,kB 95 .neq 3 93 94,oM 96 95,oH 97 96 false 20,oH 98 96 false 22,kH 99 96 false .neq 39 97 98,oQ 100 96 99 true] [19,20,21,22,93,94,95,96,97,98,99]
abbrev c_15_20:=kR [kT 10 false] [3,9,11,13,14,16,55,56,57,75,76,77,100]
abbrev c_15_21:=kR [kK 101 .add 3 77 1,oM 77 101] [10,100,101]
abbrev c_15_22:SCode:=(.seq c_15_15 (.seq (.cond (.tmp 78) .skip (.exit 2)) (.seq (.block 3 (.seq c_15_16 (.seq c_15_17 (.seq c_15_18 (.seq c_15_19 (.cond (.tmp 100) (.seq c_15_20 .ret) .skip)))))) c_15_21)))
abbrev c_15_23:=kR [kK 102 .add 3 57 1,oM 57 102] [16,75,76,77,102]
abbrev c_15_24:SCode:=(.seq c_15_12 (.seq (.cond (.tmp 58) .skip (.exit 0)) (.seq (.block 1 (.seq c_15_13 (.seq c_15_14 (.block 2 (.loop c_15_22))))) c_15_23)))
abbrev c_15_25:=kR [oM 103 11,oM 10 103] [3,9,11,13,14,55,56,57,103]
abbrev F_15:SFunc:=⟨104,(.seq c_15_0 (.seq c_15_1 (.seq (.seq c_15_2 (.cond (.tmp 25) (.seq c_15_3 .ret) .skip)) (.seq c_15_4 (.seq c_15_5 (.seq c_15_6 (.seq c_15_7 (.seq c_15_8 (.seq (.seq c_15_9 (.cond (.tmp 44) c_15_10 .skip)) (.seq (.seq c_15_11 (.block 0 (.loop c_15_24))) (.seq c_15_25 .ret))))))))))),[.tmp 10],false⟩
theorem tf_15:z7 Go.Proofs.Tryd.prog 3 (zj [(23,0),(27,0),(30,0),(41,1),(49,0),(54,0),(55,0),(64,1),(66,0),(67,0),(73,0),(75,0),(84,0),(90,0)]) (fpT []) (zk [(0,[0,1,4,10]),(1,[23]),(2,[24]),(3,[2,3,5,6,9,11,25]),(4,[5,10,25,26,27]),(5,[2,28,29,30]),(6,[31,32,33,34,35,36,37,38]),(7,[39]),(8,[40,41]),(9,[42,43]),(10,[44,45,46,47,48,49,50,51]),(11,[6,12,44,52,53,54]),(13,[58,59,60]),(14,[61,62,63,64,65,66,67,68,69,70,71,72,73,74]),(16,[78,79,80]),(17,[81,82,83,84,85,86]),(18,[18,87,88,89,90,91,92]),(19,[19,20,21,22,93,94,95,96,97,98,99]),(20,[3,9,11,13,14,16,55,56,57,75,76,77,100]),(21,[10,100,101]),(22,[16,75,76,77,102]),(23,[3,9,11,13,14,55,56,57,103])]) false=some F_15:=by kernel_rfl
abbrev c_20_0:=kR [kT 0 false] [0]
abbrev c_20_1:=kV [1] [oD 23 (.build [(.int .i64 0),(.int .i64 0)] [(0,1,(vI 1))]),oD 24 (.build [(.string ⟨#[]⟩),(.int .i64 0),(.int .i64 0),(.bool false)] [(0,1,(.val (.string ⟨#[97]⟩))),(1,2,(.tmp 23)),(3,1,(.val (.bool true)))]),oD 25 (.build [(.int .i64 0),(.int .i64 0)] [(0,1,(vI 3))]),oD 26 (.build [(.string ⟨#[]⟩),(.int .i64 0),(.int .i64 0),(.bool false)] [(0,1,(.val (.string ⟨#[98]⟩))),(1,2,(.tmp 25))]),oD 27 (.bsl 4 [.tmp 24,.tmp 26]),oD 28 (.build [(.string ⟨#[]⟩),(.slice none 0 0)] [(0,1,(.val (.string ⟨#[110]⟩))),(1,1,(.tmp 27))]),oD 1 (.new [(.string ⟨#[]⟩),(.slice none 0 0)]),kS 2 1 28] [23,24,25,26,27,28]
abbrev c_20_2:=kV [2] [oD 29 (.build zV [(0,1,(vI 1)),(1,1,(vI 5))]),oD 2 (.new zV),kS 4 2 29] [29]
abbrev c_20_3:=kV [2140,2141,2142,2143] [oL 31 true 2 1,oL 32 true 4 2,oD 33 (.build zV [(0,1,(vI 3)),(1,1,(vI 3))]),oD 34 (.bsl 4 [.tmp 32,.tmp 33]),kD 35 9 0 31 34,oM 30 35,kY 36 30 0,kY 37 30 1,oM 3 36,oM 4 37] [3,30,31,32,33,34,35,36,37]
abbrev c_20_4:=kV [2172,2173,2174,2175] [oL 39 true 2 1,oL 40 true 4 2,oD 41 (.build zV []),oD 42 (.bsl 4 [.tmp 40,.tmp 41]),kD 43 9 0 39 42,oM 38 43,kY 44 38 0,kY 45 38 1,oM 5 44,oM 6 45] [5,38,39,40,41,42,43,44,45]
abbrev c_20_5:=kV [2200,2201,2202,2203] [oL 47 true 2 1,oL 48 true 4 2,oD 49 (.bsl 4 [.tmp 48]),kD 50 9 0 47 49,oM 46 50,kY 51 46 0,kY 52 46 1,oM 7 51,oM 8 52] [46,47,48,49,50,51,52]
abbrev c_20_6:=kV [2232,2233,2234,2235] [oL 54 true 2 1,oL 55 true 4 2,oL 56 true 4 2,oD 57 (.bsl 4 [.tmp 55,.tmp 56]),kD 58 9 0 54 57,oM 53 58,kY 59 53 0,kY 60 53 1,oM 9 59,oM 10 60] [2,53,54,55,56,57,58,59,60]
abbrev c_20_7:=kV [2252,2253,2254,2255] [oL 62 true 2 1,kC 63 11 0 62,oM 61 63,kY 64 61 0,kY 65 61 1,oM 11 64,oM 12 65] [61,62,63,64,65]
abbrev c_20_8:=kV [2280,2281,2282,2283,13] [oM 67 11,oD 68 (.bin .add 9 (.val (.string ⟨#[120]⟩)) (.tmp 67)),oD 69 (.bin .add 9 (.tmp 68) (.val (.string ⟨#[121]⟩))),oD 70 (.call 12 0 [.tmp 69,vI 1]),oM 66 70,kY 71 66 0,kY 72 66 1,kY 73 66 2,oD 13 (.new [(.string ⟨#[]⟩),(.slice none 0 0)]),kS 2 13 71,oM 14 72,oM 15 73] [66,67,68,69,70,71,72,73]
abbrev c_20_9:=kV [2304,2305,2306,2307,16] [oM 75 11,oD 76 (.call 12 0 [.tmp 75,vI 1]),oM 74 76,kY 77 74 0,kY 78 74 1,kY 79 74 2,oD 16 (.new [(.string ⟨#[]⟩),(.slice none 0 0)]),kS 2 16 77,oM 17 78,oM 18 79] [16,17,74,75,76,77,78,79]
abbrev c_20_10:=kV [2328,2329,2330,2331] [oL 81 true 2 1,oD 82 (.call 13 0 [.tmp 81,.val (.string ⟨#[98]⟩)]),oM 80 82,kY 83 80 0,kY 84 80 1,oM 19 83,oM 20 84] [80,81,82,83,84]
abbrev c_20_11:=kV [2348,2349,2350,2351] [oL 86 true 2 1,oD 87 (.call 13 0 [.tmp 86,.val (.string ⟨#[99]⟩)]),oM 85 87,kY 88 85 0,kY 89 85 1,oM 21 88,oM 22 89] [21,85,86,87,88,89]
abbrev c_20_12:=kV [2476,2477,2478,2479,2596,2597,2598,2599,2612,2613,2614,2615,2632,2633,2634,2635,2648,2649,2650,2651,2672,2673,2674,2675,2692,2693,2694,2695] [oM 90 4,kK 91 .eql 39 90 0,oM 92 91,oH 93 92 true 6,kG 94 92 true .eql 39 93 0,oP 95 92 94 false,oM 96 95,oH 97 96 true 7,kG 98 96 true .eql 3 97 1,oP 99 96 98 false,oM 100 99,oH 101 100 true 8,kG 102 100 true .eql 39 101 42,oP 103 100 102 false,oM 104 103,oH 105 104 true 9,kG 106 104 true .eql 3 105 1,oP 107 104 106 false,oM 108 107,oH 109 108 true 10,kG 110 108 true .eql 39 109 42,oP 111 108 110 false,oM 112 111,oH 113 112 true 12,kG 114 112 true .eql 39 113 0,oP 115 112 114 false,oM 116 115,kL 117 116 true true 2 1,kL 118 116 true true 2 13,oG 119 116 true (.call 14 0 [.tmp 117,.tmp 118]),oP 120 116 119 false,oM 121 120,oH 122 121 true 14,oH 123 121 true 11,oG 124 121 true (.slen (.tmp 123)),oG 125 121 true (.bin .add 3 (vI 1) (.tmp 124)),kH 126 121 true .eql 3 122 125,oP 127 121 126 false,oM 128 127,oH 129 128 true 15,kG 130 128 true .eql 39 129 0,oP 131 128 130 false,oM 132 131,oH 133 132 true 18,kG 134 132 true .eql 39 133 10,oP 135 132 134 false,oM 136 135,oH 137 136 true 19,kG 138 136 true .eql 3 137 1,oP 139 136 138 false,oM 140 139,oH 141 140 true 20,oP 142 140 141 false,oM 143 142,oH 144 143 true 22,oG 145 143 true (.un .not (.tmp 144)),oP 146 143 145 false,oM 147 146,kL 148 147 true true 2 1,oG 149 147 true (.call 15 0 [.tmp 148]),oP 150 147 149 false,oM 151 150,oG 152 151 true (.build [(.string ⟨#[]⟩),(.slice none 0 0)] []),oG 153 151 true (.call 15 0 [.tmp 152]),oG 154 151 true (.un .not (.tmp 153)),oP 155 151 154 false,oM 156 155,oG 157 156 true (.build [(.int .i64 0),(.int .i64 0)] [(0,1,(vI 5)),(1,1,(vI 4))]),oG 158 156 true (.call 16 0 [.tmp 157]),oP 159 156 158 false,oM 160 159,oG 161 160 true (.build [(.int .i64 0),(.int .i64 0)] [(0,1,(vI 5))]),oG 162 160 true (.call 16 0 [.tmp 161]),oG 163 160 true (.un .not (.tmp 162)),oP 164 160 163 false,oM 165 164,kL 166 165 true true 2 1,kL 167 165 true true 2 1,oG 168 165 true (.call 17 0 [.tmp 166,.tmp 167]),oP 169 165 168 false,oM 170 169,kL 171 170 true true 2 1,oG 172 170 true (.build [(.string ⟨#[]⟩),(.slice none 0 0)] []),oG 173 170 true (.call 17 0 [.tmp 171,.tmp 172]),oG 174 170 true (.un .not (.tmp 173)),oP 175 170 174 false,oM 0 175] [1,4,6,7,8,9,10,11,12,13,14,15,18,19,20,22,90,91,92,93,94,95,96,97,98,99,100,101,102,103,104,105,106,107,108,109,110,111,112,113,114,115,116,117,118,119,120,121,122,123,124,125,126,127,128,129,130,131,132,133,134,135,136,137,138,139,140,141,142,143,144,145,146,147,148,149,150,151,152,153,154,155,156,157,158,159,160,161,162,163,164,165,166,167,168,169,170,171,172,173,174,175]
abbrev F_20:SFunc:=⟨176,(.seq c_20_0 (.seq c_20_1 (.seq c_20_2 (.seq c_20_3 (.seq c_20_4 (.seq c_20_5 (.seq c_20_6 (.seq c_20_7 (.seq c_20_8 (.seq c_20_9 (.seq c_20_10 (.seq c_20_11 (.seq c_20_12 .ret))))))))))))),[.tmp 0],false⟩
theorem tf_20:z7 Go.Proofs.Tryd.prog 4 (zj [(27,0),(34,0),(35,0),(42,0),(43,0),(49,0),(50,0),(57,0),(58,0),(63,0),(70,0),(76,0),(82,0),(87,0),(119,0),(149,0),(153,0),(158,0),(162,0),(168,0),(173,0)]) (fpT []) (zk [(0,[0]),(1,[23,24,25,26,27,28]),(2,[29]),(3,[3,30,31,32,33,34,35,36,37]),(4,[5,38,39,40,41,42,43,44,45]),(5,[46,47,48,49,50,51,52]),(6,[2,53,54,55,56,57,58,59,60]),(7,[61,62,63,64,65]),(8,[66,67,68,69,70,71,72,73]),(9,[16,17,74,75,76,77,78,79]),(10,[80,81,82,83,84]),(11,[21,85,86,87,88,89]),(12,[1,4,6,7,8,9,10,11,12,13,14,15,18,19,20,22,90,91,92,93,94,95,96,97,98,99,100,101,102,103,104,105,106,107,108,109,110,111,112,113,114,115,116,117,118,119,120,121,122,123,124,125,126,127,128,129,130,131,132,133,134,135,136,137,138,139,140,141,142,143,144,145,146,147,148,149,150,151,152,153,154,155,156,157,158,159,160,161,162,163,164,165,166,167,168,169,170,171,172,173,174,175])]) false=some F_20:=by kernel_rfl
abbrev c_16_0:=kV [1,2] [kO 1 0,oD 2 (.new [(.string ⟨#[]⟩),(.slice none 0 0)])] [0]
abbrev c_16_1:=kR [oD 10 (.bsl 1 [.val (.string ⟨#[97]⟩),.val (.string ⟨#[98,50]⟩),.val (.string ⟨#[110,97,109,101]⟩),.val (.string ⟨#[110,101,120,116,95,111,110,101]⟩),.val (.string ⟨#[107,105,100,115]⟩),.val (.string ⟨#[120]⟩)]),oM 3 10] [10]
abbrev c_16_2:=kV [2056,2057,2058,2059,4] [oD 11 (.bsl 1 [.val (.string ⟨#[110,111,100,101]⟩),.val (.string ⟨#[105,116,101,109]⟩),.val (.string ⟨#[117,115,101,114]⟩),.val (.string ⟨#[112,97,103,101,95,49]⟩),.val (.string ⟨#[108,101,97,102]⟩),.val (.string ⟨#[113]⟩)]),kA 12 0 1,oL 13 false 1 12,oD 14 (.call 7 0 [.tmp 13,vI 6]),kX 15 1 11 14,oL 16 false 1 15,oD 17 (.build [(.string ⟨#[]⟩),(.slice none 0 0)] [(0,1,(.tmp 16))]),oD 4 (.new [(.string ⟨#[]⟩),(.slice none 0 0)]),kS 2 4 17] [11,12,13,14,15,16,17]
abbrev c_16_3:=kR [kI 5 0] []
abbrev c_16_4:=kR [oM 18 5,kA 19 1 1,oL 20 false 1 19,kZ 21 20,kB 22 .lss 3 18 21,oM 23 22,oH 24 23 true 5,kG 25 23 true .lss 3 24 6,oP 26 23 25 false] [18,19,20,21,22,23,24,25]
abbrev c_16_5:=kV [6] [kA 29 1 1,oL 30 false 1 29,oM 31 5,kX 32 4 30 31,oL 33 true 4 32,oD 6 (.new [(.int .i64 0),(.int .i64 0),(.int .i64 0),(.bool false)]),kS 4 6 33] [26,29,30,31,32,33]
abbrev c_16_6:=kV [2148,2149,2150,2151,2168,2169,2170,2171,7] [oM 34 3,kA 35 0 6,oL 36 false 1 35,oD 37 (.call 7 0 [.tmp 36,vI 6]),kX 38 1 34 37,oL 39 false 1 38,kA 40 1 6,oL 41 false 1 40,oD 42 (.call 7 0 [.tmp 41,vI 5]),oD 43 (.bin .add 3 (vI 1) (.tmp 42)),oD 44 (.build [(.int .i64 0),(.int .i64 0)] [(0,1,(.tmp 43))]),oD 45 (.build [(.string ⟨#[]⟩),(.int .i64 0),(.int .i64 0),(.bool false)] [(0,1,(.tmp 39)),(1,2,(.tmp 44))]),oD 7 (.new [(.string ⟨#[]⟩),(.int .i64 0),(.int .i64 0),(.bool false)]),kS 4 7 45] [34,35,36,37,38,39,40,41,42,43,44,45]
abbrev c_16_7:=kR [kA 46 1 7,kA 47 0 46,oL 48 false 1 47,kK 49 .eql 3 48 5] [46,47,48]
abbrev c_16_8:=kV [2208,2209,2210,2211] [kA 50 2 6,oL 51 false 1 50,oD 52 (.call 7 0 [.tmp 51,vI 4]),oD 53 (.bin .add 3 (vI 1) (.tmp 52)),kA 54 1 7,kA 55 1 54,kS 1 55 53] [49,50,51,52,53,54,55]
abbrev c_16_9:=kR [kA 56 3 6,oL 57 false 1 56,oM 58 57,kF 59 58 true 1 7,kF 60 58 true 0 59,kL 61 58 true false 1 60,kG 62 58 true .leq 3 61 3,oP 63 58 62 false,kA 64 3 7,kS 1 64 63] [6,49,56,57,58,59,60,61,62,63,64]
abbrev c_16_10:=kV [2276,2277,2278,2279] [oL 66 true 2 4,kA 67 0 7,oL 68 false 1 67,kD 69 18 0 66 68,oM 65 69,kY 70 65 0,kY 71 65 1,oM 8 70,oM 9 71] [8,65,66,67,68,69,70,71]
abbrev c_16_11:=kR [oM 72 9,kN 73 72] [9,72]
abbrev c_16_12:SCode:=.reg [([],[kA 74 1 4,oL 75 false 1 74,oL 76 true 4 7,oD 77 (.bsl 4 [.tmp 76]),oD 78 (.app 46 4 40 (.tmp 75) (.tmp 77)),kA 79 1 4,kS 1 79 78]),([78],[kA 74 1 4,oL 75 false 1 74,oL 76 true 4 7,oD 77 (.bsl 4 [.tmp 76]),oD 78 (.appN 46 4 40 (.tmp 75) (.tmp 77)),kA 79 1 4,kS 1 79 78])] [7,73,74,75,76,77,78,79]
abbrev c_16_13:=kR [oM 27 5,kK 28 .add 3 27 1,oM 5 28] [7,27,28,73]
abbrev c_16_14:SCode:=(.seq (.seq c_16_4 (.cond (.tmp 26) .skip (.exit 0))) (.seq (.block 1 (.seq c_16_5 (.seq c_16_6 (.seq (.seq c_16_7 (.cond (.tmp 49) c_16_8 .skip)) (.seq c_16_9 (.seq c_16_10 (.seq c_16_11 (.cond (.tmp 73) c_16_12 .skip)))))))) c_16_13))
abbrev c_16_15:=kR [oL 80 true 2 4,kS 2 2 80] [1,3,4,5,80]
abbrev F_16:SFunc:=⟨81,(.seq c_16_0 (.seq c_16_1 (.seq c_16_2 (.seq (.seq c_16_3 (.block 0 (.loop c_16_14))) (.seq c_16_15 .ret))))),[.cell true 2 2],false⟩
theorem tf_16:z7 Go.Proofs.Tryd.prog 5 (zj [(10,0),(11,0),(14,0),(37,0),(42,0),(52,0),(69,0),(77,0)]) (fpT []) (zk [(0,[0]),(1,[10]),(2,[11,12,13,14,15,16,17]),(4,[18,19,20,21,22,23,24,25]),(6,[26,29,30,31,32,33]),(7,[34,35,36,37,38,39,40,41,42,43,44,45]),(8,[46,47,48]),(9,[49,50,51,52,53,54,55]),(10,[6,49,56,57,58,59,60,61,62,63,64]),(11,[8,65,66,67,68,69,70,71]),(12,[9,72]),(13,[7,73,74,75,76,77,78,79]),(5,[7,27,28,73]),(14,[1,3,4,5,80])]) false=some F_16:=by kernel_rfl
abbrev c_18_0:=kV [3] [kO 3 0,oD 6 (.mov (.val (.slice none 0 0)))] [0,6]
abbrev c_18_1:=kR [oD 7 (.mov (.val (.slice none 0 0)))] []
abbrev c_18_2:=kR [kI 8 0] []
abbrev c_18_3:=kR [oM 10 8,kA 11 1 3,oL 12 false 1 11,kZ 13 12,kB 14 .lss 3 10 13] [10,11,12,13]
abbrev c_18_4:=kR [oM 17 8,oM 9 17] [14,17]
abbrev c_18_5:=kR [oM 18 1,kZ 19 18,kK 20 .gtr 3 19 0] [18,19]
abbrev c_18_6:=kR [oM 21 1,oM 22 8,oM 23 1,kZ 24 23,kB 25 .rem 3 22 24,kX 26 1 21 25,oL 27 false 1 26,oM 28 8,kB 29 .add 3 27 28,oM 9 29] [20,21,22,23,24,25,26,27,28,29]
abbrev c_18_7:SCode:=.reg [([2156,2157,2158,2159],[oM 30 7,kA 31 1 3,oL 32 false 1 31,oM 33 8,kX 34 4 32 33,kA 35 1 34,oL 36 true 2 35,oM 37 9,oM 38 2,kE 39 19 0 36 37 38,oD 40 (.bsl 4 [.tmp 39]),oD 41 (.app 31 4 56 (.tmp 30) (.tmp 40)),oM 7 41]),([2156,2157,2158,2159,41],[oM 30 7,kA 31 1 3,oL 32 false 1 31,oM 33 8,kX 34 4 32 33,kA 35 1 34,oL 36 true 2 35,oM 37 9,oM 38 2,kE 39 19 0 36 37 38,oD 40 (.bsl 4 [.tmp 39]),oD 41 (.appN 31 4 56 (.tmp 30) (.tmp 40)),oM 7 41])] [9,20,30,31,32,33,34,35,36,37,38,39,40,41]
abbrev c_18_8:=kR [oM 15 8,kK 16 .add 3 15 1,oM 8 16] [15,16]
abbrev c_18_9:SCode:=(.seq (.seq c_18_3 (.cond (.tmp 14) .skip (.exit 0))) (.seq (.block 1 (.seq c_18_4 (.seq (.seq c_18_5 (.cond (.tmp 20) c_18_6 .skip)) c_18_7))) c_18_8))
abbrev c_18_10:=kR [oM 42 7,oM 6 42] [1,2,3,7,8,42]
abbrev F_18:SFunc:=⟨43,(.seq c_18_0 (.seq c_18_1 (.seq (.seq c_18_2 (.block 0 (.loop c_18_9))) (.seq c_18_10 .ret)))),[.tmp 6],false⟩
theorem tf_18:z7 Go.Proofs.Tryd.prog 6 (zj [(39,0),(40,0)]) (fpT []) (zk [(0,[0,6]),(3,[10,11,12,13]),(5,[14,17]),(6,[18,19]),(7,[20,21,22,23,24,25,26,27,28,29]),(8,[9,20,30,31,32,33,34,35,36,37,38,39,40,41]),(4,[15,16]),(9,[1,2,3,7,8,42])]) false=some F_18:=by kernel_rfl
abbrev c_21_0:=kR [kI 4 0] [4]
abbrev c_21_1:=kR [oM 5 0,kK 6 .lss 3 5 0] [5]
abbrev c_21_2:=kR [oM 7 0,kK 8 .add 3 7 1,oD 9 (.un .neg (.tmp 8)),oM 0 9] [6,7,8,9]
abbrev c_21_3:=kR [oM 10 0,oM 11 1,kB 12 .rem 3 10 11,oM 4 12] [0,1,6,10,11,12]
abbrev F_21:SFunc:=⟨13,(.seq c_21_0 (.seq (.seq c_21_1 (.cond (.tmp 6) c_21_2 .skip)) (.seq c_21_3 .ret))),[.tmp 4],false⟩
theorem tf_21:z7 Go.Proofs.Tryd.prog 7 (zj []) (fpT []) (zk [(0,[4]),(1,[5]),(2,[6,7,8,9]),(3,[0,1,6,10,11,12])]) false=some F_21:=by kernel_rfl
abbrev c_19_0:=kV [1,2] [kO 1 0,oD 2 (.new [(.string ⟨#[]⟩),(.slice none 0 0)])] [0]
abbrev c_19_1:=kR [kA 4 0 1,oL 5 false 1 4,kA 6 0 1,oL 7 false 1 6,oD 8 (.slen (.tmp 7)),oD 9 (.imm false (.tmp 8) (vI 30)),oD 10 (.ssub (.tmp 5) none (some (.tmp 9))),kA 11 0 1,kS 1 11 10] [4,5,6,7,8,9,10,11]
abbrev c_19_2:SCode:=.reg [([19],[kA 12 1 1,oL 13 false 1 12,kA 14 1 1,oL 15 false 1 14,kZ 16 15,oD 17 (.imm false (.tmp 16) (vI 12)),oD 18 (.sub 4 (.tmp 13) none (some (.tmp 17))),oD 19 (.appN 46 4 40 (.val (.slice none 0 0)) (.tmp 18)),kA 20 1 1,kS 1 20 19]),([19],[kA 12 1 1,oL 13 false 1 12,kA 14 1 1,oL 15 false 1 14,kZ 16 15,oD 17 (.imm false (.tmp 16) (vI 12)),oD 18 (.sub 4 (.tmp 13) none (some (.tmp 17))),oD 19 (.appN 46 4 40 (.val (.slice none 0 0)) (.tmp 18)),kA 20 1 1,kS 1 20 19])] [12,13,14,15,16,17,18,19,20]
abbrev c_19_3:=kR [kI 3 0] []
abbrev c_19_4:=kR [oM 21 3,kA 22 1 1,oL 23 false 1 22,kZ 24 23,kB 25 .lss 3 21 24] [21,22,23,24]
abbrev c_19_5:=kR [kA 28 1 1,oL 29 false 1 28,oM 30 3,kA 31 1 1,oL 32 false 1 31,oM 33 3,kX 34 4 32 33,kA 35 0 34,oL 36 false 1 35,kA 37 1 1,oL 38 false 1 37,oM 39 3,kX 40 4 38 39,kA 41 0 40,oL 42 false 1 41,oD 43 (.slen (.tmp 42)),oD 44 (.imm false (.tmp 43) (vI 30)),oD 45 (.ssub (.tmp 36) none (some (.tmp 44))),kX 46 4 29 30,kA 47 0 46,kS 1 47 45] [25,28,29,30,31,32,33,34,35,36,37,38,39,40,41,42,43,44,45,46,47]
abbrev c_19_6:=kR [oM 26 3,kK 27 .add 3 26 1,oM 3 27] [26,27]
abbrev c_19_7:SCode:=(.seq (.seq c_19_4 (.cond (.tmp 25) .skip (.exit 0))) (.seq (.block 1 c_19_5) c_19_6))
abbrev c_19_8:=kR [oL 48 true 2 1,kS 2 2 48] [1,3,48]
abbrev F_19:SFunc:=⟨49,(.seq c_19_0 (.seq c_19_1 (.seq c_19_2 (.seq (.seq c_19_3 (.block 0 (.loop c_19_7))) (.seq c_19_8 .ret))))),[.cell true 2 2],false⟩
theorem tf_19:z7 Go.Proofs.Tryd.prog 8 (zj [(19,1)]) (fpT []) (zk [(0,[0]),(1,[4,5,6,7,8,9,10,11]),(2,[12,13,14,15,16,17,18,19,20]),(4,[21,22,23,24]),(6,[25,28,29,30,31,32,33,34,35,36,37,38,39,40,41,42,43,44,45,46,47]),(5,[26,27]),(7,[1,3,48])]) false=some F_19:=by kernel_rfl
abbrev c_2_0:=kV [2] [kO 2 0,kI 4 0,kI 5 0] [0,4,5]
abbrev c_2_1:=kV [2036,2037,2038,2039] [oL 8 true 2 2,kC 9 15 0 8,kN 10 9] [8,9]
abbrev c_2_2:=kR [kI 4 0,kI 5 40] [1,2,10]
abbrev c_2_3:=kR [oM 11 1,kZ 12 11,kA 13 1 2,oL 14 false 1 13,kZ 15 14,kB 16 .neq 3 12 15] [4,5,10,11,12,13,14,15]
abbrev c_2_4:=kR [oM 17 1,kZ 18 17,kA 19 1 2,oL 20 false 1 19,kZ 21 20,oD 22 (.imm false (.tmp 18) (.tmp 21)),oM 4 22,kI 5 42] [1,2,16,17,18,19,20,21,22]
abbrev c_2_5:=kR [kA 23 1 2,oL 24 false 1 23,kZ 25 24,kI 26 0] [2,4,5,16,23]
abbrev c_2_6:=kR [kB 27 .lss 3 26 25] []
abbrev c_2_7:=kV [7] [oM 28 26,kX 29 4 24 26,oL 30 true 4 29,oD 7 (.new [(.string ⟨#[]⟩),(.int .i64 0),(.int .i64 0),(.bool false)]),oM 6 28,kS 4 7 30] [27,28,29,30]
abbrev c_2_8:=kV [2148,2149,2150,2151] [oM 31 1,oM 32 6,kX 33 4 31 32,oL 34 true 4 33,kA 35 1 7,oL 36 true 2 35,kD 37 20 0 34 36,kN 38 37] [7,31,32,33,34,35,36,37]
abbrev c_2_9:=kR [oM 39 6,oM 4 39,kI 5 42] [1,6,24,25,26,38,39]
abbrev c_2_10:=kR [kK 40 .add 3 26 1,oM 26 40] [4,5,6,38,40]
abbrev c_2_11:SCode:=(.seq c_2_6 (.seq (.cond (.tmp 27) .skip (.exit 0)) (.seq (.block 1 (.seq c_2_7 (.seq c_2_8 (.cond (.tmp 38) (.seq c_2_9 .ret) .skip)))) c_2_10)))
abbrev c_2_12:=kR [kI 4 0,kI 5 0] [1,24,25,26]
abbrev F_2:SFunc:=⟨41,(.seq c_2_0 (.seq (.seq c_2_1 (.cond (.tmp 10) (.seq c_2_2 .ret) .skip)) (.seq (.seq c_2_3 (.cond (.tmp 16) (.seq c_2_4 .ret) .skip)) (.seq (.seq c_2_5 (.block 0 (.loop c_2_11))) (.seq c_2_12 .ret))))),[.tmp 4,.tmp 5],false⟩
theorem tf_2:z7 Go.Proofs.Tryd.prog 9 (zj [(9,0),(37,0)]) (fpT []) (zk [(0,[0,4,5]),(1,[8,9]),(2,[1,2,10]),(3,[4,5,10,11,12,13,14,15]),(4,[1,2,16,17,18,19,20,21,22]),(5,[2,4,5,16,23]),(7,[27,28,29,30]),(8,[7,31,32,33,34,35,36,37]),(9,[1,6,24,25,26,38,39]),(10,[4,5,6,38,40]),(11,[1,24,25,26])]) false=some F_2:=by kernel_rfl
abbrev c_29_0:=kV [2] [kO 2 0,kI 4 0,kI 5 0] [0,4,5]
abbrev c_29_1:=kV [2032,2033,2034,2035] [oL 7 true 2 2,kC 8 21 0 7,kN 9 8] [7,8]
abbrev c_29_2:=kR [kI 4 0,kI 5 40] [1,2,9]
abbrev c_29_3:=kR [oM 10 1,kZ 11 10,kA 12 1 2,oL 13 false 1 12,kZ 14 13,kB 15 .neq 3 11 14] [4,5,9,10,11,12,13,14]
abbrev c_29_4:=kR [oM 16 1,kZ 17 16,kA 18 1 2,oL 19 false 1 18,kZ 20 19,oD 21 (.imm false (.tmp 17) (.tmp 20)),oM 4 21,kI 5 42] [1,2,15,16,17,18,19,20,21]
abbrev c_29_5:=kR [kI 6 0] [4,5,15]
abbrev c_29_6:=kR [oM 22 6,oM 23 1,kZ 24 23,kB 25 .lss 3 22 24] [22,23,24]
abbrev c_29_7:=kV [2128,2129,2130,2131,2180,2181,2182,2183] [oM 28 1,oM 29 6,kX 30 4 28 29,oL 31 true 4 30,kC 32 22 0 31,kN 33 32,oM 34 33,oH 35 34 false 1,oH 36 34 false 6,oG 37 34 false (.idxA 4 (.tmp 35) (.tmp 36)),kL 38 34 false true 4 37,kF 39 34 false 1 2,kL 40 34 false false 1 39,oH 41 34 false 6,oG 42 34 false (.idxA 4 (.tmp 40) (.tmp 41)),kF 43 34 false 1 42,kL 44 34 false true 2 43,oG 45 34 false (.call 23 0 [.tmp 38,.tmp 44]),oG 46 34 false (.un .not (.tmp 45)),oQ 47 34 46 true] [25,28,29,30,31,32,33,34,35,36,37,38,39,40,41,42,43,44,45,46]
abbrev c_29_8:=kR [oM 48 6,oM 4 48,kI 5 42] [1,2,6,47,48]
abbrev c_29_9:=kR [oM 26 6,kK 27 .add 3 26 1,oM 6 27] [4,5,26,27,47]
abbrev c_29_10:SCode:=(.seq (.seq c_29_6 (.cond (.tmp 25) .skip (.exit 0))) (.seq (.block 1 (.seq c_29_7 (.cond (.tmp 47) (.seq c_29_8 .ret) .skip))) c_29_9))
abbrev c_29_11:=kR [kI 4 0,kI 5 0] [1,2,6]
abbrev F_29:SFunc:=⟨49,(.seq c_29_0 (.seq (.seq c_29_1 (.cond (.tmp 9) (.seq c_29_2 .ret) .skip)) (.seq (.seq c_29_3 (.cond (.tmp 15) (.seq c_29_4 .ret) .skip)) (.seq (.seq c_29_5 (.block 0 (.loop c_29_10))) (.seq c_29_11 .ret))))),[.tmp 4,.tmp 5],false⟩
theorem tf_29:z7 Go.Proofs.Tryd.prog 10 (zj [(8,0),(32,0),(45,0)]) (fpT []) (zk [(0,[0,4,5]),(1,[7,8]),(2,[1,2,9]),(3,[4,5,9,10,11,12,13,14]),(4,[1,2,15,16,17,18,19,20,21]),(5,[4,5,15]),(6,[22,23,24]),(8,[25,28,29,30,31,32,33,34,35,36,37,38,39,40,41,42,43,44,45,46]),(9,[1,2,6,47,48]),(7,[4,5,26,27,47]),(10,[1,2,6])]) false=some F_29:=by kernel_rfl
abbrev c_4_0:=kV [1] [kO 1 0,oD 2 (.mov (.val (.string ⟨#[]⟩))),kI 3 0] [0,2,3]
abbrev c_4_1:=kV [2032,2033,2034,2035] [oL 7 true 2 1,kC 8 15 0 7,kN 9 8] [7,8]
abbrev c_4_2:=kR [oD 2 (.mov (.val (.string ⟨#[]⟩))),kI 3 40] [1,9]
abbrev c_4_3:=kV [2048,2049,2050,2051] [kA 10 0 1,oL 11 false 1 10,oD 12 (.call 24 2 [.val (.slice none 0 0),.tmp 11]),oM 4 12] [2,3,9,10,11,12]
abbrev c_4_4:SCode:=.reg [([2068,2069,2070,2071],[oM 13 4,kA 14 1 1,oL 15 false 1 14,kZ 16 15,kC 17 25 0 16,oD 18 (.appS 5 1 (.tmp 13) (.tmp 17)),oM 4 18]),([2068,2069,2070,2071,18],[oM 13 4,kA 14 1 1,oL 15 false 1 14,kZ 16 15,kC 17 25 0 16,oD 18 (.appNS 5 1 (.tmp 13) (.tmp 17)),oM 4 18])] [13,14,15,16,17,18]
abbrev c_4_5:=kR [kA 19 1 1,oL 20 false 1 19,kZ 21 20,kI 22 0] [1,19]
abbrev c_4_6:=kR [kB 23 .lss 3 22 21] []
abbrev c_4_7:=kV [6] [kX 24 4 20 22,oL 25 true 4 24,oD 6 (.new [(.string ⟨#[]⟩),(.int .i64 0),(.int .i64 0),(.bool false)]),kS 4 6 25] [23,24,25]
abbrev c_4_8:=kV [2116,2117,2118,2119] [oM 26 4,kA 27 0 6,oL 28 false 1 27,kD 29 24 2 26 28,oM 4 29] [26,27,28,29]
abbrev c_4_9:SCode:=.reg [([2136,2137,2138,2139],[oM 30 4,kA 31 1 6,kA 32 0 31,oL 33 false 1 32,kC 34 25 0 33,oD 35 (.appS 5 1 (.tmp 30) (.tmp 34)),oM 4 35]),([2136,2137,2138,2139,35],[oM 30 4,kA 31 1 6,kA 32 0 31,oL 33 false 1 32,kC 34 25 0 33,oD 35 (.appNS 5 1 (.tmp 30) (.tmp 34)),oM 4 35])] [30,31,32,33,34,35]
abbrev c_4_10:SCode:=.reg [([2160,2161,2162,2163],[oM 36 4,kA 37 1 6,kA 38 1 37,oL 39 false 1 38,kC 40 25 0 39,oD 41 (.appS 5 1 (.tmp 36) (.tmp 40)),oM 4 41]),([2160,2161,2162,2163,41],[oM 36 4,kA 37 1 6,kA 38 1 37,oL 39 false 1 38,kC 40 25 0 39,oD 41 (.appNS 5 1 (.tmp 36) (.tmp 40)),oM 4 41])] [36,37,38,39,40,41]
abbrev c_4_11:=kR [kA 42 3 6,oL 43 false 1 42] [6,42]
abbrev c_4_12:SCode:=.reg [([2180,2181,2182,2183],[oM 44 4,oD 45 (.call 25 0 [vI 1]),oD 46 (.appS 5 1 (.tmp 44) (.tmp 45)),oM 4 46]),([2180,2181,2182,2183,46],[oM 44 4,oD 45 (.call 25 0 [vI 1]),oD 46 (.appNS 5 1 (.tmp 44) (.tmp 45)),oM 4 46])] [43,44,45,46]
abbrev c_4_13:SCode:=.reg [([2192,2193,2194,2195],[oM 47 4,oD 48 (.call 25 0 [vI 0]),oD 49 (.appS 5 1 (.tmp 47) (.tmp 48)),oM 4 49]),([2192,2193,2194,2195,49],[oM 47 4,oD 48 (.call 25 0 [vI 0]),oD 49 (.appNS 5 1 (.tmp 47) (.tmp 48)),oM 4 49])] [43,47,48,49]
abbrev c_4_14:=kR [kK 50 .add 3 22 1,oM 22 50] [50]
abbrev c_4_15:SCode:=(.seq c_4_6 (.seq (.cond (.tmp 23) .skip (.exit 0)) (.seq (.block 1 (.seq c_4_7 (.seq c_4_8 (.seq c_4_9 (.seq c_4_10 (.seq c_4_11 (.cond (.tmp 43) c_4_12 c_4_13))))))) c_4_14)))
abbrev c_4_16:=kR [oM 51 4,oD 52 (.b2s (.tmp 51)),oM 2 52,kI 3 0] [4,20,21,22,51,52]
abbrev F_4:SFunc:=⟨53,(.seq c_4_0 (.seq (.seq c_4_1 (.cond (.tmp 9) (.seq c_4_2 .ret) .skip)) (.seq c_4_3 (.seq c_4_4 (.seq (.seq c_4_5 (.block 0 (.loop c_4_15))) (.seq c_4_16 .ret)))))),[.tmp 2,.tmp 3],false⟩
theorem tf_4:z7 Go.Proofs.Tryd.prog 11 (zj [(8,0),(12,2),(17,0),(29,2),(34,0),(40,0),(45,0),(48,0)]) (fpT []) (zk [(0,[0,2,3]),(1,[7,8]),(2,[1,9]),(3,[2,3,9,10,11,12]),(4,[13,14,15,16,17,18]),(5,[1,19]),(7,[23,24,25]),(8,[26,27,28,29]),(9,[30,31,32,33,34,35]),(10,[36,37,38,39,40,41]),(11,[6,42]),(12,[43,44,45,46]),(13,[43,47,48,49]),(14,[50]),(15,[4,20,21,22,51,52])]) false=some F_4:=by kernel_rfl
abbrev c_3_0:=kV [4] [oD 4 (.new [(.string ⟨#[]⟩),(.slice none 0 0)]),kI 5 0,kI 6 0] [5,6]
abbrev c_3_1:=kV [7] [oM 12 0,oM 13 1,oD 14 (.build [(.string ⟨#[]⟩),(.int .i64 0),(.bool false)] [(0,1,(.tmp 12)),(1,1,(.tmp 13))]),oD 7 (.new [(.string ⟨#[]⟩),(.int .i64 0),(.bool false)]),kS 3 7 14] [0,1,12,13,14]
abbrev c_3_2:=kV [2060,2061,2062,2063,8] [kC 15 26 1 7,oD 16 (.build [(.string ⟨#[]⟩),(.slice none 0 0)] [(0,1,(.tmp 15))]),oD 8 (.new [(.string ⟨#[]⟩),(.slice none 0 0)]),kS 2 8 16] [15,16]
abbrev c_3_3:=kV [2068,2069,2070,2071] [kC 17 27 1 7,oM 9 17] [17]
abbrev c_3_4:=kR [oM 18 9,kK 19 .lss 3 18 0,oM 20 19,oH 21 20 false 9,kG 22 20 false .gtr 3 21 8,oQ 23 20 22 true] [18,19,20,21,22]
abbrev c_3_5:=kR [oD 24 (.build [(.string ⟨#[]⟩),(.slice none 0 0)] []),kS 2 4 24,kI 5 0,kI 6 10] [7,8,9,23,24]
abbrev c_3_6:=kR [oM 25 9,kI 26 0] [5,6,9,23]
abbrev c_3_7:=kR [kB 27 .lss 3 26 25] []
abbrev c_3_8:=kV [2124,2125,2126,2127,10] [oD 29 (.mkf (.func 26) [.tmp 7] []),oD 30 (.mkf (.func 27) [.tmp 7] []),kD 31 28 1 29 30,oM 28 31,kY 32 28 0,kY 33 28 1,oD 10 (.new [(.string ⟨#[]⟩),(.int .i64 0),(.int .i64 0),(.bool false)]),kS 4 10 32,oM 11 33] [27,28,29,30,31,32,33]
abbrev c_3_9:=kR [oM 34 11,kN 35 34] [11,34]
abbrev c_3_10:=kR [oD 36 (.build [(.string ⟨#[]⟩),(.slice none 0 0)] []),kS 2 4 36,kI 5 0,kI 6 10] [7,8,10,25,26,35,36]
abbrev c_3_11:SCode:=.reg [([],[kA 37 1 8,oL 38 false 1 37,oL 39 true 4 10,oD 40 (.bsl 4 [.tmp 39]),oD 41 (.app 46 4 40 (.tmp 38) (.tmp 40)),kA 42 1 8,kS 1 42 41]),([41],[kA 37 1 8,oL 38 false 1 37,oL 39 true 4 10,oD 40 (.bsl 4 [.tmp 39]),oD 41 (.appN 46 4 40 (.tmp 38) (.tmp 40)),kA 42 1 8,kS 1 42 41])] [5,6,10,35,37,38,39,40,41,42]
abbrev c_3_12:=kR [kK 43 .add 3 26 1,oM 26 43] [43]
abbrev c_3_13:SCode:=(.seq c_3_7 (.seq (.cond (.tmp 27) .skip (.exit 0)) (.seq (.block 1 (.seq c_3_8 (.seq (.seq c_3_9 (.cond (.tmp 35) (.seq c_3_10 .ret) .skip)) c_3_11))) c_3_12)))
abbrev c_3_14:=kV [2192,2193,2194,2195] [kA 44 2 7,oL 45 false 1 44,oM 46 45,kL 47 46 false true 2 8,oG 48 46 false (.call 15 0 [.tmp 47]),oG 49 46 false (.un .not (.tmp 48)),oQ 50 46 49 true] [25,26,44,45,46,47,48,49]
abbrev c_3_15:=kR [oD 51 (.build [(.string ⟨#[]⟩),(.slice none 0 0)] []),kS 2 4 51,kI 5 0,kI 6 10] [7,8,50,51]
abbrev c_3_16:=kR [⟨(some 52),none,(some 8),.ld true 2 (.tmp 8)⟩,kA 53 1 7,⟨(some 54),none,(some 7),.ld false 1 (.tmp 53)⟩,⟨none,none,(some 4),.st 2 (.tmp 4) (.tmp 52)⟩,oM 5 54,kI 6 0] [7,8,50,52,53,54]
abbrev F_3:SFunc:=⟨55,(.seq c_3_0 (.seq c_3_1 (.seq c_3_2 (.seq c_3_3 (.seq (.seq c_3_4 (.cond (.tmp 23) (.seq c_3_5 .ret) .skip)) (.seq (.seq c_3_6 (.block 0 (.loop c_3_13))) (.seq (.seq c_3_14 (.cond (.tmp 50) (.seq c_3_15 .ret) .skip)) (.seq c_3_16 .ret)))))))),[.cell true 2 4,.tmp 5,.tmp 6],false⟩
theorem tf_3:z7 Go.Proofs.Tryd.prog 12 (zj [(15,1),(17,1),(31,1),(40,0),(48,0)]) (fpT [(15,[[(0,8),(2,7),(3,4)]])]) (zk [(0,[5,6]),(1,[0,1,12,13,14]),(2,[15,16]),(3,[17]),(4,[18,19,20,21,22]),(5,[7,8,9,23,24]),(6,[5,6,9,23]),(8,[27,28,29,30,31,32,33]),(9,[11,34]),(10,[7,8,10,25,26,35,36]),(11,[5,6,10,35,37,38,39,40,41,42]),(12,[43]),(13,[25,26,44,45,46,47,48,49]),(14,[7,8,50,51]),(15,[7,8,50,52,53,54])]) false=some F_3:=by kernel_rfl
abbrev c_5_0:=kV [2,3] [kO 2 0,kO 3 1,kI 4 0,kT 5 false] [0,1,4,5]
abbrev c_5_1:=kV [2040,2041,2042,2043] [kA 7 1 2,oL 8 false 1 7,oD 9 (.mkf (.func 30) [] [.tmp 3]),kD 10 29 1 8 9,oM 6 10] [2,3,7,8,9,10]
abbrev c_5_2:=kR [oM 11 6,kK 12 .lss 3 11 0] [11]
abbrev c_5_3:=kR [kI 4 0,kT 5 false] [6,12]
abbrev c_5_4:=kR [oM 13 6,oM 4 13,kT 5 true] [6,12,13]
abbrev F_5:SFunc:=⟨14,(.seq c_5_0 (.seq c_5_1 (.seq (.seq c_5_2 (.cond (.tmp 12) (.seq c_5_3 .ret) .skip)) (.seq c_5_4 .ret)))),[.tmp 4,.tmp 5],false⟩
theorem tf_5:z7 Go.Proofs.Tryd.prog 13 (zj [(10,1)]) (fpT []) (zk [(0,[0,1,4,5]),(1,[2,3,7,8,9,10]),(2,[11]),(3,[6,12]),(4,[6,12,13])]) false=some F_5:=by kernel_rfl
abbrev c_34_0:=kV [2,3] [kO 2 0,kO 3 1,kT 4 false] [0,1,4]
abbrev c_34_1:=kR [kA 6 0 2,oL 7 false 1 6,kA 8 0 3,oL 9 false 1 8,kB 10 .neq 9 7 9,oM 11 10,kF 12 11 false 1 2,kL 13 11 false false 1 12,oG 14 11 false (.len (.tmp 13)),kF 15 11 false 1 3,kL 16 11 false false 1 15,oG 17 11 false (.len (.tmp 16)),kH 18 11 false .neq 3 14 17,oQ 19 11 18 true] [6,7,8,9,10,11,12,13,14,15,16,17,18]
abbrev c_34_2:=kR [kT 4 false] [2,3,19]
abbrev c_34_3:=kR [kI 5 0] [4,19]
abbrev c_34_4:=kR [oM 20 5,kA 21 1 2,oL 22 false 1 21,kZ 23 22,kB 24 .lss 3 20 23] [20,21,22,23]
abbrev c_34_5:=kR [kA 27 1 2,oL 28 false 1 27,oM 29 5,kX 30 4 28 29,oL 31 true 4 30,kA 32 1 3,oL 33 false 1 32,oM 34 5,kX 35 4 33 34,oL 36 true 4 35,kB 37 .neq 46 31 36] [24,27,28,29,30,31,32,33,34,35,36]
abbrev c_34_6:=kR [kT 4 false] [2,3,5,37]
abbrev c_34_7:=kR [oM 25 5,kK 26 .add 3 25 1,oM 5 26] [4,25,26,37]
abbrev c_34_8:SCode:=(.seq (.seq c_34_4 (.cond (.tmp 24) .skip (.exit 0))) (.seq (.block 1 (.seq c_34_5 (.cond (.tmp 37) (.seq c_34_6 .ret) .skip))) c_34_7))
abbrev c_34_9:=kR [kT 4 true] [2,3,5]
abbrev F_34:SFunc:=⟨38,(.seq c_34_0 (.seq (.seq c_34_1 (.cond (.tmp 19) (.seq c_34_2 .ret) .skip)) (.seq (.seq c_34_3 (.block 0 (.loop c_34_8))) (.seq c_34_9 .ret)))),[.tmp 4],false⟩
theorem tf_34:z7 Go.Proofs.Tryd.prog 14 (zj []) (fpT []) (zk [(0,[0,1,4]),(1,[6,7,8,9,10,11,12,13,14,15,16,17,18]),(2,[2,3,19]),(3,[4,19]),(4,[20,21,22,23]),(6,[24,27,28,29,30,31,32,33,34,35,36]),(7,[2,3,5,37]),(5,[4,25,26,37]),(8,[2,3,5])]) false=some F_34:=by kernel_rfl
abbrev c_7_0:=kV [1] [kO 1 0,kT 2 false] [0,2]
abbrev c_7_1:=kV [2036,2037,2038,2039] [kA 7 0 1,oL 8 false 1 7,kC 9 31 0 8,kN 10 9,oM 11 10,kF 12 11 false 1 1,kL 13 11 false false 1 12,oG 14 11 false (.len (.tmp 13)),kG 15 11 false .gtr 3 14 8,oQ 16 11 15 true] [7,8,9,10,11,12,13,14,15]
abbrev c_7_2:=kR [kT 2 false] [1,16]
abbrev c_7_3:=kR [kA 17 1 1,oL 18 false 1 17,kZ 19 18,kI 20 0] [2,16,17]
abbrev c_7_4:=kR [kB 21 .lss 3 20 19] []
abbrev c_7_5:=kV [4] [oM 22 20,kX 23 4 18 20,oL 24 true 4 23,oD 4 (.new [(.string ⟨#[]⟩),(.int .i64 0),(.int .i64 0),(.bool false)]),oM 3 22,kS 4 4 24] [21,22,23,24]
abbrev c_7_6:=kV [2104,2105,2106,2107] [oL 25 true 4 4,kC 26 32 0 25,kN 27 26] [25,26]
abbrev c_7_7:=kR [kT 2 false] [1,3,4,18,19,20,27]
abbrev c_7_8:=kV [2128,2129,2130,2131] [oL 29 true 2 1,kA 30 0 4,oL 31 false 1 30,kD 32 13 0 29 31,oM 28 32,kY 33 28 0,kY 34 28 1,oM 5 33,oM 6 34] [2,4,6,27,28,29,30,31,32,33,34]
abbrev c_7_9:=kR [oM 35 5,oM 36 3,kB 37 .neq 3 35 36] [3,5,35,36]
abbrev c_7_10:=kR [kT 2 false] [1,18,19,20,37]
abbrev c_7_11:=kR [kK 38 .add 3 20 1,oM 20 38] [2,37,38]
abbrev c_7_12:SCode:=(.seq c_7_4 (.seq (.cond (.tmp 21) .skip (.exit 0)) (.seq (.block 1 (.seq c_7_5 (.seq (.seq c_7_6 (.cond (.tmp 27) (.seq c_7_7 .ret) .skip)) (.seq c_7_8 (.seq c_7_9 (.cond (.tmp 37) (.seq c_7_10 .ret) .skip)))))) c_7_11)))
abbrev c_7_13:=kR [kT 2 true] [1,18,19,20]
abbrev F_7:SFunc:=⟨39,(.seq c_7_0 (.seq (.seq c_7_1 (.cond (.tmp 16) (.seq c_7_2 .ret) .skip)) (.seq (.seq c_7_3 (.block 0 (.loop c_7_12))) (.seq c_7_13 .ret)))),[.tmp 2],false⟩
theorem tf_7:z7 Go.Proofs.Tryd.prog 15 (zj [(9,0),(26,0),(32,0)]) (fpT []) (zk [(0,[0,2]),(1,[7,8,9,10,11,12,13,14,15]),(2,[1,16]),(3,[2,16,17]),(5,[21,22,23,24]),(6,[25,26]),(7,[1,3,4,18,19,20,27]),(8,[2,4,6,27,28,29,30,31,32,33,34]),(9,[3,5,35,36]),(10,[1,18,19,20,37]),(11,[2,37,38]),(12,[1,18,19,20])]) false=some F_7:=by kernel_rfl
abbrev c_8_0:=kV [1] [kO 1 0,kT 2 false] [0,2]
abbrev c_8_1:=kR [kA 3 0 1,oL 4 false 1 3,kK 5 .eql 3 4 5] [3,4]
abbrev c_8_2:=kR [kA 6 1 1,oL 7 false 1 6,kK 8 .geq 3 7 1,oM 9 8,kF 10 9 true 1 1,kL 11 9 true false 1 10,kG 12 9 true .leq 3 11 4,oP 13 9 12 false,oM 2 13] [1,5,6,7,8,9,10,11,12,13]
abbrev c_8_3:=kR [kA 14 0 1,oL 15 false 1 14,kK 16 .geq 3 15 1,oM 17 16,kF 18 17 true 0 1,kL 19 17 true false 1 18,kG 20 17 true .leq 3 19 4,oP 21 17 20 false,oM 22 21,kF 23 22 true 1 1,kL 24 22 true false 1 23,kG 25 22 true .eql 3 24 0,oP 26 22 25 false,oM 2 26] [1,5,14,15,16,17,18,19,20,21,22,23,24,25,26]
abbrev F_8:SFunc:=⟨27,(.seq c_8_0 (.seq (.seq c_8_1 (.cond (.tmp 5) (.seq c_8_2 .ret) .skip)) (.seq c_8_3 .ret))),[.tmp 2],false⟩
theorem tf_8:z7 Go.Proofs.Tryd.prog 16 (zj []) (fpT []) (zk [(0,[0,2]),(1,[3,4]),(2,[1,5,6,7,8,9,10,11,12,13]),(3,[1,5,14,15,16,17,18,19,20,21,22,23,24,25,26])]) false=some F_8:=by kernel_rfl
abbrev c_9_0:=kV [2,3] [kO 2 0,kO 3 1,kT 4 false] [0,1,4]
abbrev c_9_1:=kV [2060,2061,2062,2063] [kA 5 0 2,oL 6 false 1 5,kA 7 0 3,oL 8 false 1 7,kB 9 .eql 9 6 8,oM 10 9,kF 11 10 true 1 2,kL 12 10 true false 1 11,kF 13 10 true 1 3,kL 14 10 true false 1 13,oG 15 10 true (.call 33 0 [.tmp 12,.tmp 14]),oP 16 10 15 false,oM 4 16] [2,3,5,6,7,8,9,10,11,12,13,14,15,16]
abbrev F_9:SFunc:=⟨17,(.seq c_9_0 (.seq c_9_1 .ret)),[.tmp 4],false⟩
theorem tf_9:z7 Go.Proofs.Tryd.prog 17 (zj [(15,0)]) (fpT []) (zk [(0,[0,1,4]),(1,[2,3,5,6,7,8,9,10,11,12,13,14,15,16])]) false=some F_9:=by kernel_rfl
abbrev c_30_0:=kV [2] [kO 2 0,kI 4 0,kT 5 false] [0,4,5]
abbrev c_30_1:=kR [kI 6 0] []
abbrev c_30_2:=kR [oM 7 6,kA 8 1 2,oL 9 false 1 8,kZ 10 9,kB 11 .lss 3 7 10] [7,8,9,10]
abbrev c_30_3:=kR [kA 14 1 2,oL 15 false 1 14,oM 16 6,kX 17 4 15 16,kA 18 0 17,oL 19 false 1 18,oM 20 1,kB 21 .eql 9 19 20] [11,14,15,16,17,18,19,20]
abbrev c_30_4:=kR [oM 22 6,oM 4 22,kT 5 true] [1,2,6,21,22]
abbrev c_30_5:=kR [oM 12 6,kK 13 .add 3 12 1,oM 6 13] [4,5,12,13,21]
abbrev c_30_6:SCode:=(.seq (.seq c_30_2 (.cond (.tmp 11) .skip (.exit 0))) (.seq (.block 1 (.seq c_30_3 (.cond (.tmp 21) (.seq c_30_4 .ret) .skip))) c_30_5))
abbrev c_30_7:=kR [kI 4 0,kT 5 false] [1,2,6]
abbrev F_30:SFunc:=⟨23,(.seq c_30_0 (.seq (.seq c_30_1 (.block 0 (.loop c_30_6))) (.seq c_30_7 .ret))),[.tmp 4,.tmp 5],false⟩
theorem tf_30:z7 Go.Proofs.Tryd.prog 18 (zj []) (fpT []) (zk [(0,[0,4,5]),(2,[7,8,9,10]),(4,[11,14,15,16,17,18,19,20]),(5,[1,2,6,21,22]),(3,[4,5,12,13,21]),(6,[1,2,6])]) false=some F_30:=by kernel_rfl
abbrev c_17_0:=kV [3,6] [kO 3 0,oD 6 (.new zV)] [0]
abbrev c_17_1:=kR [oD 10 (.bsl 1 [.val (.string ⟨#[]⟩),.val (.string ⟨#[97]⟩),.val (.string ⟨#[98,99]⟩),.val (.string ⟨#[195,169,116,195,169]⟩),.val (.string ⟨#[97,32,98]⟩),.val (.string ⟨#[122,122,32,116,111,112]⟩),.val (.string ⟨#[48]⟩),.val (.string ⟨#[45,55]⟩)]),oM 7 10] [10]
abbrev c_17_2:=kR [kA 11 0 3,oL 12 false 1 11] [11]
abbrev c_17_3:=kR [kK 14 .eql 3 12 1,oM 13 14] [14]
abbrev c_17_4:=kV [2064,2065,2066,2067] [oM 15 1,oD 16 (.call 7 0 [.tmp 15,vI 41]),kK 17 .sub 3 16 20,oD 18 (.build zV [(0,1,(vI 1)),(1,1,(.tmp 17))]),kS 4 6 18] [1,2,3,7,12,13,15,16,17,18]
abbrev c_17_5:=kR [kK 20 .eql 3 12 2,oM 19 20] [13,20]
abbrev c_17_6:=kV [2092,2093,2094,2095] [oM 21 7,oM 22 1,oD 23 (.call 7 0 [.tmp 22,vI 8]),kX 24 1 21 23,oL 25 false 1 24,oD 26 (.build zV [(0,1,(vI 2)),(2,1,(.tmp 25))]),kS 4 6 26] [1,2,3,7,12,19,21,22,23,24,25,26]
abbrev c_17_7:=kR [kK 28 .eql 3 12 3,oM 27 28] [7,19,28]
abbrev c_17_8:=kR [kK 29 .eql 3 12 4,oM 27 29] [12,29]
abbrev c_17_9:=kV [2136,2137,2138,2139] [oM 30 2,kK 31 .lss 3 30 1,oM 32 31,oH 33 32 false 1,oG 34 32 false (.call 7 0 [.tmp 33,vI 5]),kG 35 32 false .eql 3 34 4,oQ 36 32 35 true] [12,27,30,31,32,33,34,35]
abbrev c_17_10:=kR [oD 37 (.build zV []),kS 4 6 37] [1,2,3,36,37]
abbrev c_17_11:=kV [2168,2169,2170,2171] [kA 38 0 3,oL 39 false 1 38,oM 40 1,oM 41 2,kD 42 7 0 40 41,oD 43 (.bin .add 3 (vI 1) (.tmp 42)),oD 44 (.build zV [(0,1,(.tmp 39)),(1,1,(.tmp 43))]),kS 4 6 44] [1,2,3,36,38,39,40,41,42,43,44]
abbrev c_17_12:=kV [8] [oD 45 (.build zV [(0,1,(vI 5))]),oD 8 (.new zV),kS 4 8 45] [12,27,45]
abbrev c_17_13:=kR [kI 9 0] []
abbrev c_17_14:=kV [2192,2193,2194,2195] [oM 46 9,oM 47 1,oD 48 (.call 7 0 [.tmp 47,vI 4]),kB 49 .lss 3 46 48] [46,47,48]
abbrev c_17_15:SCode:=.reg [([2248,2249,2250,2251],[kA 52 3 8,oL 53 false 1 52,kA 54 1 3,oL 55 false 1 54,oD 56 (.build [(.int .i64 0),(.int .i64 0)] [(0,1,(.tmp 55))]),oM 57 1,kK 58 .quo 3 57 4,oM 59 9,kB 60 .add 3 58 59,oM 61 2,kE 62 19 0 56 60 61,oD 63 (.bsl 4 [.tmp 62]),oD 64 (.app 31 4 56 (.tmp 53) (.tmp 63)),kA 65 3 8,kS 1 65 64]),([2248,2249,2250,2251,64],[kA 52 3 8,oL 53 false 1 52,kA 54 1 3,oL 55 false 1 54,oD 56 (.build [(.int .i64 0),(.int .i64 0)] [(0,1,(.tmp 55))]),oM 57 1,kK 58 .quo 3 57 4,oM 59 9,kB 60 .add 3 58 59,oM 61 2,kE 62 19 0 56 60 61,oD 63 (.bsl 4 [.tmp 62]),oD 64 (.appN 31 4 56 (.tmp 53) (.tmp 63)),kA 65 3 8,kS 1 65 64])] [49,52,53,54,55,56,57,58,59,60,61,62,63,64,65]
abbrev c_17_16:=kR [oM 50 9,kK 51 .add 3 50 1,oM 9 51] [50,51]
abbrev c_17_17:SCode:=(.seq (.seq c_17_14 (.cond (.tmp 49) .skip (.exit 1))) (.seq (.block 2 c_17_15) c_17_16))
abbrev c_17_18:=kR [oL 66 true 4 8,kS 4 6 66] [1,2,3,8,9,66]
abbrev F_17:SFunc:=⟨67,(.seq c_17_0 (.seq c_17_1 (.seq (.seq c_17_2 (.block 0 (.seq c_17_3 (.cond (.tmp 13) (.seq c_17_4 .ret) (.seq c_17_5 (.cond (.tmp 19) (.seq c_17_6 .ret) (.seq (.seq c_17_7 (.cond (.tmp 27) .skip c_17_8)) (.cond (.tmp 27) (.seq (.seq c_17_9 (.cond (.tmp 36) (.seq c_17_10 .ret) .skip)) (.seq c_17_11 .ret)) .skip)))))))) (.seq c_17_12 (.seq (.seq c_17_13 (.block 1 (.loop c_17_17))) (.seq c_17_18 .ret)))))),[.cell true 4 6],false⟩
theorem tf_17:z7 Go.Proofs.Tryd.prog 19 (zj [(10,0),(16,0),(23,0),(34,0),(42,0),(48,0),(62,0),(63,0)]) (fpT []) (zk [(0,[0]),(1,[10]),(2,[11]),(3,[14]),(4,[1,2,3,7,12,13,15,16,17,18]),(5,[13,20]),(6,[1,2,3,7,12,19,21,22,23,24,25,26]),(7,[7,19,28]),(8,[12,29]),(9,[12,27,30,31,32,33,34,35]),(10,[1,2,3,36,37]),(11,[1,2,3,36,38,39,40,41,42,43,44]),(12,[12,27,45]),(14,[46,47,48]),(16,[49,52,53,54,55,56,57,58,59,60,61,62,63,64,65]),(15,[50,51]),(17,[1,2,3,8,9,66])]) false=some F_17:=by kernel_rfl
abbrev c_32_0:=kV [1] [kO 1 0,kT 2 false] [0,2]
abbrev c_32_1:=kV [2032,2033,2034,2035] [kA 6 0 1,oL 7 false 1 6,kC 8 39 0 7,kN 9 8,oM 10 9,kF 11 10 false 1 1,kL 12 10 false false 1 11,oG 13 10 false (.len (.tmp 12)),kG 14 10 false .gtr 3 13 8,oQ 15 10 14 true] [6,7,8,9,10,11,12,13,14]
abbrev c_32_2:=kR [kT 2 false] [1,15]
abbrev c_32_3:=kR [kI 3 0] [2,15]
abbrev c_32_4:=kR [oM 16 3,kA 17 1 1,oL 18 false 1 17,kZ 19 18,kB 20 .lss 3 16 19] [16,17,18,19]
abbrev c_32_5:=kV [4] [kA 23 1 1,oL 24 false 1 23,oM 25 3,kX 26 4 24 25,oL 27 true 4 26,oD 4 (.new [(.string ⟨#[]⟩),(.int .i64 0),(.int .i64 0),(.bool false)]),kS 4 4 27] [20,23,24,25,26,27]
abbrev c_32_6:=kV [2120,2121,2122,2123,2140,2141,2142,2143] [kA 28 0 4,oL 29 false 1 28,kC 30 39 0 29,kN 31 30,oM 32 31,kF 33 32 false 1 4,kL 34 32 false true 2 33,oG 35 32 false (.call 40 0 [.tmp 34]),oG 36 32 false (.un .not (.tmp 35)),oQ 37 32 36 true,oM 38 37,kF 39 38 false 3 4,kL 40 38 false false 1 39,oH 41 38 false 40,kF 42 41 true 1 4,kF 43 41 true 0 42,kL 44 41 true false 1 43,kG 45 41 true .gtr 3 44 3,oG 46 38 false (.pick (.tmp 41) (.tmp 45) (.val (.bool false))),oQ 47 38 46 true] [28,29,30,31,32,33,34,35,36,37,38,39,40,41,42,43,44,45,46]
abbrev c_32_7:=kR [kT 2 false] [1,3,4,47]
abbrev c_32_8:=kR [kI 5 0] [2,47]
abbrev c_32_9:=kR [oM 48 5,oM 49 3,kB 50 .lss 3 48 49] [48,49]
abbrev c_32_10:=kR [kA 53 1 1,oL 54 false 1 53,oM 55 5,kX 56 4 54 55,kA 57 0 56,oL 58 false 1 57,kA 59 0 4,oL 60 false 1 59,kB 61 .eql 9 58 60] [50,53,54,55,56,57,58,59,60]
abbrev c_32_11:=kR [kT 2 false] [1,3,4,5,61]
abbrev c_32_12:=kR [oM 51 5,kK 52 .add 3 51 1,oM 5 52] [2,51,52,61]
abbrev c_32_13:SCode:=(.seq (.seq c_32_9 (.cond (.tmp 50) .skip (.exit 2))) (.seq (.block 3 (.seq c_32_10 (.cond (.tmp 61) (.seq c_32_11 .ret) .skip))) c_32_12))
abbrev c_32_14:=kR [oM 21 3,kK 22 .add 3 21 1,oM 3 22] [4,5,21,22]
abbrev c_32_15:SCode:=(.seq (.seq c_32_4 (.cond (.tmp 20) .skip (.exit 0))) (.seq (.block 1 (.seq c_32_5 (.seq (.seq c_32_6 (.cond (.tmp 47) (.seq c_32_7 .ret) .skip)) (.seq c_32_8 (.block 2 (.loop c_32_13)))))) c_32_14))
abbrev c_32_16:=kR [kT 2 true] [1,3]
abbrev F_32:SFunc:=⟨62,(.seq c_32_0 (.seq (.seq c_32_1 (.cond (.tmp 15) (.seq c_32_2 .ret) .skip)) (.seq (.seq c_32_3 (.block 0 (.loop c_32_15))) (.seq c_32_16 .ret)))),[.tmp 2],false⟩
theorem tf_32:z7 Go.Proofs.Tryd.prog 21 (zj [(8,0),(30,0),(35,0)]) (fpT []) (zk [(0,[0,2]),(1,[6,7,8,9,10,11,12,13,14]),(2,[1,15]),(3,[2,15]),(4,[16,17,18,19]),(6,[20,23,24,25,26,27]),(7,[28,29,30,31,32,33,34,35,36,37,38,39,40,41,42,43,44,45,46]),(8,[1,3,4,47]),(9,[2,47]),(10,[48,49]),(12,[50,53,54,55,56,57,58,59,60]),(13,[1,3,4,5,61]),(11,[2,51,52,61]),(5,[4,5,21,22]),(14,[1,3])]) false=some F_32:=by kernel_rfl
abbrev c_11_0:=kR [oD 4 (.mov (.val (.slice none 0 0)))] [4]
abbrev c_11_1:=kV [2036,2037,2038,2039] [oM 8 1,kC 9 44 0 8,oM 7 9,kY 10 7 0,kY 11 7 1,oM 5 10,oM 6 11] [1,6,7,8,9,10,11]
abbrev c_11_2:SCode:=.reg [([],[oM 12 0,oM 13 5,oD 14 (.appS 5 1 (.tmp 12) (.tmp 13)),oM 4 14]),([14],[oM 12 0,oM 13 5,oD 14 (.appNS 5 1 (.tmp 12) (.tmp 13)),oM 4 14])] [0,5,12,13,14]
abbrev F_11:SFunc:=⟨15,(.seq c_11_0 (.seq c_11_1 (.seq c_11_2 .ret))),[.tmp 4],true⟩
theorem tf_11:z7 Go.Proofs.Tryd.prog 24 (zj [(9,0)]) (fpT []) (zk [(0,[4]),(1,[1,6,7,8,9,10,11]),(2,[0,5,12,13,14])]) true=some F_11:=by kernel_rfl
abbrev c_1_0:=kR [oD 2 (.mov (.val (.string ⟨#[]⟩)))] [2]
abbrev c_1_1:=kV [2060,2061,2062,2063] [oM 7 0,kQ 8 7,kA 9 0 8,oL 10 false 1 9,oM 11 0,kQ 12 11,kA 13 1 12,oL 14 false 1 13,kD 15 46 0 10 14,oM 6 15,kY 16 6 0,kY 17 6 1,kY 18 6 2,oM 3 16,oM 4 17,oM 5 18] [6,7,8,9,10,11,12,13,14,15,16,17,18]
abbrev c_1_2:=kR [oM 19 0,kQ 20 19,kA 21 2 20,oL 22 false 1 21,oM 23 22,oH 24 23 false 5,kG 25 23 false .neq 39 24 0,oQ 26 23 25 true] [5,19,20,21,22,23,24,25]
abbrev c_1_3:=kR [oM 27 0,kQ 28 27,kA 29 2 28,oN (.st 1 (.tmp 29) (.val (.bool true)))] [0,3,4,26,27,28,29]
abbrev c_1_4:=kR [oD 2 (.mov (.val (.string ⟨#[]⟩)))] []
abbrev c_1_5:=kR [oM 30 0,oM 31 4,kQ 32 30,kA 33 1 32,kS 1 33 31] [0,2,4,26,30,31,32,33]
abbrev c_1_6:=kR [oM 34 3,oM 2 34] [3,34]
abbrev F_1:SFunc:=⟨35,(.seq c_1_0 (.seq c_1_1 (.seq (.seq c_1_2 (.cond (.tmp 26) (.seq c_1_3 (.seq c_1_4 .ret)) .skip)) (.seq c_1_5 (.seq c_1_6 .ret))))),[.tmp 2],false⟩
theorem tf_1:z7 Go.Proofs.Tryd.prog 26 (zj [(15,0)]) (fpT []) (zk [(0,[2]),(1,[6,7,8,9,10,11,12,13,14,15,16,17,18]),(2,[5,19,20,21,22,23,24,25]),(3,[0,3,4,26,27,28,29]),(5,[0,2,4,26,30,31,32,33]),(6,[3,34])]) false=some F_1:=by kernel_rfl
abbrev c_0_0:=kR [kI 2 0] [2]
abbrev c_0_1:=kV [2060,2061,2062,2063] [oM 7 0,kQ 8 7,kA 9 0 8,oL 10 false 1 9,oM 11 0,kQ 12 11,kA 13 1 12,oL 14 false 1 13,kD 15 47 0 10 14,oM 6 15,kY 16 6 0,kY 17 6 1,kY 18 6 2,oM 3 16,oM 4 17,oM 5 18] [6,7,8,9,10,11,12,13,14,15,16,17,18]
abbrev c_0_2:=kR [oM 19 0,kQ 20 19,kA 21 2 20,oL 22 false 1 21,oM 23 22,oH 24 23 false 5,kG 25 23 false .neq 39 24 0,oQ 26 23 25 true] [5,19,20,21,22,23,24,25]
abbrev c_0_3:=kR [oM 27 0,kQ 28 27,kA 29 2 28,oN (.st 1 (.tmp 29) (.val (.bool true)))] [0,3,4,26,27,28,29]
abbrev c_0_4:=kR [kI 2 0] []
abbrev c_0_5:=kR [oM 30 0,oM 31 4,kQ 32 30,kA 33 1 32,kS 1 33 31] [0,2,4,26,30,31,32,33]
abbrev c_0_6:=kR [oM 34 3,oM 2 34] [3,34]
abbrev F_0:SFunc:=⟨35,(.seq c_0_0 (.seq c_0_1 (.seq (.seq c_0_2 (.cond (.tmp 26) (.seq c_0_3 (.seq c_0_4 .ret)) .skip)) (.seq c_0_5 (.seq c_0_6 .ret))))),[.tmp 2],false⟩
theorem tf_0:z7 Go.Proofs.Tryd.prog 27 (zj [(15,0)]) (fpT []) (zk [(0,[2]),(1,[6,7,8,9,10,11,12,13,14,15,16,17,18]),(2,[5,19,20,21,22,23,24,25]),(3,[0,3,4,26,27,28,29]),(5,[0,2,4,26,30,31,32,33]),(6,[3,34])]) false=some F_0:=by kernel_rfl
abbrev c_10_0:=kV [4] [oD 4 (.new [(.string ⟨#[]⟩),(.int .i64 0),(.int .i64 0),(.bool false)]),kT 5 false] [5]
abbrev c_10_1:=kV [2036,2037,2038,2039,6] [oM 8 0,oD 9 (.callv (.tmp 8) 1 []),oD 10 (.build [(.string ⟨#[]⟩),(.int .i64 0),(.int .i64 0),(.bool false)] [(0,1,(.tmp 9))]),oD 6 (.new [(.string ⟨#[]⟩),(.int .i64 0),(.int .i64 0),(.bool false)]),kS 4 6 10] [0,8,9,10]
abbrev c_10_2:=kV [2048,2049,2050,2051] [oM 11 1,oD 12 (.callv (.tmp 11) 1 []),kA 13 1 6,kA 14 0 13,kS 1 14 12] [11,12,13,14]
abbrev c_10_3:=kV [2064,2065,2066,2067] [oM 15 1,oD 16 (.callv (.tmp 15) 1 []),kA 17 1 6,kA 18 1 17,kS 1 18 16] [15,16,17,18]
abbrev c_10_4:=kV [2080,2081,2082,2083] [oM 19 1,oD 20 (.callv (.tmp 19) 1 []),oM 7 20] [1,19,20]
abbrev c_10_5:=kR [oM 21 7,kK 22 .eql 3 21 1,kA 23 3 6,kS 1 23 22] [21,22,23]
abbrev c_10_6:=kR [oL 24 true 4 6,oM 25 7,kK 26 .eql 3 25 0,oM 27 26,oH 28 27 false 7,kG 29 27 false .eql 3 28 1,oQ 30 27 29 true,kS 4 4 24,oM 5 30] [6,7,24,25,26,27,28,29,30]
abbrev F_10:SFunc:=⟨31,(.seq c_10_0 (.seq c_10_1 (.seq c_10_2 (.seq c_10_3 (.seq c_10_4 (.seq c_10_5 (.seq c_10_6 .ret))))))),[.cell true 4 4,.tmp 5],false⟩
theorem tf_10:z7 Go.Proofs.Tryd.prog 28 (zj [(9,1),(12,1),(16,1),(20,1)]) (fpT []) (zk [(0,[5]),(1,[0,8,9,10]),(2,[11,12,13,14]),(3,[15,16,17,18]),(4,[1,19,20]),(5,[21,22,23]),(6,[6,7,24,25,26,27,28,29,30])]) false=some F_10:=by kernel_rfl
abbrev c_38_0:=kR [kI 4 0] [4]
abbrev c_38_1:=kR [oM 6 0,kZ 7 6,kI 8 0] [6]
abbrev c_38_2:=kR [kB 9 .lss 3 8 7] []
abbrev c_38_3:=kR [oM 10 8,oM 5 10] [9,10]
abbrev c_38_4:=kV [2064,2065,2066,2067] [oM 11 1,oM 12 0,oM 13 5,kX 14 4 12 13,oL 15 true 4 14,oD 16 (.callv (.tmp 11) 1 [.tmp 15])] [11,12,13,14,15]
abbrev c_38_5:=kR [oM 17 5,oM 4 17] [0,1,5,7,8,16,17]
abbrev c_38_6:=kR [kK 18 .add 3 8 1,oM 8 18] [4,5,16,18]
abbrev c_38_7:SCode:=(.seq c_38_2 (.seq (.cond (.tmp 9) .skip (.exit 0)) (.seq (.block 1 (.seq c_38_3 (.seq c_38_4 (.cond (.tmp 16) (.seq c_38_5 .ret) .skip)))) c_38_6)))
abbrev c_38_8:=kR [oD 4 (.mov (.val (.int .i64 (-1))))] [0,1,7,8]
abbrev F_38:SFunc:=⟨19,(.seq c_38_0 (.seq (.seq c_38_1 (.block 0 (.loop c_38_7))) (.seq c_38_8 .ret))),[.tmp 4],false⟩
theorem tf_38:z7 Go.Proofs.Tryd.prog 29 (zj [(16,1)]) (fpT []) (zk [(0,[4]),(1,[6]),(3,[9,10]),(4,[11,12,13,14,15]),(5,[0,1,5,7,8,16,17]),(6,[4,5,16,18]),(7,[0,1,7,8])]) false=some F_38:=by kernel_rfl
abbrev c_6_0:=kV [2] [kO 2 0,kT 3 false] [0,3]
abbrev c_6_1:=kR [kA 4 0 2,oL 5 false 1 4,oL 6 false 1 1,kB 7 .eql 9 5 6,oM 3 7] [1,2,4,5,6,7]
abbrev F_6:SFunc:=⟨8,(.seq c_6_0 (.seq c_6_1 .ret)),[.tmp 3],false⟩
theorem tf_6:z7 Go.Proofs.Tryd.prog 30 (zj []) (fpT []) (zk [(0,[0,3]),(1,[1,2,4,5,6,7])]) false=some F_6:=by kernel_rfl
abbrev c_13_0:=kR [kT 2 false] [2]
abbrev c_13_1:=kV [2060,2061,2062,2063] [oM 4 0,oD 5 (.slen (.tmp 4)),kK 6 .lss 3 5 1,oM 7 6,oH 8 7 false 0,oG 9 7 false (.slen (.tmp 8)),kG 10 7 false .gtr 3 9 20,oQ 11 7 10 true,oM 12 11,oH 13 12 false 0,oG 14 12 false (.sidx (.tmp 13) (vI 0)),oG 15 12 false (.call 48 0 [.tmp 14]),oG 16 12 false (.un .not (.tmp 15)),oQ 17 12 16 true] [4,5,6,7,8,9,10,11,12,13,14,15,16]
abbrev c_13_2:=kR [kT 2 false] [0,17]
abbrev c_13_3:=kR [oM 18 0,oD 19 (.slen (.tmp 18)),kI 20 0] [2,17,18]
abbrev c_13_4:=kR [kB 21 .lss 3 20 19] []
abbrev c_13_5:=kR [oM 22 20,oM 3 22] [21,22]
abbrev c_13_6:=kV [2104,2105,2106,2107] [oM 23 0,oM 24 3,oD 25 (.sidx (.tmp 23) (.tmp 24)),kC 26 48 0 25,kN 27 26,oM 28 27,oH 29 28 true 0,oH 30 28 true 3,oG 31 28 true (.sidx (.tmp 29) (.tmp 30)),oG 32 28 true (.bin .lss 5 (.tmp 31) (.val (.int .u8 48))),oH 33 28 true 32,oH 34 33 false 0,oH 35 33 false 3,oG 36 33 false (.sidx (.tmp 34) (.tmp 35)),oG 37 33 false (.bin .gtr 5 (.tmp 36) (.val (.int .u8 57))),oG 38 28 true (.pick (.tmp 33) (.val (.bool true)) (.tmp 37)),oP 39 28 38 false,oM 40 39,oH 41 40 true 0,oH 42 40 true 3,oG 43 40 true (.sidx (.tmp 41) (.tmp 42)),oG 44 40 true (.bin .neq 5 (.tmp 43) (.val (.int .u8 95))),oP 45 40 44 false] [3,23,24,25,26,27,28,29,30,31,32,33,34,35,36,37,38,39,40,41,42,43,44]
abbrev c_13_7:=kR [kT 2 false] [0,19,20,45]
abbrev c_13_8:=kR [kK 46 .add 3 20 1,oM 20 46] [2,45,46]
abbrev c_13_9:SCode:=(.seq c_13_4 (.seq (.cond (.tmp 21) .skip (.exit 0)) (.seq (.block 1 (.seq c_13_5 (.seq c_13_6 (.cond (.tmp 45) (.seq c_13_7 .ret) .skip)))) c_13_8)))
abbrev c_13_10:=kR [kT 2 true] [0,19,20]
abbrev F_13:SFunc:=⟨47,(.seq c_13_0 (.seq (.seq c_13_1 (.cond (.tmp 17) (.seq c_13_2 .ret) .skip)) (.seq (.seq c_13_3 (.block 0 (.loop c_13_9))) (.seq c_13_10 .ret)))),[.tmp 2],false⟩
theorem tf_13:z7 Go.Proofs.Tryd.prog 31 (zj [(15,0),(26,0)]) (fpT []) (zk [(0,[2]),(1,[4,5,6,7,8,9,10,11,12,13,14,15,16]),(2,[0,17]),(3,[2,17,18]),(5,[21,22]),(6,[3,23,24,25,26,27,28,29,30,31,32,33,34,35,36,37,38,39,40,41,42,43,44]),(7,[0,19,20,45]),(8,[2,45,46]),(9,[0,19,20])]) false=some F_13:=by kernel_rfl
abbrev c_12_0:=kV [1] [kO 1 0,kT 2 false] [0,2]
abbrev c_12_1:=kV [2020,2021,2022,2023,2040,2041,2042,2043] [kA 3 0 1,oL 4 false 1 3,kC 5 31 0 4,kN 6 5,oM 7 6,kF 8 7 false 1 1,kL 9 7 false true 2 8,oG 10 7 false (.call 16 0 [.tmp 9]),oG 11 7 false (.un .not (.tmp 10)),oQ 12 7 11 true] [3,4,5,6,7,8,9,10,11]
abbrev c_12_2:=kR [kT 2 false] [1,12]
abbrev c_12_3:=kR [kA 13 3 1,oL 14 false 1 13,kN 15 14,oM 16 15,kF 17 16 false 1 1,kF 18 16 false 0 17,kL 19 16 false false 1 18,kG 20 16 false .leq 3 19 3,oQ 21 16 20 true,oM 2 21] [1,12,13,14,15,16,17,18,19,20,21]
abbrev F_12:SFunc:=⟨22,(.seq c_12_0 (.seq (.seq c_12_1 (.cond (.tmp 12) (.seq c_12_2 .ret) .skip)) (.seq c_12_3 .ret))),[.tmp 2],false⟩
theorem tf_12:z7 Go.Proofs.Tryd.prog 32 (zj [(5,0),(10,0)]) (fpT []) (zk [(0,[0,2]),(1,[3,4,5,6,7,8,9,10,11]),(2,[1,12]),(3,[1,12,13,14,15,16,17,18,19,20,21])]) false=some F_12:=by kernel_rfl
abbrev c_37_0:=kR [kT 4 false] [4]
abbrev c_37_1:=kR [oM 6 0,kZ 7 6,oM 8 1,kZ 9 8,kB 10 .neq 3 7 9] [6,7,8,9]
abbrev c_37_2:=kR [kT 4 false] [0,1,10]
abbrev c_37_3:=kR [oM 11 0,kZ 12 11,kI 13 0] [4,10,11]
abbrev c_37_4:=kR [kB 14 .lss 3 13 12] []
abbrev c_37_5:=kR [oM 15 13,oM 5 15] [14,15]
abbrev c_37_6:=kR [oM 16 0,oM 17 5,kX 18 4 16 17,oL 19 true 4 18,oM 20 1,oM 21 5,kX 22 4 20 21,oL 23 true 4 22,kB 24 .neq 46 19 23] [5,16,17,18,19,20,21,22,23]
abbrev c_37_7:=kR [kT 4 false] [0,1,12,13,24]
abbrev c_37_8:=kR [kK 25 .add 3 13 1,oM 13 25] [4,24,25]
abbrev c_37_9:SCode:=(.seq c_37_4 (.seq (.cond (.tmp 14) .skip (.exit 0)) (.seq (.block 1 (.seq c_37_5 (.seq c_37_6 (.cond (.tmp 24) (.seq c_37_7 .ret) .skip)))) c_37_8)))
abbrev c_37_10:=kR [kT 4 true] [0,1,12,13]
abbrev F_37:SFunc:=⟨26,(.seq c_37_0 (.seq (.seq c_37_1 (.cond (.tmp 10) (.seq c_37_2 .ret) .skip)) (.seq (.seq c_37_3 (.block 0 (.loop c_37_9))) (.seq c_37_10 .ret)))),[.tmp 4],false⟩
theorem tf_37:z7 Go.Proofs.Tryd.prog 33 (zj []) (fpT []) (zk [(0,[4]),(1,[6,7,8,9]),(2,[0,1,10]),(3,[4,10,11]),(5,[14,15]),(6,[5,16,17,18,19,20,21,22,23]),(7,[0,1,12,13,24]),(8,[4,24,25]),(9,[0,1,12,13])]) false=some F_37:=by kernel_rfl
abbrev c_31_0:=kR [kT 2 false] [2]
abbrev c_31_1:=kR [oM 6 0,oD 7 (.slen (.tmp 6)),kK 8 .lss 3 7 1,oM 9 8,oH 10 9 false 0,oG 11 9 false (.slen (.tmp 10)),kG 12 9 false .gtr 3 11 20,oQ 13 9 12 true] [6,7,8,9,10,11,12]
abbrev c_31_2:=kR [kT 2 false] [0,13]
abbrev c_31_3:=kR [kI 3 0] [2,13]
abbrev c_31_4:=kR [oM 14 3,oM 15 0,oD 16 (.slen (.tmp 15)),kB 17 .lss 3 14 16] [14,15,16]
abbrev c_31_5:=kR [oM 20 0,oM 21 3,oD 22 (.sidx (.tmp 20) (.tmp 21)),oD 23 (.bin .geq 5 (.tmp 22) (.val (.int .u8 97))),oM 24 23,oH 25 24 true 0,oH 26 24 true 3,oG 27 24 true (.sidx (.tmp 25) (.tmp 26)),oG 28 24 true (.bin .leq 5 (.tmp 27) (.val (.int .u8 122))),oP 29 24 28 false,oM 4 29] [17,20,21,22,23,24,25,26,27,28,29]
abbrev c_31_6:=kR [oM 30 0,oM 31 3,oD 32 (.sidx (.tmp 30) (.tmp 31)),oD 33 (.bin .geq 5 (.tmp 32) (.val (.int .u8 48))),oM 34 33,oH 35 34 true 0,oH 36 34 true 3,oG 37 34 true (.sidx (.tmp 35) (.tmp 36)),oG 38 34 true (.bin .leq 5 (.tmp 37) (.val (.int .u8 57))),oP 39 34 38 false,oM 40 39,oH 41 40 false 0,oH 42 40 false 3,oG 43 40 false (.sidx (.tmp 41) (.tmp 42)),oG 44 40 false (.bin .eql 5 (.tmp 43) (.val (.int .u8 95))),oQ 45 40 44 true,oM 5 45] [30,31,32,33,34,35,36,37,38,39,40,41,42,43,44,45]
abbrev c_31_7:=kR [oM 46 4,kN 47 46,oM 48 47,oH 49 48 true 3,kG 50 48 true .eql 3 49 0,oH 51 48 true 50,oH 52 51 false 5,oG 53 51 false (.un .not (.tmp 52)),oG 54 48 true (.pick (.tmp 51) (.val (.bool true)) (.tmp 53)),oP 55 48 54 false] [4,5,46,47,48,49,50,51,52,53,54]
abbrev c_31_8:=kR [kT 2 false] [0,3,55]
abbrev c_31_9:=kR [oM 18 3,kK 19 .add 3 18 1,oM 3 19] [2,18,19,55]
abbrev c_31_10:SCode:=(.seq (.seq c_31_4 (.cond (.tmp 17) .skip (.exit 0))) (.seq (.block 1 (.seq c_31_5 (.seq c_31_6 (.seq c_31_7 (.cond (.tmp 55) (.seq c_31_8 .ret) .skip))))) c_31_9))
abbrev c_31_11:=kR [kT 2 true] [0,3]
abbrev F_31:SFunc:=⟨56,(.seq c_31_0 (.seq (.seq c_31_1 (.cond (.tmp 13) (.seq c_31_2 .ret) .skip)) (.seq (.seq c_31_3 (.block 0 (.loop c_31_10))) (.seq c_31_11 .ret)))),[.tmp 2],false⟩
theorem tf_31:z7 Go.Proofs.Tryd.prog 39 (zj []) (fpT []) (zk [(0,[2]),(1,[6,7,8,9,10,11,12]),(2,[0,13]),(3,[2,13]),(4,[14,15,16]),(6,[17,20,21,22,23,24,25,26,27,28,29]),(7,[30,31,32,33,34,35,36,37,38,39,40,41,42,43,44,45]),(8,[4,5,46,47,48,49,50,51,52,53,54]),(9,[0,3,55]),(5,[2,18,19,55]),(10,[0,3])]) false=some F_31:=by kernel_rfl
abbrev c_33_0:=kV [1] [kO 1 0,kT 2 false] [0,2]
abbrev c_33_1:=kV [2020,2021,2022,2023,2072,2073,2074,2075] [kA 3 0 1,oL 4 false 1 3,kC 5 54 0 4,oM 6 5,kF 7 6 true 1 1,kL 8 6 true false 1 7,kG 9 6 true .eql 3 8 0,oP 10 6 9 false,oM 11 10,kF 12 11 false 0 1,kL 13 11 false false 1 12,kG 14 11 false .eql 3 13 5,oH 15 11 false 14,kF 16 15 true 1 1,kL 17 15 true false 1 16,oG 18 15 true (.call 54 0 [.tmp 17]),oG 19 11 false (.pick (.tmp 15) (.tmp 18) (.val (.bool false))),oQ 20 11 19 true,oM 2 20] [1,3,4,5,6,7,8,9,10,11,12,13,14,15,16,17,18,19,20]
abbrev F_33:SFunc:=⟨21,(.seq c_33_0 (.seq c_33_1 .ret)),[.tmp 2],false⟩
theorem tf_33:z7 Go.Proofs.Tryd.prog 40 (zj [(5,0),(18,0)]) (fpT []) (zk [(0,[0,2]),(1,[1,3,4,5,6,7,8,9,10,11,12,13,14,15,16,17,18,19,20])]) false=some F_33:=by kernel_rfl
abbrev c_14_0:=kR [kT 2 false] [2]
abbrev c_14_1:=kR [oM 3 0,oD 4 (.bin .geq 5 (.tmp 3) (.val (.int .u8 97))),oM 5 4,oH 6 5 true 0,oG 7 5 true (.bin .leq 5 (.tmp 6) (.val (.int .u8 122))),oP 8 5 7 false,oM 2 8] [0,3,4,5,6,7,8]
abbrev F_14:SFunc:=⟨9,(.seq c_14_0 (.seq c_14_1 .ret)),[.tmp 2],false⟩
theorem tf_14:z7 Go.Proofs.Tryd.prog 48 (zj []) (fpT []) (zk [(0,[2]),(1,[0,3,4,5,6,7,8])]) false=some F_14:=by kernel_rfl
abbrev c_35_0:=kR [kT 2 false] [2]
abbrev c_35_1:=kR [oM 3 0,kK 4 .geq 3 3 1,oM 5 4,oH 6 5 true 0,kG 7 5 true .leq 3 6 4,oP 8 5 7 false,oM 2 8] [0,3,4,5,6,7,8]
abbrev F_35:SFunc:=⟨9,(.seq c_35_0 (.seq c_35_1 .ret)),[.tmp 2],false⟩
theorem tf_35:z7 Go.Proofs.Tryd.prog 54 (zj []) (fpT []) (zk [(0,[2]),(1,[0,3,4,5,6,7,8])]) false=some F_35:=by kernel_rfl
def funcs:Nat→Option SFunc
 |4=>some F_20
 |9=>some F_2
 |11=>some F_4
 |12=>some F_3
 |13=>some F_5
 |14=>some F_34
 |15=>some F_7
 |16=>some F_8
 |17=>some F_9
 |24=>some F_11
 |26=>some F_1
 |27=>some F_0
 |28=>some F_10
 |29=>some F_38
 |30=>some F_6
 |31=>some F_13
 |32=>some F_12
 |33=>some F_37
 |48=>some F_14
 |_=>none
end Go.Sh.Cd4
end
