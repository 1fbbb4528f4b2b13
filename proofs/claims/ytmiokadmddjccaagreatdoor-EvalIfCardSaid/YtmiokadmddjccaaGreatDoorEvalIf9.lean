/- Merged texts: Base S17 Pcm OpenS Cd1 Px1 Px2 Cd6 PSign Sy1 Px5 Ze12 Px7 Pe7 Pe8 Sn1 Sy5 Sy6 Sy12 Pq Cd2 Zt7 Pt0 Pt3 Zg13. No statement of the program is proved here. -/
import Derived.Test.YtmiokadmddjccaaGreatDoorM1
import Derived.Test.YtmiokadmddjccaaGreatDoorM2
import Derived.Test.YtmiokadmddjccaaGreatDoorM3
import Derived.Test.YtmiokadmddjccaaGreatDoorM4
import Derived.Test.YtmiokadmddjccaaGreatDoorM5
import Derived.Test.YtmiokadmddjccaaGreatDoorM6
import Derived.Test.YtmiokadmddjccaaGreatDoorM7
import Derived.Test.YtmiokadmddjccaaGreatDoorM8
set_option linter.unusedSimpArgs false
set_option linter.unusedVariables false
section
namespace Go.Mor
open Go Go.RowKit
theorem str_of (s : ByteArray) : str s.data.toList = s := by cases s; simp [str]

end Go.Mor
end

section
namespace Go.Sh
open Go Go.RowKit
set_option maxHeartbeats 4000000
section
variable {P : Program} {g : Glob} {o : SOper} {l : List SOper} {K : ES → Prop} {s : ES}
end
section
variable (P : Program) (t : TypeId) (k : IntKind) (a b : Int) (x y : ByteArray)
end
section
variable {P : Program} {g : Glob} {a b c : SCode} {Q : SExit → ES → Prop} {s s' : ES} {n kill : List Nat} {l : List SOper} {r : List (List Nat × List SOper)}
def unrollW (P : Program) (g : Glob) (a : SCode) (Q : SExit → ES → Prop) : Nat → ES → Prop
 | 0, _ => False
 | k + 1, s => swp P g a (thenW (unrollW P g a Q k) Q) s
theorem z107 (k : Nat) (h : unrollW P g a Q k s) : swp P g (.loop a) Q s := by
 refine ⟨fun n s => unrollW P g a Q n s, k, ⟨s, .refl s, h⟩, fun n s h => ?_⟩
 cases n with
 | zero => exact h.elim
 | succ n =>
  refine z39 (c := a) h (fun e s he => ?_)
  cases e with
  | normal => exact ⟨n, Nat.lt_succ_self n, s, .refl s, he⟩
  | exit id => exact he
  | ret => exact he
  | pan z => exact he
end
end Go.Sh
end

section
namespace Go.Proofs.YtmiokadmddjccaaGreatDoor
open Go Go.Mor
def pickI (c n : Int) : Int := (if c < 0 then -(c + 1) else c).tmod n
end Go.Proofs.YtmiokadmddjccaaGreatDoor
end

section
namespace Go.Proofs.YtmiokadmddjccaaGreatDoor
open Go.RowKit Go.Lib
theorem str_len {s : ByteArray} (h : s.size ≤ maxLen) : s.data.toList.length ≤ 9223372036854775807 := by
 have : s.data.toList.length = s.size := Array.length_toList
 unfold maxLen at h; omega
end Go.Proofs.YtmiokadmddjccaaGreatDoor
end

section
namespace Go.Sh.Cd1
open Go Go.Sh
set_option maxRecDepth 100000
abbrev c_63_0 : SCode := .reg [([], [oD 2 (.mov (.val (.string ⟨#[]⟩)))])] [2]
abbrev c_63_1 : SCode := .reg [([], [oD 3 (.mov (.val (.string ⟨#[]⟩)))])] []
abbrev c_63_2 : SCode := .reg [([], [oD 4 (.mov (vI 0))])] []
abbrev c_63_3 : SCode := .reg [([], [oM 7 4, oM 8 0, oD 9 (.slen (.tmp 8)), oD 10 (.bin .lss 3 (.tmp 7) (.tmp 9)), oM 11 10, oH 12 11 true 3, oG 13 11 true (.slen (.tmp 12)), oG 14 11 true (.bin .lss 3 (.tmp 13) (vI 17)), oP 15 11 14 false])] [7, 8, 9, 10, 11, 12, 13, 14]
abbrev c_63_4 : SCode := .reg [([2076, 2077, 2078, 2079], [oM 16 0, oM 17 4, oD 18 (.ssub (.tmp 16) (some (.tmp 17)) none), oD 19 (.call 51 0 [.tmp 18]), oD 20 (.imm true (.tmp 19) (vI 1)), oM 5 20])] [15, 16, 17, 18, 19, 20]
abbrev c_63_5 : SCode := .reg [([2108, 2109, 2110, 2111], [oM 21 0, oM 22 4, oM 23 4, oM 24 5, oD 25 (.bin .add 3 (.tmp 23) (.tmp 24)), oD 26 (.ssub (.tmp 21) (some (.tmp 22)) (some (.tmp 25))), oD 27 (.call 87 0 [.tmp 26]), oM 6 27])] [21, 22, 23, 24, 25, 26, 27]
abbrev c_63_6 : SCode := .reg [([], [oM 28 6])] [6]
abbrev c_63_7 : SCode := .reg [([], [oM 29 3, oM 30 0, oM 31 4, oM 32 4, oM 33 5, oD 34 (.bin .add 3 (.tmp 32) (.tmp 33)), oD 35 (.ssub (.tmp 30) (some (.tmp 31)) (some (.tmp 34))), oD 36 (.bin .add 9 (.tmp 29) (.tmp 35)), oM 3 36])] [28, 29, 30, 31, 32, 33, 34, 35, 36]
abbrev c_63_8 : SCode := .reg [([], [oM 37 4, oM 38 5, oD 39 (.bin .add 3 (.tmp 37) (.tmp 38)), oM 4 39])] [5, 28, 37, 38, 39]
abbrev c_63_9 : SCode := (.seq (.seq c_63_3 (.cond (.tmp 15) .skip (.exit 0))) (.block 1 (.seq c_63_4 (.seq c_63_5 (.seq (.seq c_63_6 (.cond (.tmp 28) c_63_7 .skip)) c_63_8)))))
abbrev c_63_10 : SCode := .reg [([], [oM 40 3, oM 2 40])] [0, 3, 4, 40]
abbrev F_63 : SFunc := ⟨41, (.seq c_63_0 (.seq c_63_1 (.seq (.seq c_63_2 (.block 0 (.loop c_63_9))) (.seq c_63_10 .ret)))), [.tmp 2], false⟩
theorem tf_63 : z6 Go.Proofs.Tryz.prog 37 (hintT [(19, 0), (27, 0)]) (fpT []) (killT (klN 0 F_63.code.kl)) false = some F_63 := by kernel_rfl
abbrev c_62_0 : SCode := .reg [([3, 4], [oD 3 (.box (.tmp 1)), oD 4 (.new zV)])] [1]
abbrev c_62_1 : SCode := .reg [([], [oM 6 0])] []
abbrev c_62_2 : SCode := .reg [([], [oD 8 (.bin .eql 3 (.tmp 6) (vI 1)), oM 7 8])] [8]
abbrev c_62_3 : SCode := .reg [([], [oD 9 (.fldA 1 (.tmp 3)), oL 10 false 1 9, oM 5 10])] [6, 7, 9, 10]
abbrev c_62_4 : SCode := .reg [([], [oM 11 5, oD 12 (.bin .lss 3 (.tmp 11) (.val (.int .i64 (-1000000000000000)))), oM 13 12, oH 14 13 false 5, oG 15 13 false (.bin .gtr 3 (.tmp 14) (vI 1000000000000000)), oQ 16 13 15 true])] [11, 12, 13, 14, 15]
abbrev c_62_5 : SCode := .reg [([2076, 2077, 2078, 2079], [oD 17 (.fldA 1 (.tmp 3)), oL 18 false 1 17, oD 19 (.call 88 0 [.tmp 18, vI 1000000000000001]), oM 5 19])] [3, 16, 17, 18, 19]
abbrev c_62_6 : SCode := .reg [([], [oM 20 0, oM 21 5, oD 22 (.build zV [(0, 1, (.tmp 20)), (1, 1, (.tmp 21))]), oN (.st 4 (.tmp 4) (.tmp 22))])] [0, 3, 5, 16, 20, 21, 22]
abbrev c_62_7 : SCode := .reg [([], [oD 24 (.bin .eql 3 (.tmp 6) (vI 2)), oM 23 24])] [7, 24]
abbrev c_62_8 : SCode := .reg [([2112, 2113, 2114, 2115], [oM 25 0, oD 26 (.fldA 2 (.tmp 3)), oL 27 false 1 26, oD 28 (.call 37 0 [.tmp 27]), oD 29 (.build zV [(0, 1, (.tmp 25)), (2, 1, (.tmp 28))]), oN (.st 4 (.tmp 4) (.tmp 29))])] [0, 3, 6, 23, 25, 26, 27, 28, 29]
abbrev c_62_9 : SCode := .reg [([], [oD 31 (.bin .eql 3 (.tmp 6) (vI 3)), oM 30 31])] [23, 31]
abbrev c_62_10 : SCode := .reg [([], [oD 32 (.bin .eql 3 (.tmp 6) (vI 4)), oM 30 32])] [6, 32]
abbrev c_62_11 : SCode := .reg [([2144, 2145, 2146, 2147], [oM 33 0, oD 34 (.fldA 1 (.tmp 3)), oL 35 false 1 34, oD 36 (.call 88 0 [.tmp 35, vI 100000]), oD 37 (.bin .add 3 (vI 1) (.tmp 36)), oD 38 (.build zV [(0, 1, (.tmp 33)), (1, 1, (.tmp 37))]), oN (.st 4 (.tmp 4) (.tmp 38))])] [0, 3, 6, 30, 33, 34, 35, 36, 37, 38]
abbrev c_62_12 : SCode := .reg [([], [oD 39 (.build zV []), oN (.st 4 (.tmp 4) (.tmp 39))])] [0, 3, 6, 30, 39]
abbrev F_62 : SFunc := ⟨40, (.seq c_62_0 (.seq (.seq c_62_1 (.block 0 (.seq c_62_2 (.cond (.tmp 7) (.seq c_62_3 (.seq (.seq c_62_4 (.cond (.tmp 16) c_62_5 .skip)) (.seq c_62_6 .ret))) (.seq c_62_7 (.cond (.tmp 23) (.seq c_62_8 .ret) (.seq (.seq c_62_9 (.cond (.tmp 30) .skip c_62_10)) (.cond (.tmp 30) (.seq c_62_11 .ret) .skip)))))))) (.seq c_62_12 .ret))), [.cell true 4 4], false⟩
theorem tf_62 : z6 Go.Proofs.Tryz.prog 45 (hintT [(19, 0), (28, 0), (36, 0)]) (fpT []) (killT (klN 0 F_62.code.kl)) false = some F_62 := by kernel_rfl
abbrev c_86_0 : SCode := .reg [([], [oD 2 (.mov (vI 0))])] [2]
abbrev c_86_1 : SCode := .reg [([], [oM 8 0, oD 9 (.slen (.tmp 8)), oD 10 (.bin .eql 3 (.tmp 9) (vI 0))])] [8, 9]
abbrev c_86_2 : SCode := .reg [([], [oD 2 (.mov (vI 0))])] [0, 10]
abbrev c_86_3 : SCode := .reg [([], [oM 11 0, oD 12 (.sidx (.tmp 11) (vI 0)), oD 13 (.cvi .i64 (.tmp 12)), oM 3 13])] [2, 10, 11, 12, 13]
abbrev c_86_4 : SCode := .reg [([], [oM 14 3, oD 15 (.bin .lss 3 (.tmp 14) (vI 128))])] [14]
abbrev c_86_5 : SCode := .reg [([], [oD 2 (.mov (vI 1))])] [0, 3, 15]
abbrev c_86_6 : SCode := .reg [([], [oD 4 (.mov (vI 0))])] [2, 15]
abbrev c_86_7 : SCode := .reg [([], [oD 5 (.mov (vI 128))])] []
abbrev c_86_8 : SCode := .reg [([], [oD 6 (.mov (vI 191))])] []
abbrev c_86_9 : SCode := .reg [([], [oM 16 3, oD 17 (.bin .geq 3 (.tmp 16) (vI 194)), oM 18 17, oH 19 18 true 3, oG 20 18 true (.bin .leq 3 (.tmp 19) (vI 223)), oP 21 18 20 false])] [16, 17, 18, 19, 20]
abbrev c_86_10 : SCode := .reg [([], [oD 4 (.mov (vI 2))])] [21]
abbrev c_86_11 : SCode := .reg [([], [oM 22 3, oD 23 (.bin .geq 3 (.tmp 22) (vI 224)), oM 24 23, oH 25 24 true 3, oG 26 24 true (.bin .leq 3 (.tmp 25) (vI 239)), oP 27 24 26 false])] [21, 22, 23, 24, 25, 26]
abbrev c_86_12 : SCode := .reg [([], [oD 4 (.mov (vI 3))])] [27]
abbrev c_86_13 : SCode := .reg [([], [oM 28 3, oD 29 (.bin .geq 3 (.tmp 28) (vI 240)), oM 30 29, oH 31 30 true 3, oG 32 30 true (.bin .leq 3 (.tmp 31) (vI 244)), oP 33 30 32 false])] [27, 28, 29, 30, 31, 32]
abbrev c_86_14 : SCode := .reg [([], [oD 4 (.mov (vI 4))])] [33]
abbrev c_86_15 : SCode := .reg [([], [oM 34 4, oD 35 (.bin .eql 3 (.tmp 34) (vI 0)), oM 36 35, oH 37 36 false 0, oG 38 36 false (.slen (.tmp 37)), oH 39 36 false 4, oG 40 36 false (.bin .lss 3 (.tmp 38) (.tmp 39)), oQ 41 36 40 true])] [33, 34, 35, 36, 37, 38, 39, 40]
abbrev c_86_16 : SCode := .reg [([], [oD 2 (.mov (vI 0))])] [0, 3, 4, 5, 6, 41]
abbrev c_86_17 : SCode := .reg [([], [oM 42 3])] [2, 3, 41]
abbrev c_86_18 : SCode := .reg [([], [oD 44 (.bin .eql 3 (.tmp 42) (vI 224)), oM 43 44])] [44]
abbrev c_86_19 : SCode := .reg [([], [oD 5 (.mov (vI 160))])] [42, 43]
abbrev c_86_20 : SCode := .reg [([], [oD 46 (.bin .eql 3 (.tmp 42) (vI 237)), oM 45 46])] [43, 46]
abbrev c_86_21 : SCode := .reg [([], [oD 6 (.mov (vI 159))])] [42, 45]
abbrev c_86_22 : SCode := .reg [([], [oD 48 (.bin .eql 3 (.tmp 42) (vI 240)), oM 47 48])] [45, 48]
abbrev c_86_23 : SCode := .reg [([], [oD 5 (.mov (vI 144))])] [42, 47]
abbrev c_86_24 : SCode := .reg [([], [oD 50 (.bin .eql 3 (.tmp 42) (vI 244)), oM 49 50])] [42, 47, 50]
abbrev c_86_25 : SCode := .reg [([], [oD 6 (.mov (vI 143))])] [49]
abbrev c_86_26 : SCode := .reg [([], [oM 51 0, oD 52 (.sidx (.tmp 51) (vI 1)), oD 53 (.cvi .i64 (.tmp 52)), oM 54 5, oD 55 (.bin .lss 3 (.tmp 53) (.tmp 54)), oM 56 55, oH 57 56 false 0, oG 58 56 false (.sidx (.tmp 57) (vI 1)), oG 59 56 false (.cvi .i64 (.tmp 58)), oH 60 56 false 6, oG 61 56 false (.bin .gtr 3 (.tmp 59) (.tmp 60)), oQ 62 56 61 true])] [5, 6, 49, 51, 52, 53, 54, 55, 56, 57, 58, 59, 60, 61]
abbrev c_86_27 : SCode := .reg [([], [oD 2 (.mov (vI 0))])] [0, 4, 62]
abbrev c_86_28 : SCode := .reg [([], [oD 7 (.mov (vI 2))])] [2, 62]
abbrev c_86_29 : SCode := .reg [([], [oM 63 7, oM 64 4, oD 65 (.bin .lss 3 (.tmp 63) (.tmp 64))])] [63, 64]
abbrev c_86_30 : SCode := .reg [([], [oM 68 0, oM 69 7, oD 70 (.sidx (.tmp 68) (.tmp 69)), oD 71 (.bin .lss 5 (.tmp 70) (.val (.int .u8 128))), oM 72 71, oH 73 72 false 0, oH 74 72 false 7, oG 75 72 false (.sidx (.tmp 73) (.tmp 74)), oG 76 72 false (.bin .gtr 5 (.tmp 75) (.val (.int .u8 191))), oQ 77 72 76 true])] [65, 68, 69, 70, 71, 72, 73, 74, 75, 76]
abbrev c_86_31 : SCode := .reg [([], [oD 2 (.mov (vI 0))])] [0, 4, 7, 77]
abbrev c_86_32 : SCode := .reg [([], [oM 66 7, oD 67 (.bin .add 3 (.tmp 66) (vI 1)), oM 7 67])] [2, 66, 67, 77]
abbrev c_86_33 : SCode := (.seq (.seq c_86_29 (.cond (.tmp 65) .skip (.exit 1))) (.seq (.block 2 (.seq c_86_30 (.cond (.tmp 77) (.seq c_86_31 .ret) .skip))) c_86_32))
abbrev c_86_34 : SCode := .reg [([], [oM 78 4, oM 2 78])] [0, 4, 7, 78]
abbrev F_86 : SFunc := ⟨79, (.seq c_86_0 (.seq (.seq c_86_1 (.cond (.tmp 10) (.seq c_86_2 .ret) .skip)) (.seq c_86_3 (.seq (.seq c_86_4 (.cond (.tmp 15) (.seq c_86_5 .ret) .skip)) (.seq c_86_6 (.seq c_86_7 (.seq c_86_8 (.seq (.seq c_86_9 (.cond (.tmp 21) c_86_10 .skip)) (.seq (.seq c_86_11 (.cond (.tmp 27) c_86_12 .skip)) (.seq (.seq c_86_13 (.cond (.tmp 33) c_86_14 .skip)) (.seq (.seq c_86_15 (.cond (.tmp 41) (.seq c_86_16 .ret) .skip)) (.seq (.seq c_86_17 (.block 0 (.seq c_86_18 (.cond (.tmp 43) c_86_19 (.seq c_86_20 (.cond (.tmp 45) c_86_21 (.seq c_86_22 (.cond (.tmp 47) c_86_23 (.seq c_86_24 (.cond (.tmp 49) c_86_25 .skip)))))))))) (.seq (.seq c_86_26 (.cond (.tmp 62) (.seq c_86_27 .ret) .skip)) (.seq (.seq c_86_28 (.block 1 (.loop c_86_33))) (.seq c_86_34 .ret))))))))))))))), [.tmp 2], false⟩
theorem tf_86 : z6 Go.Proofs.Tryz.prog 51 (hintT []) (fpT []) (killT [(0, [2]), (1, [8, 9]), (2, [0, 10]), (3, [2, 10, 11, 12, 13]), (4, [14]), (5, [0, 3, 15]), (6, [2, 15]), (9, [16, 17, 18, 19, 20]), (10, [21]), (11, [21, 22, 23, 24, 25, 26]), (12, [27]), (13, [27, 28, 29, 30, 31, 32]), (14, [33]), (15, [33, 34, 35, 36, 37, 38, 39, 40]), (16, [0, 3, 4, 5, 6, 41]), (17, [2, 3, 41]), (18, [44]), (19, [42, 43]), (20, [43, 46]), (21, [42, 45]), (22, [45, 48]), (23, [42, 47]), (24, [42, 47, 50]), (25, [49]), (26, [5, 6, 49, 51, 52, 53, 54, 55, 56, 57, 58, 59, 60, 61]), (27, [0, 4, 62]), (28, [2, 62]), (29, [63, 64]), (31, [65, 68, 69, 70, 71, 72, 73, 74, 75, 76]), (32, [0, 4, 7, 77]), (30, [2, 66, 67, 77]), (33, [0, 4, 7, 78])]) false = some F_86 := by kernel_rfl
abbrev c_82_0 : SCode := .reg [([], [oD 2 (.mov (.val (.bool false)))])] [2]
abbrev c_82_1 : SCode := .reg [([], [oD 3 (.mov (vI 0))])] []
abbrev c_82_2 : SCode := .reg [([], [oM 5 3, oM 6 0, oD 7 (.slen (.tmp 6)), oD 8 (.bin .lss 3 (.tmp 5) (.tmp 7))])] [5, 6, 7]
abbrev c_82_3 : SCode := .reg [([2048, 2049, 2050, 2051], [oM 9 0, oM 10 3, oD 11 (.ssub (.tmp 9) (some (.tmp 10)) none), oD 12 (.call 51 0 [.tmp 11]), oM 4 12])] [8, 9, 10, 11, 12]
abbrev c_82_4 : SCode := .reg [([], [oM 13 4, oD 14 (.bin .eql 3 (.tmp 13) (vI 0)), oM 15 14, oH 16 15 false 0, oH 17 15 false 3, oG 18 15 false (.sidx (.tmp 16) (.tmp 17)), oG 19 15 false (.bin .lss 5 (.tmp 18) (.val (.int .u8 32))), oQ 20 15 19 true, oM 21 20, oH 22 21 false 0, oH 23 21 false 3, oG 24 21 false (.sidx (.tmp 22) (.tmp 23)), oG 25 21 false (.bin .eql 5 (.tmp 24) (.val (.int .u8 127))), oQ 26 21 25 true])] [13, 14, 15, 16, 17, 18, 19, 20, 21, 22, 23, 24, 25]
abbrev c_82_5 : SCode := .reg [([], [oD 2 (.mov (.val (.bool false)))])] [0, 3, 4, 26]
abbrev c_82_6 : SCode := .reg [([], [oM 27 3, oM 28 4, oD 29 (.bin .add 3 (.tmp 27) (.tmp 28)), oM 3 29])] [2, 4, 26, 27, 28, 29]
abbrev c_82_7 : SCode := (.seq (.seq c_82_2 (.cond (.tmp 8) .skip (.exit 0))) (.block 1 (.seq c_82_3 (.seq (.seq c_82_4 (.cond (.tmp 26) (.seq c_82_5 .ret) .skip)) c_82_6))))
abbrev c_82_8 : SCode := .reg [([], [oD 2 (.mov (.val (.bool true)))])] [0, 3]
abbrev F_82 : SFunc := ⟨30, (.seq c_82_0 (.seq (.seq c_82_1 (.block 0 (.loop c_82_7))) (.seq c_82_8 .ret))), [.tmp 2], false⟩
theorem tf_82 : z6 Go.Proofs.Tryz.prog 87 (hintT [(12, 0)]) (fpT []) (killT (klN 0 F_82.code.kl)) false = some F_82 := by kernel_rfl
abbrev c_64_0 : SCode := .reg [([], [oD 4 (.mov (vI 0))])] [4]
abbrev c_64_1 : SCode := .reg [([], [oM 5 0, oD 6 (.bin .lss 3 (.tmp 5) (vI 0))])] [5]
abbrev c_64_2 : SCode := .reg [([], [oM 7 0, oD 8 (.bin .add 3 (.tmp 7) (vI 1)), oD 9 (.un .neg (.tmp 8)), oM 0 9])] [6, 7, 8, 9]
abbrev c_64_3 : SCode := .reg [([], [oM 10 0, oM 11 1, oD 12 (.bin .rem 3 (.tmp 10) (.tmp 11)), oM 4 12])] [0, 1, 6, 10, 11, 12]
abbrev F_64 : SFunc := ⟨13, (.seq c_64_0 (.seq (.seq c_64_1 (.cond (.tmp 6) c_64_2 .skip)) (.seq c_64_3 .ret))), [.tmp 4], false⟩
theorem tf_64 : z6 Go.Proofs.Tryz.prog 88 (hintT []) (fpT []) (killT (klN 0 F_64.code.kl)) false = some F_64 := by kernel_rfl
end Go.Sh.Cd1
end

section
namespace Go.Mor
open Go
def qesc (s : List UInt8) : List UInt8 := s.flatMap fun b => if b = 34 ∨ b = 92 then [92, b] else [b]
end Go.Mor
end

section
namespace Go.Mor
open Go
set_option maxHeartbeats 2000000
def NoWord (l : List UInt8) : Prop := ∀ c r, l = c :: r → nameB c = false
theorem digB_name {b : UInt8} (h : digB b = true) : nameB b = true := by
 unfold digB at h; unfold nameB
 simp only [decide_eq_true_eq] at h
 simp [h]
theorem numG_end {l : List UInt8} (h : NoWord l) (n : Int) (z : Nat) : numG l n z = (n, z) := by
 cases l with
 | nil => rfl
 | cons c r =>
  have hc := h c r rfl
  rw [numG]
  cases hd : digB c with
  | false => simp
  | true => rw [digB_name hd] at hc; cases hc
theorem numG_digits : ∀ (m : Nat), m ≤ 1000000000000000 → ∀ (r : List UInt8) (z : Nat), numG (Lib.decDigits m ++ r) 0 z = numG r m (z + (Lib.decDigits m).length) := by
 have step : ∀ (n d : Nat), d < 10 → 10 * n + d ≤ 1000000000000000 → ∀ r z, numG (UInt8.ofNat (48 + d) :: r) n z = numG r ((10 * n + d : Nat) : Int) (z + 1) := by
  intro n d hd hn r z
  rw [numG, if_pos (by unfold digB; rw [digC d hd]; simp; omega), digC d hd]
  congr 1
  omega
 intro m
 induction m using Nat.strongRecOn with
 | _ m ih =>
  intro h1 r z
  by_cases hm : m < 10
  ·rw [Lib.decDigits_one hm]
   have := step 0 m hm (by omega) r z
   simpa using this
  ·have e0 : Lib.decDigits m = Lib.decDigits (m / 10) ++ [UInt8.ofNat (48 + m % 10)] := by rw [Lib.decDigits, dif_neg hm]
   have e1 := ih (m / 10) (by omega) (by omega) (UInt8.ofNat (48 + m % 10) :: r) z
   have e2 := step (m / 10) (m % 10) (by omega) (by omega) r (z + (Lib.decDigits (m / 10)).length)
   have e3 : 10 * (m / 10) + m % 10 = m := by omega
   rw [e3] at e2
   rw [e0, List.append_assoc, List.singleton_append, e1, e2]
   congr 1
   simp; omega
theorem z137 (m : Nat) : ∃ c r, Lib.decDigits m = c :: r ∧ digB c = true := by
 induction m using Nat.strongRecOn with
 | _ m ih =>
  by_cases hm : m < 10
  ·exact ⟨UInt8.ofNat (48 + m), [], Lib.decDigits_one hm, by unfold digB; rw [digC m hm]; simp; omega⟩
  ·obtain ⟨c, r, h1, h2⟩ := ih (m / 10) (by omega)
   exact ⟨c, r ++ [UInt8.ofNat (48 + m % 10)], by rw [Lib.decDigits, dif_neg hm, h1]; rfl, h2⟩
theorem z29 {n : Int} (h0 : 0 ≤ n) (h1 : n ≤ 1000000000000000) {post : List UInt8} (hp : NoWord post) : LexP (Lib.itoa n) [(1, n, [])] post := by
 obtain ⟨m, rfl⟩ := Int.eq_ofNat_of_zero_le h0
 have hi : Lib.itoa (m : Int) = Lib.decDigits m := by unfold Lib.itoa; simp
 rw [hi]
 obtain ⟨c, r, e1, e2⟩ := z137 m
 refine LexP.one e1 (by rintro rfl; revert e2; decide) (fun a => ⟨⟨1, m, [], a⟩, ?_, rfl⟩)
 have hg : numG (Lib.decDigits m ++ post) 0 0 = ((m : Int), (Lib.decDigits m).length) := by
  rw [numG_digits m (by omega), numG_end hp, Nat.zero_add]
 rw [e1] at hg ⊢
 rw [List.cons_append] at hg ⊢
 unfold readP
 simp only [e2, if_true, hg]
 rw [if_neg (by omega)]
theorem quoG_esc : ∀ (s acc : List UInt8) (k : Nat) (post : List UInt8), z8 (acc ++ s) = true → quoG (qesc s ++ 34 :: post) acc k = some (acc ++ s, k + (qesc s).length + 1)
 | [], acc, k, post, h => by
  rw [List.append_nil] at h
  simp [qesc, quoG_34, h]
 | b :: s, acc, k, post, h => by
  have e1 : acc ++ b :: s = (acc ++ [b]) ++ s := by simp
  rw [e1] at h
  by_cases hb : b = 34 ∨ b = 92
  ·have e2 : qesc (b :: s) = 92 :: b :: qesc s := by simp [qesc, hb]
   rw [e2, List.cons_append, List.cons_append, quoG_92, if_pos hb, quoG_esc s _ _ _ h, e1]
   simp only [List.length_cons]
   congr 2; omega
  ·have e2 : qesc (b :: s) = b :: qesc s := by simp [qesc, hb]
   rw [not_or] at hb
   rw [e2, List.cons_append, quoG_c hb.1 hb.2, quoG_esc s _ _ _ h, e1]
   simp only [List.length_cons]
   congr 2; omega
theorem lex_text {s : List UInt8} (h : z8 s = true) (post : List UInt8) : LexP (34 :: (qesc s ++ [34])) [(2, 0, s)] post := by
 refine LexP.one rfl (by decide) (fun a => ⟨⟨2, 0, s, a⟩, ?_, rfl⟩)
 have hq := quoG_esc s [] 1 post (by simpa using h)
 rw [List.nil_append] at hq
 rw [List.cons_append, List.append_assoc, List.singleton_append]
 unfold readP
 simp only [show digB 34 = false by decide, show small 34 = false by decide, Bool.false_eq_true, if_false, if_true, hq]
 congr 2
 simp; omega
def StopT (l : List UInt8) : Prop := ∀ c r, l = c :: r → c = 32 ∨ c = 41 ∨ c = 44
theorem StopT.word {l : List UInt8} (h : StopT l) : NoWord l := by
 intro c r e
 rcases h c r e with rfl | rfl | rfl <;> decide
theorem stop0 : StopT [] := by intro c r e; cases e
end Go.Mor
end

section
namespace Go.Sh.Cd6
open Go Go.Sh
set_option maxRecDepth 100000
abbrev c_66_0 : SCode := .reg [([], [oD 8 (.mov (.val (.bool false)))])] [8]
abbrev c_66_1 : SCode := .reg [([2084, 2085, 2086, 2087], [oD 21 (.call 31 0 []), oM 9 21])] [21]
abbrev c_66_2 : SCode := .reg [([2096, 2097, 2098, 2099], [oM 22 0, oD 23 (.build [(.int .i64 0), (.int .i64 0), (.string ⟨#[]⟩)] [(1, 1, (.tmp 22))]), oD 24 (.call 45 0 [vI 1, .tmp 23]), oD 25 (.fld false 1 1 (.tmp 24)), oM 10 25])] [0, 22, 23, 24, 25]
abbrev c_66_3 : SCode := .reg [([2108, 2109, 2110, 2111], [oM 26 1, oD 27 (.call 38 0 [.tmp 26, vI 100]), oM 11 27])] [1, 26, 27]
abbrev c_66_4 : SCode := .reg [([2116, 2117, 2118, 2119], [oM 28 11, oD 29 (.call 44 0 [.tmp 28]), oM 12 29])] [11, 28, 29]
abbrev c_66_5 : SCode := .reg [([2124, 2125, 2126, 2127], [oM 30 2, oD 31 (.call 37 0 [.tmp 30]), oM 13 31])] [2, 30, 31]
abbrev c_66_6 : SCode := .reg [([2132, 2133, 2134, 2135, 2136, 2137, 2138, 2139], [oM 32 3, oD 33 (.call 37 0 [.tmp 32]), oD 34 (.call 46 0 [.tmp 33]), oM 14 34])] [3, 32, 33, 34]
abbrev c_66_7 : SCode := .reg [([2184, 2185, 2186, 2187, 2188, 2189, 2190, 2191], [oM 35 12, oD 36 (.bin .add 9 (.val (.string ⟨#[109, 105, 110, 40, 110, 44, 32]⟩)) (.tmp 35)), oD 37 (.bin .add 9 (.tmp 36) (.val (.string ⟨#[41, 32, 61, 32, 105, 102, 40, 110, 32, 60, 32]⟩))), oM 38 12, oD 39 (.bin .add 9 (.tmp 37) (.tmp 38)), oD 40 (.bin .add 9 (.tmp 39) (.val (.string ⟨#[44, 32, 110, 44, 32]⟩))), oM 41 12, oD 42 (.bin .add 9 (.tmp 40) (.tmp 41)), oD 43 (.bin .add 9 (.tmp 42) (.val (.string ⟨#[41]⟩))), oM 44 10, oM 45 13, oD 46 (.call 41 0 [vI 1]), oD 47 (.call 39 0 [.tmp 43, .tmp 44, .tmp 45, .tmp 46]), oM 15 47])] [35, 36, 37, 38, 39, 40, 41, 42, 43, 44, 45, 46, 47]
abbrev c_66_8 : SCode := .reg [([2232, 2233, 2234, 2235, 2236, 2237, 2238, 2239], [oM 48 12, oD 49 (.bin .add 9 (.val (.string ⟨#[109, 97, 120, 40, 110, 44, 32]⟩)) (.tmp 48)), oD 50 (.bin .add 9 (.tmp 49) (.val (.string ⟨#[41, 32, 43, 32, 109, 105, 110, 40, 110, 44, 32]⟩))), oM 51 12, oD 52 (.bin .add 9 (.tmp 50) (.tmp 51)), oD 53 (.bin .add 9 (.tmp 52) (.val (.string ⟨#[41, 32, 61, 32, 110, 32, 43, 32]⟩))), oM 54 12, oD 55 (.bin .add 9 (.tmp 53) (.tmp 54)), oM 56 10, oM 57 13, oD 58 (.call 41 0 [vI 1]), oD 59 (.call 39 0 [.tmp 55, .tmp 56, .tmp 57, .tmp 58]), oM 16 59])] [48, 49, 50, 51, 52, 53, 54, 55, 56, 57, 58, 59]
abbrev c_66_9 : SCode := .reg [([2284, 2285, 2286, 2287, 2288, 2289, 2290, 2291], [oM 60 12, oD 61 (.bin .add 9 (.val (.string ⟨#[40, 110, 32, 60, 32]⟩)) (.tmp 60)), oD 62 (.bin .add 9 (.tmp 61) (.val (.string ⟨#[41, 32, 43, 32, 40, 110, 32, 61, 32]⟩))), oM 63 12, oD 64 (.bin .add 9 (.tmp 62) (.tmp 63)), oD 65 (.bin .add 9 (.tmp 64) (.val (.string ⟨#[41, 32, 43, 32, 40, 110, 32, 62, 32]⟩))), oM 66 12, oD 67 (.bin .add 9 (.tmp 65) (.tmp 66)), oD 68 (.bin .add 9 (.tmp 67) (.val (.string ⟨#[41]⟩))), oM 69 10, oM 70 13, oD 71 (.call 41 0 [vI 1]), oD 72 (.call 39 0 [.tmp 68, .tmp 69, .tmp 70, .tmp 71]), oM 17 72])] [12, 60, 61, 62, 63, 64, 65, 66, 67, 68, 69, 70, 71, 72]
abbrev c_66_10 : SCode := .reg [([2336, 2337, 2338, 2339, 2340, 2341, 2342, 2343], [oM 73 14, oD 74 (.bin .add 9 (.val (.string ⟨#[40, 116, 32, 60, 32]⟩)) (.tmp 73)), oD 75 (.bin .add 9 (.tmp 74) (.val (.string ⟨#[41, 32, 43, 32, 40, 116, 32, 61, 32]⟩))), oM 76 14, oD 77 (.bin .add 9 (.tmp 75) (.tmp 76)), oD 78 (.bin .add 9 (.tmp 77) (.val (.string ⟨#[41, 32, 43, 32, 40, 116, 32, 62, 32]⟩))), oM 79 14, oD 80 (.bin .add 9 (.tmp 78) (.tmp 79)), oD 81 (.bin .add 9 (.tmp 80) (.val (.string ⟨#[41]⟩))), oM 82 10, oM 83 13, oD 84 (.call 41 0 [vI 1]), oD 85 (.call 39 0 [.tmp 81, .tmp 82, .tmp 83, .tmp 84]), oM 18 85])] [73, 74, 75, 76, 77, 78, 79, 80, 81, 82, 83, 84, 85]
abbrev c_66_11 : SCode := .reg [([2388, 2389, 2390, 2391, 2392, 2393, 2394, 2395], [oM 86 14, oD 87 (.bin .add 9 (.val (.string ⟨#[40, 116, 32, 60, 61, 32]⟩)) (.tmp 86)), oD 88 (.bin .add 9 (.tmp 87) (.val (.string ⟨#[41, 32, 43, 32, 40, 116, 32, 62, 61, 32]⟩))), oM 89 14, oD 90 (.bin .add 9 (.tmp 88) (.tmp 89)), oD 91 (.bin .add 9 (.tmp 90) (.val (.string ⟨#[41, 32, 45, 32, 40, 116, 32, 61, 32]⟩))), oM 92 14, oD 93 (.bin .add 9 (.tmp 91) (.tmp 92)), oD 94 (.bin .add 9 (.tmp 93) (.val (.string ⟨#[41]⟩))), oM 95 10, oM 96 13, oD 97 (.call 41 0 [vI 1]), oD 98 (.call 39 0 [.tmp 94, .tmp 95, .tmp 96, .tmp 97]), oM 19 98])] [86, 87, 88, 89, 90, 91, 92, 93, 94, 95, 96, 97, 98]
abbrev c_66_12 : SCode := .reg [([2428, 2429, 2430, 2431, 2432, 2433, 2434, 2435], [oM 99 14, oD 100 (.bin .add 9 (.val (.string ⟨#[105, 102, 40, 116, 32, 60, 62, 32]⟩)) (.tmp 99)), oD 101 (.bin .add 9 (.tmp 100) (.val (.string ⟨#[44, 32, 49, 44, 32, 48, 41, 32, 61, 32, 40, 116, 32, 60, 62, 32]⟩))), oM 102 14, oD 103 (.bin .add 9 (.tmp 101) (.tmp 102)), oD 104 (.bin .add 9 (.tmp 103) (.val (.string ⟨#[41]⟩))), oM 105 10, oM 106 13, oD 107 (.call 41 0 [vI 1]), oD 108 (.call 39 0 [.tmp 104, .tmp 105, .tmp 106, .tmp 107]), oM 20 108])] [10, 13, 14, 99, 100, 101, 102, 103, 104, 105, 106, 107, 108]
abbrev c_66_13 : SCode := .reg [([], [oM 109 9, oM 110 109, oH 111 110 true 15, oP 112 110 111 false, oM 113 112, oH 114 113 true 16, oP 115 113 114 false, oM 116 115, oH 117 116 true 17, oP 118 116 117 false, oM 119 118, oH 120 119 true 18, oP 121 119 120 false, oM 122 121, oH 123 122 true 19, oP 124 122 123 false, oM 125 124, oH 126 125 true 20, oP 127 125 126 false, oM 8 127])] [9, 15, 16, 17, 18, 19, 20, 109, 110, 111, 112, 113, 114, 115, 116, 117, 118, 119, 120, 121, 122, 123, 124, 125, 126, 127]
abbrev F_66 : SFunc := ⟨128, (.seq c_66_0 (.seq c_66_1 (.seq c_66_2 (.seq c_66_3 (.seq c_66_4 (.seq c_66_5 (.seq c_66_6 (.seq c_66_7 (.seq c_66_8 (.seq c_66_9 (.seq c_66_10 (.seq c_66_11 (.seq c_66_12 (.seq c_66_13 .ret)))))))))))))), [.tmp 8], false⟩
theorem tf_66 : z6 Go.Proofs.Tryz.prog 8 (hintT [(21, 0), (24, 0), (27, 0), (29, 0), (31, 0), (33, 0), (34, 0), (46, 0), (47, 0), (58, 0), (59, 0), (71, 0), (72, 0), (84, 0), (85, 0), (97, 0), (98, 0), (107, 0), (108, 0)]) (fpT []) (killT (klN 0 F_66.code.kl)) false = some F_66 := by kernel_rfl
abbrev c_74_0 : SCode := .reg [([], [oD 4 (.mov (vI 0))])] [4]
abbrev c_74_1 : SCode := .reg [([], [oM 5 0, oD 6 (.bin .lss 3 (.tmp 5) (vI 0))])] [5]
abbrev c_74_2 : SCode := .reg [([], [oM 7 0, oD 8 (.bin .add 3 (.tmp 7) (vI 1)), oD 9 (.un .neg (.tmp 8)), oM 0 9])] [6, 7, 8, 9]
abbrev c_74_3 : SCode := .reg [([], [oM 10 0, oM 11 1, oD 12 (.bin .rem 3 (.tmp 10) (.tmp 11)), oM 4 12])] [0, 1, 6, 10, 11, 12]
abbrev F_74 : SFunc := ⟨13, (.seq c_74_0 (.seq (.seq c_74_1 (.cond (.tmp 6) c_74_2 .skip)) (.seq c_74_3 .ret))), [.tmp 4], false⟩
theorem tf_74 : z6 Go.Proofs.Tryz.prog 38 (hintT []) (fpT []) (killT (klN 0 F_74.code.kl)) false = some F_74 := by kernel_rfl
end Go.Sh.Cd6
end

section
namespace Go.Mor
open Go
set_option maxHeartbeats 4000000
def signN (n b0 b1 b2 b3 : Nat) : Nat :=
 if b0 < 128 then 1
 else if 194 ≤ b0 ∧ b0 ≤ 223 then (if n < 2 ∨ b1 < 128 ∨ 191 < b1 then 0 else 2)
 else if 224 ≤ b0 ∧ b0 ≤ 239 then (if n < 3 ∨ b1 < (if b0 = 224 then 160 else 128) ∨ (if b0 = 237 then 159 else 191) < b1 ∨ b2 < 128 ∨ 191 < b2 then 0 else 3)
 else if 240 ≤ b0 ∧ b0 ≤ 244 then (if n < 4 ∨ b1 < (if b0 = 240 then 144 else 128) ∨ (if b0 = 244 then 143 else 191) < b1 ∨ b2 < 128 ∨ 191 < b2 ∨ b3 < 128 ∨ 191 < b3 then 0 else 4)
 else 0
def signL (l : List UInt8) : Nat := if l = [] then 0 else signN l.length (l.getD 0 0).toNat (l.getD 1 0).toNat (l.getD 2 0).toNat (l.getD 3 0).toNat
theorem signN_decode (n b0 b1 b2 b3 : Nat) (h0 : b0 < 256) (h1 : b1 < 256) (h2 : b2 < 256) (h3 : b3 < 256) :
  signN n b0 b1 b2 b3 = if (Lib.decodeN n b0 b1 b2 b3).1 = 65533 ∧ (Lib.decodeN n b0 b1 b2 b3).2 = 1 then 0 else (Lib.decodeN n b0 b1 b2 b3).2 := by
 unfold signN Lib.decodeN
 repeat' split
 all_goals (simp_all <;> omega)
end Go.Mor
end

section
namespace Go.Proofs.YtmiokadmddjccaaGreatDoor
open Go Go.RowKit Go.Mor Go.Sh Go.Sh.Cd1
set_option maxRecDepth 100000
set_option maxHeartbeats 2000000
theorem pick_ok (g : Sh.Glob) (c n : Int) (hc0 : -9223372036854775808 ≤ c) (hc1 : c ≤ 9223372036854775807) (hn : n ≠ 0) : SCalls Tryz.prog g 88 [I c, I n] [] (I (pickI c n)) [] := by
 refine z7 hmix tf_64 rfl ?_
 have hr := fun (a : Int) => bin_rem Tryz.prog 3 .i64 a n hn
 unfold pickI
 by_cases h : c < 0
 ·have w1 : IntKind.i64.wrap (c + 1) = c + 1 := wrap64 (by omega) (by omega)
  have w2 : IntKind.i64.wrap (-(c + 1)) = -(c + 1) := wrap64 (by omega) (by omega)
  have w3 : IntKind.i64.wrap (0 - (c + 1)) = -(c + 1) := by rw [wrap64 (by omega) (by omega)]; omega
  simp only [vcA, seval, vV, h, w1, w2, w3, hn]
 ·simp only [vcA, seval, vV, h, hn]
end Go.Proofs.YtmiokadmddjccaaGreatDoor
end

section
namespace Go.Mor
open Go
set_option maxHeartbeats 2000000
theorem lex_whole {t : List UInt8} {ts : List T3} (h : LexP t ts []) : ∃ L, L.map er = ts ∧ lexG (t.length + 1) t 0 [] = some (.ok L) := by
 obtain ⟨f', L, h1, h2, h3⟩ := h (t.length + 1) 0 [] (by simp)
 obtain ⟨g, rfl⟩ : ∃ g, f' = g + 1 := ⟨f' - 1, by simp at h1; omega⟩
 rw [List.append_nil, List.nil_append] at h3
 exact ⟨L, h2, by rw [h3, lexG]⟩
end Go.Mor
end

section
namespace Go.Proofs.YtmiokadmddjccaaGreatDoor
open Go Go.RowKit Go.Mor Go.Sh Go.Sh.Cd1 Go.Sh.Cd4 Go.Sh.Cd5
set_option maxRecDepth 100000
set_option maxHeartbeats 4000000
theorem qesc_len (s : List UInt8) : (qesc s).length ≤ 2 * s.length := by
 unfold qesc
 induction s with
 | nil => simp
 | cons b s ih => rw [List.flatMap_cons, List.length_append, List.length_cons]; split <;> simp only [List.length_cons, List.length_nil] <;> omega
end Go.Proofs.YtmiokadmddjccaaGreatDoor
end

section
namespace Go.Mor
open Go
set_option maxHeartbeats 2000000
set_option maxRecDepth 100000
def fixL (t : List UInt8) (a : Nat) : List Pc := match lexG (t.length + 1) t a [] with
 | some (.ok L) => L
 | _ => []
def snocs (acc L : List Pc) : List Pc := L.foldl (fun x q => x ++ [q]) acc
theorem snocs_app : ∀ (L acc : List Pc), snocs acc L = acc ++ L
 | [], acc => by simp [snocs]
 | q :: L, acc => by
  show snocs (acc ++ [q]) L = _
  rw [snocs_app L]; simp
theorem LexP.fix {t : List UInt8} {ts : List T3} {post : List UInt8} (n : Nat) (hn : Nat.ble n t.length = true) (hL : ∀ a, (fixL t a).map er = ts)
  (h : ∀ f a acc, lexG (f + n) (t ++ post) a acc = lexG f post (a + t.length) (snocs acc (fixL t a))) : LexP t ts post := by
 have hn := Nat.le_of_ble_eq_true hn
 intro f a acc hf
 obtain ⟨g, rfl⟩ : ∃ g, f = g + n := ⟨f - n, by omega⟩
 refine ⟨g, fixL t a, by omega, hL a, ?_⟩
 rw [h g a acc, snocs_app]
def tks : List T3 → (Nat → Nat) → List Pc
 | [], _ => []
 | t :: r, p => ⟨t.1, t.2.1, t.2.2, p 0⟩ :: tks r (fun i => p (i + 1))
theorem tks_of : ∀ (L : List Pc), ∃ p, L = tks (L.map er) p
 | [] => ⟨fun _ => 0, rfl⟩
 | q :: L => by
  obtain ⟨p, h⟩ := tks_of L
  refine ⟨fun i => match i with | 0 => q.p | i + 1 => p i, ?_⟩
  rw [List.map_cons, tks]
  simp only
  rw [← h]; rfl
theorem z44 {t : List UInt8} {ts : List T3} {e : V} (f : Nat) (hl : t.length ≤ 200) (h : LexP t ts []) (hp : ∀ p sz, pE (tks ts p) sz f 1 0 = some (.ok e ts.length)) (hr : rightE e = true) : parseV f t = some (e, 0, 0) := by
 obtain ⟨L, h1, h2⟩ := lex_whole h
 obtain ⟨p, hL⟩ := tks_of L
 have hp := hp p t.length
 rw [← h1, ← hL] at hp
 have hlen : (L.map er).length = L.length := by simp
 rw [hlen] at hp
 unfold parseV
 rw [if_neg (by omega), h2]
 simp only
 rw [hp]
 simp only
 rw [if_neg (by omega), if_pos hr]
end Go.Mor
end

section
namespace Go.Mor
open Go
open Go.Proofs.YtmiokadmddjccaaGreatDoor (cmpV z97 cmpV_zero cmpV_rng cmpV_eq cmpV_anti ordI thenI ordS cmpL)
set_option maxHeartbeats 2000000
set_option maxRecDepth 100000
def oneE (b : Bool) : V := if b then numE 1 else numE 0
def oEq (c : Int) : V := oneE (decide (c = 0))
def oNe (c : Int) : V := oneE (decide (c ≠ 0))
def oLt (c : Int) : V := oneE (decide (c < 0))
def oGt (c : Int) : V := oneE (decide (0 < c))
def oLe (c : Int) : V := oneE (decide (c ≤ 0))
def oGe (c : Int) : V := oneE (decide (0 ≤ c))
section
variable {fs : List Fld} {vals : List V} {d : Nat} {x : Int} {t : List UInt8} {a b c : V} {s : List UInt8} {n : Int}
theorem wo_n : worthV sFs (sVals x t) (d + 1) fn' = .mk 1 x [] [] := by kernel_rfl
theorem wo_t : worthV sFs (sVals x t) (d + 1) ft' = .mk 2 0 t [] := by kernel_rfl
theorem wo_N : worthV fs vals (d + 1) (eN n) = numE n := by kernel_rfl
theorem wo_T : worthV fs vals (d + 1) (eT s) = textE s := by kernel_rfl
theorem wo_add : worthV fs vals (d + 1) (eO [43] a b) = numE ((worthV fs vals d a).n + (worthV fs vals d b).n) := by kernel_rfl
theorem wo_sub : worthV fs vals (d + 1) (eO [45] a b) = numE ((worthV fs vals d a).n + -(worthV fs vals d b).n) := by kernel_rfl
theorem wo_eq : worthV fs vals (d + 1) (eO [61] a b) = oEq (cmpV (worthV fs vals d a) (worthV fs vals d b)) := by kernel_rfl
theorem wo_ne : worthV fs vals (d + 1) (eO [60, 62] a b) = oNe (cmpV (worthV fs vals d a) (worthV fs vals d b)) := by kernel_rfl
theorem wo_lt : worthV fs vals (d + 1) (eO [60] a b) = oLt (cmpV (worthV fs vals d a) (worthV fs vals d b)) := by kernel_rfl
theorem wo_gt : worthV fs vals (d + 1) (eO [62] a b) = oGt (cmpV (worthV fs vals d a) (worthV fs vals d b)) := by kernel_rfl
theorem wo_le : worthV fs vals (d + 1) (eO [60, 61] a b) = oLe (cmpV (worthV fs vals d a) (worthV fs vals d b)) := by kernel_rfl
theorem wo_ge : worthV fs vals (d + 1) (eO [62, 61] a b) = oGe (cmpV (worthV fs vals d a) (worthV fs vals d b)) := by kernel_rfl
theorem wo_if : worthV fs vals (d + 1) (eC nIf [a, b, c]) = if (worthV fs vals d a).n ≠ 0 then worthV fs vals d b else worthV fs vals d c := by kernel_rfl
theorem wo_min : worthV fs vals (d + 1) (eC nMin [a, b]) = numE (min (worthV fs vals d a).n (worthV fs vals d b).n) := by kernel_rfl
theorem wo_max : worthV fs vals (d + 1) (eC nMax [a, b]) = numE (max (worthV fs vals d a).n (worthV fs vals d b).n) := by kernel_rfl
theorem num_n : (numE n).n = cutN n := rfl
theorem mk_n {k : Int} {l : List V} : (V.mk k n s l).n = n := rfl
theorem one_n (p : Bool) : (oneE p).n = if p then 1 else 0 := by cases p <;> rfl
theorem cmp_num (a b : Int) : cmpV (.mk 1 a [] []) (.mk 1 b [] []) = ordI a b := by
 rw [cmpV_eq]
 show thenI (ordI 1 1) (thenI (ordI a b) (thenI (ordS [] []) (cmpL [] []))) = _
 have h1 : ordI 1 1 = 0 := by decide
 have h2 : ordS [] [] = 0 := by decide
 have h3 : cmpL [] [] = 0 := by unfold cmpL; rfl
 rw [h1, h2, h3]
 unfold thenI
 simp
 intro h; exact h.symm
end
section
variable {x y : Int} {t u : List UInt8}
theorem if_one (hx : Rg x) (hy : 0 ≤ y ∧ y < 100) : worthV sFs (sVals x t) 8 (eO [61] (eC nMin [fn', eN y]) (eC nIf [eO [60] fn' (eN y), fn', eN y])) = numE 1 := by
 have cy : cutN y = y := cutN_id (by omega) (by omega)
 have cm : cutN (min x y) = min x y := cutN_id (by have := hx.1; omega) (by omega)
 simp only [wo_eq, wo_min, wo_if, wo_lt, wo_n, wo_N, mk_n, num_n, cy]
 unfold numE oLt oEq
 rw [cm, cy, cmp_num, one_n]
 by_cases h : x < y
 ·have h1 : ordI x y = -1 := by unfold ordI; rw [if_pos h]
  rw [h1, if_pos (by decide), cmp_num, Int.min_eq_left (by omega)]
  have h2 : ordI x x = 0 := by unfold ordI; rw [if_neg (by omega), if_neg (by omega)]
  rw [h2]; rfl
 ·have h1 : ¬ ordI x y < 0 := by unfold ordI; rw [if_neg h]; split <;> omega
  rw [if_neg (by simpa using h1), cmp_num, Int.min_eq_right (by omega)]
  have h2 : ordI y y = 0 := by unfold ordI; rw [if_neg (by omega), if_neg (by omega)]
  rw [h2]; rfl
theorem if_two (hx : Rg x) (hy : 0 ≤ y ∧ y < 100) : worthV sFs (sVals x t) 8 (eO [61] (eO [43] (eC nMax [fn', eN y]) (eC nMin [fn', eN y])) (eO [43] fn' (eN y))) = numE 1 := by
 have cy : cutN y = y := cutN_id (by omega) (by omega)
 have c1 : cutN (min x y) = min x y := cutN_id (by have := hx.1; omega) (by omega)
 have c2 : cutN (max x y) = max x y := cutN_id (by omega) (by have := hx.2; omega)
 simp only [wo_eq, wo_min, wo_max, wo_add, wo_n, wo_N, mk_n, num_n, cy, c1, c2]
 rw [show max x y + min x y = x + y by omega, z97]; rfl
theorem three_c (c : Int) : numE ((numE ((oLt c).n + (oEq c).n)).n + (oGt c).n) = numE 1 := by
 unfold oLt oEq oGt
 simp only [num_n, one_n]
 rcases Int.lt_trichotomy c 0 with h | h | h
 ·rw [decide_eq_true h, decide_eq_false (by omega), decide_eq_false (by omega)]; rfl
 ·rw [decide_eq_false (by omega), decide_eq_true h, decide_eq_false (by omega)]; rfl
 ·rw [decide_eq_false (by omega), decide_eq_false (by omega), decide_eq_true h]; rfl
theorem if_three : worthV sFs (sVals x t) 8 (eO [43] (eO [43] (eO [60] fn' (eN y)) (eO [61] fn' (eN y))) (eO [62] fn' (eN y))) = numE 1 := by
 simp only [wo_eq, wo_lt, wo_gt, wo_add, wo_n, wo_N]
 exact three_c _
theorem if_four : worthV sFs (sVals x t) 8 (eO [43] (eO [43] (eO [60] ft' (eT u)) (eO [61] ft' (eT u))) (eO [62] ft' (eT u))) = numE 1 := by
 simp only [wo_eq, wo_lt, wo_gt, wo_add, wo_t, wo_T]
 exact three_c _
theorem if_five : worthV sFs (sVals x t) 8 (eO [45] (eO [43] (eO [60, 61] ft' (eT u)) (eO [62, 61] ft' (eT u))) (eO [61] ft' (eT u))) = numE 1 := by
 simp only [wo_eq, wo_le, wo_ge, wo_add, wo_sub, wo_t, wo_T]
 generalize cmpV _ _ = c
 unfold oLe oGe oEq
 simp only [num_n, one_n]
 rcases Int.lt_trichotomy c 0 with h | h | h
 ·rw [decide_eq_true (show c ≤ 0 by omega), decide_eq_false (show ¬ 0 ≤ c by omega), decide_eq_false (show ¬ c = 0 by omega)]; rfl
 ·rw [decide_eq_true (show c ≤ 0 by omega), decide_eq_true (show 0 ≤ c by omega), decide_eq_true h]; rfl
 ·rw [decide_eq_false (show ¬ c ≤ 0 by omega), decide_eq_true (show 0 ≤ c by omega), decide_eq_false (show ¬ c = 0 by omega)]; rfl
theorem if_six : worthV sFs (sVals x t) 8 (eO [61] (eC nIf [eO [60, 62] ft' (eT u), eN 1, eN 0]) (eO [60, 62] ft' (eT u))) = numE 1 := by
 simp only [wo_eq, wo_ne, wo_if, wo_N, wo_t, wo_T]
 unfold oNe
 generalize decide (cmpV _ _ ≠ 0) = p
 unfold oEq
 rw [one_n]
 cases p
 ·rw [show (oneE false) = numE 0 from rfl, if_neg (by decide), z97]; rfl
 ·rw [show (oneE true) = numE 1 from rfl, if_pos (by decide), z97]; rfl
end
section
variable {gs : List (List UInt8)} {x : Int}
end
theorem z100 {n : Int} (h : Rg n) : (Lib.itoa n).length ≤ 17 := by
 have key : ∀ m : Nat, m ≤ 1000000000000000 → (Lib.decDigits m).length ≤ 16 := fun m hm => by
  rw [Lib.decDigits_length]
  by_cases h0 : Lib.nDigits m ≤ 16
  ·exact h0
  ·exfalso
   have : 10 ^ 16 ≤ m := by
    have h1 : ∀ (k u : Nat), k + 1 ≤ Lib.nDigits u → 10 ^ k ≤ u ∨ k = 0 := by
     intro k
     induction k with
     | zero => intro u _; exact .inr rfl
     | succ k ih =>
      intro u hu
      left
      by_cases h10 : u < 10
      ·rw [Lib.nDigits_small h10] at hu; omega
      ·rw [Lib.nDigits_big h10] at hu
       rcases ih (u / 10) (by omega) with h2 | h2
       ·rw [Nat.pow_succ]; omega
       ·subst h2; omega
    rcases h1 16 m (by omega) with h2 | h2
    ·exact h2
    ·omega
   omega
 unfold Lib.itoa
 obtain ⟨h0, h1⟩ := h
 split
 ·rw [List.length_cons]; have := key n.natAbs (by omega); omega
 ·have := key n.toNat (by omega); omega
end Go.Mor
end

section
namespace Go.Mor
open Go
set_option maxHeartbeats 2000000
set_option maxRecDepth 100000
theorem z36 {c : UInt8} {r : List UInt8} (h : nameB c = false) : NoWord (c :: r) := by intro d q e; cases e; exact h
def quot (s : List UInt8) : List UInt8 := 34 :: (qesc s ++ [34])
theorem z42 {s : List UInt8} (h : z8 s = true) (post : List UInt8) : LexP (quot s) [(2, 0, s)] post := lex_text h post
theorem qesc_len (s : List UInt8) : (qesc s).length ≤ 2 * s.length := by
 induction s with
 | nil => simp [qesc]
 | cons b s ih =>
  have : qesc (b :: s) = (if b = 34 ∨ b = 92 then [92, b] else [b]) ++ qesc s := rfl
  rw [this, List.length_append, List.length_cons]
  split <;> simp only [List.length_cons, List.length_nil] <;> omega
theorem quot_len (s : List UInt8) : (quot s).length ≤ 2 * s.length + 2 := by
 unfold quot
 have := qesc_len s
 simp; omega
theorem z56 {e : V} (h : okE 8 e = true) (h2 : decide (szE 8 e ≤ 40) = true) : rightE e = true := by unfold rightE; rw [h, h2]; rfl
section
variable {d : Nat} {a b c : V} {s : List UInt8} {y : Int}
theorem ok_n : okE (d + 1) fn' = true := by kernel_rfl
theorem ok_t : okE (d + 1) ft' = true := by kernel_rfl
theorem ok_node {e : V} (h : nodeE e = true) (hl : ∀ x ∈ e.l, okE d x = true) : okE (d + 1) e = true := by
 unfold okE
 rw [h, Bool.true_and, List.all_eq_true]; exact hl
theorem ok_N (h : 0 ≤ y ∧ y ≤ 1000000000000000) : okE (d + 1) (eN y) = true := by
 refine ok_node ?_ (by simp [eN, V.l])
 have e : nodeE (eN y) = (decide (0 ≤ y) && decide (y ≤ 1000000000000000) && true && true) := by kernel_rfl
 rw [e, decide_eq_true h.1, decide_eq_true h.2]; rfl
theorem ok_T (h : z8 s = true) : okE (d + 1) (eT s) = true := by
 refine ok_node ?_ (by simp [eT, V.l])
 have e : nodeE (eT s) = (z8 s && true) := by kernel_rfl
 rw [e, h]; rfl
theorem ok_O (h : 0 < bindsV s) (ha : okE d a = true) (hb : okE d b = true) : okE (d + 1) (eO s a b) = true := by
 refine ok_node ?_ (by simp [eO, V.l, ha, hb])
 have e : nodeE (eO s a b) = (decide (0 < bindsV s) && true) := by kernel_rfl
 rw [e, decide_eq_true h]; rfl
theorem ok_C {l : List V} (h : (l.length : Int) = takesV s ∧ 0 < takesV s) (hl : ∀ x ∈ l, okE d x = true) : okE (d + 1) (eC s l) = true := by
 refine ok_node ?_ hl
 have e : nodeE (eC s l) = (decide (0 < takesV s) && decide ((l.length : Int) = takesV s)) := by kernel_rfl
 rw [e, decide_eq_true h.2, decide_eq_true h.1]; rfl
theorem ok_C2 (h : (2 : Int) = takesV s ∧ 0 < takesV s) (ha : okE d a = true) (hb : okE d b = true) : okE (d + 1) (eC s [a, b]) = true := ok_C h (by simp [ha, hb])
theorem ok_C3 (h : (3 : Int) = takesV s ∧ 0 < takesV s) (ha : okE d a = true) (hb : okE d b = true) (hc : okE d c = true) : okE (d + 1) (eC s [a, b, c]) = true := ok_C h (by simp [ha, hb, hc])
end
theorem fx_0 (post : List UInt8) : LexP [109, 105, 110, 40, 110, 44, 32] [(3, 0, [109, 105, 110]), sg [40], (3, 0, [110]), sg [44]] post := LexP.fix 5 rfl (fun a => by kernel_rfl) (fun f a acc => by kernel_rfl)
theorem fx_1 (post : List UInt8) : LexP [41, 32, 61, 32, 105, 102, 40, 110, 32, 60, 32] [sg [41], sg [61], (3, 0, [105, 102]), sg [40], (3, 0, [110]), sg [60]] post := LexP.fix 10 rfl (fun a => by kernel_rfl) (fun f a acc => by kernel_rfl)
theorem fx_2 (post : List UInt8) : LexP [44, 32, 110, 44, 32] [sg [44], (3, 0, [110]), sg [44]] post := LexP.fix 5 rfl (fun a => by kernel_rfl) (fun f a acc => by kernel_rfl)
theorem fx_3 (post : List UInt8) : LexP [41] [sg [41]] post := LexP.fix 1 rfl (fun a => by kernel_rfl) (fun f a acc => by kernel_rfl)
theorem pa_if1 {y : Int} (hy : 0 ≤ y ∧ y ≤ 1000000000000000) (hw : (Lib.itoa y).length ≤ 17) : parseV 60 ([109, 105, 110, 40, 110, 44, 32] ++ Lib.itoa y ++ [41, 32, 61, 32, 105, 102, 40, 110, 32, 60, 32] ++ Lib.itoa y ++ [44, 32, 110, 44, 32] ++ Lib.itoa y ++ [41]) = some (eO [61] (eC nMin [fn', eN y]) (eC nIf [eO [60] (fn') (eN y), fn', eN y]), 0, 0) := by
 have h : LexP ([109, 105, 110, 40, 110, 44, 32] ++ (Lib.itoa y ++ ([41, 32, 61, 32, 105, 102, 40, 110, 32, 60, 32] ++ (Lib.itoa y ++ ([44, 32, 110, 44, 32] ++ (Lib.itoa y ++ ([41]))))))) ([(3, 0, [109, 105, 110]), sg [40], (3, 0, [110]), sg [44]] ++ ([(1, y, [])] ++ ([sg [41], sg [61], (3, 0, [105, 102]), sg [40], (3, 0, [110]), sg [60]] ++ ([(1, y, [])] ++ ([sg [44], (3, 0, [110]), sg [44]] ++ ([(1, y, [])] ++ ([sg [41]]))))))) [] := ((fx_0 _).app ((z29 (hy).1 (hy).2 (z36 (by decide))).app ((fx_1 _).app ((z29 (hy).1 (hy).2 (z36 (by decide))).app ((fx_2 _).app ((z29 (hy).1 (hy).2 (z36 (by decide))).app (fx_3 _)))))))
 have e : [109, 105, 110, 40, 110, 44, 32] ++ Lib.itoa y ++ [41, 32, 61, 32, 105, 102, 40, 110, 32, 60, 32] ++ Lib.itoa y ++ [44, 32, 110, 44, 32] ++ Lib.itoa y ++ [41] = [109, 105, 110, 40, 110, 44, 32] ++ (Lib.itoa y ++ ([41, 32, 61, 32, 105, 102, 40, 110, 32, 60, 32] ++ (Lib.itoa y ++ ([44, 32, 110, 44, 32] ++ (Lib.itoa y ++ ([41])))))) := by simp only [List.append_assoc]
 rw [e]
 refine z44 60 ?_ h (fun p sz => by kernel_rfl) (z56 (ok_O (by decide) (ok_C2 (by decide) ok_n (ok_N hy)) (ok_C3 (by decide) (ok_O (by decide) ok_n (ok_N hy)) ok_n (ok_N hy))) (by kernel_rfl))
 simp only [List.length_append, List.length_cons, List.length_nil]
 omega
theorem fx_4 (post : List UInt8) : LexP [109, 97, 120, 40, 110, 44, 32] [(3, 0, [109, 97, 120]), sg [40], (3, 0, [110]), sg [44]] post := LexP.fix 5 rfl (fun a => by kernel_rfl) (fun f a acc => by kernel_rfl)
theorem fx_5 (post : List UInt8) : LexP [41, 32, 43, 32, 109, 105, 110, 40, 110, 44, 32] [sg [41], sg [43], (3, 0, [109, 105, 110]), sg [40], (3, 0, [110]), sg [44]] post := LexP.fix 9 rfl (fun a => by kernel_rfl) (fun f a acc => by kernel_rfl)
theorem fx_6 (post : List UInt8) : LexP [41, 32, 61, 32, 110, 32, 43, 32] [sg [41], sg [61], (3, 0, [110]), sg [43]] post := LexP.fix 8 rfl (fun a => by kernel_rfl) (fun f a acc => by kernel_rfl)
theorem pa_if2 {y : Int} (hy : 0 ≤ y ∧ y ≤ 1000000000000000) (hw : (Lib.itoa y).length ≤ 17) : parseV 60 ([109, 97, 120, 40, 110, 44, 32] ++ Lib.itoa y ++ [41, 32, 43, 32, 109, 105, 110, 40, 110, 44, 32] ++ Lib.itoa y ++ [41, 32, 61, 32, 110, 32, 43, 32] ++ Lib.itoa y) = some (eO [61] (eO [43] (eC nMax [fn', eN y]) (eC nMin [fn', eN y])) (eO [43] (fn') (eN y)), 0, 0) := by
 have h : LexP ([109, 97, 120, 40, 110, 44, 32] ++ (Lib.itoa y ++ ([41, 32, 43, 32, 109, 105, 110, 40, 110, 44, 32] ++ (Lib.itoa y ++ ([41, 32, 61, 32, 110, 32, 43, 32] ++ (Lib.itoa y)))))) ([(3, 0, [109, 97, 120]), sg [40], (3, 0, [110]), sg [44]] ++ ([(1, y, [])] ++ ([sg [41], sg [43], (3, 0, [109, 105, 110]), sg [40], (3, 0, [110]), sg [44]] ++ ([(1, y, [])] ++ ([sg [41], sg [61], (3, 0, [110]), sg [43]] ++ ([(1, y, [])])))))) [] := ((fx_4 _).app ((z29 (hy).1 (hy).2 (z36 (by decide))).app ((fx_5 _).app ((z29 (hy).1 (hy).2 (z36 (by decide))).app ((fx_6 _).app (z29 (hy).1 (hy).2 stop0.word))))))
 have e : [109, 97, 120, 40, 110, 44, 32] ++ Lib.itoa y ++ [41, 32, 43, 32, 109, 105, 110, 40, 110, 44, 32] ++ Lib.itoa y ++ [41, 32, 61, 32, 110, 32, 43, 32] ++ Lib.itoa y = [109, 97, 120, 40, 110, 44, 32] ++ (Lib.itoa y ++ ([41, 32, 43, 32, 109, 105, 110, 40, 110, 44, 32] ++ (Lib.itoa y ++ ([41, 32, 61, 32, 110, 32, 43, 32] ++ (Lib.itoa y))))) := by simp only [List.append_assoc]
 rw [e]
 refine z44 60 ?_ h (fun p sz => by kernel_rfl) (z56 (ok_O (by decide) (ok_O (by decide) (ok_C2 (by decide) ok_n (ok_N hy)) (ok_C2 (by decide) ok_n (ok_N hy))) (ok_O (by decide) ok_n (ok_N hy))) (by kernel_rfl))
 simp only [List.length_append, List.length_cons, List.length_nil]
 omega
theorem fx_7 (post : List UInt8) : LexP [40, 110, 32, 60, 32] [sg [40], (3, 0, [110]), sg [60]] post := LexP.fix 5 rfl (fun a => by kernel_rfl) (fun f a acc => by kernel_rfl)
theorem fx_8 (post : List UInt8) : LexP [41, 32, 43, 32, 40, 110, 32, 61, 32] [sg [41], sg [43], sg [40], (3, 0, [110]), sg [61]] post := LexP.fix 9 rfl (fun a => by kernel_rfl) (fun f a acc => by kernel_rfl)
theorem fx_9 (post : List UInt8) : LexP [41, 32, 43, 32, 40, 110, 32, 62, 32] [sg [41], sg [43], sg [40], (3, 0, [110]), sg [62]] post := LexP.fix 9 rfl (fun a => by kernel_rfl) (fun f a acc => by kernel_rfl)
theorem pa_if3 {y : Int} (hy : 0 ≤ y ∧ y ≤ 1000000000000000) (hw : (Lib.itoa y).length ≤ 17) : parseV 60 ([40, 110, 32, 60, 32] ++ Lib.itoa y ++ [41, 32, 43, 32, 40, 110, 32, 61, 32] ++ Lib.itoa y ++ [41, 32, 43, 32, 40, 110, 32, 62, 32] ++ Lib.itoa y ++ [41]) = some (eO [43] (eO [43] (eO [60] (fn') (eN y)) (eO [61] (fn') (eN y))) (eO [62] (fn') (eN y)), 0, 0) := by
 have h : LexP ([40, 110, 32, 60, 32] ++ (Lib.itoa y ++ ([41, 32, 43, 32, 40, 110, 32, 61, 32] ++ (Lib.itoa y ++ ([41, 32, 43, 32, 40, 110, 32, 62, 32] ++ (Lib.itoa y ++ ([41]))))))) ([sg [40], (3, 0, [110]), sg [60]] ++ ([(1, y, [])] ++ ([sg [41], sg [43], sg [40], (3, 0, [110]), sg [61]] ++ ([(1, y, [])] ++ ([sg [41], sg [43], sg [40], (3, 0, [110]), sg [62]] ++ ([(1, y, [])] ++ ([sg [41]]))))))) [] := ((fx_7 _).app ((z29 (hy).1 (hy).2 (z36 (by decide))).app ((fx_8 _).app ((z29 (hy).1 (hy).2 (z36 (by decide))).app ((fx_9 _).app ((z29 (hy).1 (hy).2 (z36 (by decide))).app (fx_3 _)))))))
 have e : [40, 110, 32, 60, 32] ++ Lib.itoa y ++ [41, 32, 43, 32, 40, 110, 32, 61, 32] ++ Lib.itoa y ++ [41, 32, 43, 32, 40, 110, 32, 62, 32] ++ Lib.itoa y ++ [41] = [40, 110, 32, 60, 32] ++ (Lib.itoa y ++ ([41, 32, 43, 32, 40, 110, 32, 61, 32] ++ (Lib.itoa y ++ ([41, 32, 43, 32, 40, 110, 32, 62, 32] ++ (Lib.itoa y ++ ([41])))))) := by simp only [List.append_assoc]
 rw [e]
 refine z44 60 ?_ h (fun p sz => by kernel_rfl) (z56 (ok_O (by decide) (ok_O (by decide) (ok_O (by decide) ok_n (ok_N hy)) (ok_O (by decide) ok_n (ok_N hy))) (ok_O (by decide) ok_n (ok_N hy))) (by kernel_rfl))
 simp only [List.length_append, List.length_cons, List.length_nil]
 omega
theorem fx_10 (post : List UInt8) : LexP [40, 116, 32, 60, 32] [sg [40], (3, 0, [116]), sg [60]] post := LexP.fix 5 rfl (fun a => by kernel_rfl) (fun f a acc => by kernel_rfl)
theorem fx_11 (post : List UInt8) : LexP [41, 32, 43, 32, 40, 116, 32, 61, 32] [sg [41], sg [43], sg [40], (3, 0, [116]), sg [61]] post := LexP.fix 9 rfl (fun a => by kernel_rfl) (fun f a acc => by kernel_rfl)
theorem fx_12 (post : List UInt8) : LexP [41, 32, 43, 32, 40, 116, 32, 62, 32] [sg [41], sg [43], sg [40], (3, 0, [116]), sg [62]] post := LexP.fix 9 rfl (fun a => by kernel_rfl) (fun f a acc => by kernel_rfl)
theorem pa_if4 {u : List UInt8} (hu : z8 u = true) (hw : (quot u).length ≤ 42) : parseV 60 ([40, 116, 32, 60, 32] ++ quot u ++ [41, 32, 43, 32, 40, 116, 32, 61, 32] ++ quot u ++ [41, 32, 43, 32, 40, 116, 32, 62, 32] ++ quot u ++ [41]) = some (eO [43] (eO [43] (eO [60] (ft') (eT u)) (eO [61] (ft') (eT u))) (eO [62] (ft') (eT u)), 0, 0) := by
 have h : LexP ([40, 116, 32, 60, 32] ++ (quot u ++ ([41, 32, 43, 32, 40, 116, 32, 61, 32] ++ (quot u ++ ([41, 32, 43, 32, 40, 116, 32, 62, 32] ++ (quot u ++ ([41]))))))) ([sg [40], (3, 0, [116]), sg [60]] ++ ([(2, 0, u)] ++ ([sg [41], sg [43], sg [40], (3, 0, [116]), sg [61]] ++ ([(2, 0, u)] ++ ([sg [41], sg [43], sg [40], (3, 0, [116]), sg [62]] ++ ([(2, 0, u)] ++ ([sg [41]]))))))) [] := ((fx_10 _).app ((z42 hu _).app ((fx_11 _).app ((z42 hu _).app ((fx_12 _).app ((z42 hu _).app (fx_3 _)))))))
 have e : [40, 116, 32, 60, 32] ++ quot u ++ [41, 32, 43, 32, 40, 116, 32, 61, 32] ++ quot u ++ [41, 32, 43, 32, 40, 116, 32, 62, 32] ++ quot u ++ [41] = [40, 116, 32, 60, 32] ++ (quot u ++ ([41, 32, 43, 32, 40, 116, 32, 61, 32] ++ (quot u ++ ([41, 32, 43, 32, 40, 116, 32, 62, 32] ++ (quot u ++ ([41])))))) := by simp only [List.append_assoc]
 rw [e]
 refine z44 60 ?_ h (fun p sz => by kernel_rfl) (z56 (ok_O (by decide) (ok_O (by decide) (ok_O (by decide) ok_t (ok_T hu)) (ok_O (by decide) ok_t (ok_T hu))) (ok_O (by decide) ok_t (ok_T hu))) (by kernel_rfl))
 simp only [List.length_append, List.length_cons, List.length_nil]
 omega
theorem fx_13 (post : List UInt8) : LexP [40, 116, 32, 60, 61, 32] [sg [40], (3, 0, [116]), sg [60, 61]] post := LexP.fix 5 rfl (fun a => by kernel_rfl) (fun f a acc => by kernel_rfl)
theorem fx_14 (post : List UInt8) : LexP [41, 32, 43, 32, 40, 116, 32, 62, 61, 32] [sg [41], sg [43], sg [40], (3, 0, [116]), sg [62, 61]] post := LexP.fix 9 rfl (fun a => by kernel_rfl) (fun f a acc => by kernel_rfl)
theorem fx_15 (post : List UInt8) : LexP [41, 32, 45, 32, 40, 116, 32, 61, 32] [sg [41], sg [45], sg [40], (3, 0, [116]), sg [61]] post := LexP.fix 9 rfl (fun a => by kernel_rfl) (fun f a acc => by kernel_rfl)
theorem pa_if5 {u : List UInt8} (hu : z8 u = true) (hw : (quot u).length ≤ 42) : parseV 60 ([40, 116, 32, 60, 61, 32] ++ quot u ++ [41, 32, 43, 32, 40, 116, 32, 62, 61, 32] ++ quot u ++ [41, 32, 45, 32, 40, 116, 32, 61, 32] ++ quot u ++ [41]) = some (eO [45] (eO [43] (eO [60, 61] (ft') (eT u)) (eO [62, 61] (ft') (eT u))) (eO [61] (ft') (eT u)), 0, 0) := by
 have h : LexP ([40, 116, 32, 60, 61, 32] ++ (quot u ++ ([41, 32, 43, 32, 40, 116, 32, 62, 61, 32] ++ (quot u ++ ([41, 32, 45, 32, 40, 116, 32, 61, 32] ++ (quot u ++ ([41]))))))) ([sg [40], (3, 0, [116]), sg [60, 61]] ++ ([(2, 0, u)] ++ ([sg [41], sg [43], sg [40], (3, 0, [116]), sg [62, 61]] ++ ([(2, 0, u)] ++ ([sg [41], sg [45], sg [40], (3, 0, [116]), sg [61]] ++ ([(2, 0, u)] ++ ([sg [41]]))))))) [] := ((fx_13 _).app ((z42 hu _).app ((fx_14 _).app ((z42 hu _).app ((fx_15 _).app ((z42 hu _).app (fx_3 _)))))))
 have e : [40, 116, 32, 60, 61, 32] ++ quot u ++ [41, 32, 43, 32, 40, 116, 32, 62, 61, 32] ++ quot u ++ [41, 32, 45, 32, 40, 116, 32, 61, 32] ++ quot u ++ [41] = [40, 116, 32, 60, 61, 32] ++ (quot u ++ ([41, 32, 43, 32, 40, 116, 32, 62, 61, 32] ++ (quot u ++ ([41, 32, 45, 32, 40, 116, 32, 61, 32] ++ (quot u ++ ([41])))))) := by simp only [List.append_assoc]
 rw [e]
 refine z44 60 ?_ h (fun p sz => by kernel_rfl) (z56 (ok_O (by decide) (ok_O (by decide) (ok_O (by decide) ok_t (ok_T hu)) (ok_O (by decide) ok_t (ok_T hu))) (ok_O (by decide) ok_t (ok_T hu))) (by kernel_rfl))
 simp only [List.length_append, List.length_cons, List.length_nil]
 omega
theorem fx_16 (post : List UInt8) : LexP [105, 102, 40, 116, 32, 60, 62, 32] [(3, 0, [105, 102]), sg [40], (3, 0, [116]), sg [60, 62]] post := LexP.fix 6 rfl (fun a => by kernel_rfl) (fun f a acc => by kernel_rfl)
theorem fx_17 (post : List UInt8) : LexP [44, 32, 49, 44, 32, 48, 41, 32, 61, 32, 40, 116, 32, 60, 62, 32] [sg [44], (1, 1, []), sg [44], (1, 0, []), sg [41], sg [61], sg [40], (3, 0, [116]), sg [60, 62]] post := LexP.fix 15 rfl (fun a => by kernel_rfl) (fun f a acc => by kernel_rfl)
theorem pa_if6 {u : List UInt8} (hu : z8 u = true) (hw : (quot u).length ≤ 42) : parseV 60 ([105, 102, 40, 116, 32, 60, 62, 32] ++ quot u ++ [44, 32, 49, 44, 32, 48, 41, 32, 61, 32, 40, 116, 32, 60, 62, 32] ++ quot u ++ [41]) = some (eO [61] (eC nIf [eO [60, 62] (ft') (eT u), eN 1, eN 0]) (eO [60, 62] (ft') (eT u)), 0, 0) := by
 have h : LexP ([105, 102, 40, 116, 32, 60, 62, 32] ++ (quot u ++ ([44, 32, 49, 44, 32, 48, 41, 32, 61, 32, 40, 116, 32, 60, 62, 32] ++ (quot u ++ ([41]))))) ([(3, 0, [105, 102]), sg [40], (3, 0, [116]), sg [60, 62]] ++ ([(2, 0, u)] ++ ([sg [44], (1, 1, []), sg [44], (1, 0, []), sg [41], sg [61], sg [40], (3, 0, [116]), sg [60, 62]] ++ ([(2, 0, u)] ++ ([sg [41]]))))) [] := ((fx_16 _).app ((z42 hu _).app ((fx_17 _).app ((z42 hu _).app (fx_3 _)))))
 have e : [105, 102, 40, 116, 32, 60, 62, 32] ++ quot u ++ [44, 32, 49, 44, 32, 48, 41, 32, 61, 32, 40, 116, 32, 60, 62, 32] ++ quot u ++ [41] = [105, 102, 40, 116, 32, 60, 62, 32] ++ (quot u ++ ([44, 32, 49, 44, 32, 48, 41, 32, 61, 32, 40, 116, 32, 60, 62, 32] ++ (quot u ++ ([41])))) := by simp only [List.append_assoc]
 rw [e]
 refine z44 60 ?_ h (fun p sz => by kernel_rfl) (z56 (ok_O (by decide) (ok_C3 (by decide) (ok_O (by decide) ok_t (ok_T hu)) (ok_N ⟨by decide, by decide⟩) (ok_N ⟨by decide, by decide⟩)) (ok_O (by decide) ok_t (ok_T hu))) (by kernel_rfl))
 simp only [List.length_append, List.length_cons, List.length_nil]
 omega
end Go.Mor
end

section
namespace Go.Proofs.YtmiokadmddjccaaGreatDoor
open Go Go.RowKit Go.Mor Go.Sh Go.Sh.Cd1
set_option maxRecDepth 100000
set_option maxHeartbeats 4000000
theorem u8_lt (b : UInt8) : b.toNat < 256 := b.toNat_lt
theorem wr3 : IntKind.i64.wrap 3 = 3 := rfl
theorem wr4 : IntKind.i64.wrap 4 = 4 := rfl
theorem wr5 : IntKind.i64.wrap 5 = 5 := rfl
theorem getD_some {l : List UInt8} {i : Nat} {b : UInt8} (h : l[i]? = some b) : l.getD i 0 = b := by rw [List.getD_eq_getElem?_getD, h]; rfl
theorem signL_eq {l : List UInt8} (h : 0 < l.length) : signL l = signN l.length (l.getD 0 0).toNat (l.getD 1 0).toNat (l.getD 2 0).toNat (l.getD 3 0).toNat := by
 unfold signL; rw [if_neg (by rintro rfl; simp at h)]
theorem at_ {l : List UInt8} {i : Nat} (h : i < l.length) : ∃ b, l[i]? = some b := ⟨_, List.getElem?_eq_getElem h⟩
theorem cvi8 (n : Nat) (h : n < 256) : IntKind.i64.wrap (n : Int) = (n : Int) := wrap64 (by omega) (by omega)
theorem v_unr {P : Program} {g : Sh.Glob} {a : SCode} {Q : SExit → ES → Prop} {k : Nat} {s : ES} : unrollW P g a Q (k + 1) s = swp P g a (thenW (unrollW P g a Q k) Q) s := rfl
theorem sg {a b : Int} (h : a = b) : some (TV.pv (PV.v (Value.int IntKind.i64 a))) = some (TV.pv (PV.v (Value.int IntKind.i64 b))) := by rw [h]
theorem sign_a (g : Sh.Glob) (l : List UInt8) (b0 : UInt8) (hl : 0 < l.length) (e0 : l[0]? = some b0) (hc : b0.toNat < 128) : SCalls Tryz.prog g 51 [S (str l)] [] (I (signN l.length b0.toNat (l.getD 1 0).toNat (l.getD 2 0).toNat (l.getD 3 0).toNat : Nat)) [] := by
 have hb := u8_lt b0
 have c0 := cvi8 b0.toNat hb
 have hl0 : ¬ (l.length : Int) = 0 := by omega
 have t0 : (b0.toNat : Int) < 128 := by omega
 have t1 : ¬ 194 ≤ (b0.toNat : Int) := by omega
 have t2 : (b0.toNat : Int) ≤ 223 := by omega
 have t3 : ¬ 224 ≤ (b0.toNat : Int) := by omega
 have t4 : (b0.toNat : Int) ≤ 239 := by omega
 have t5 : ¬ 240 ≤ (b0.toNat : Int) := by omega
 have t6 : (b0.toNat : Int) ≤ 244 := by omega
 have t7 : ¬ (b0.toNat : Int) = 224 := by omega
 have t8 : ¬ (b0.toNat : Int) = 237 := by omega
 have t9 : ¬ (b0.toNat : Int) = 240 := by omega
 have t10 : ¬ (b0.toNat : Int) = 244 := by omega
 refine z7 hmix tf_86 rfl ?_
 simp only [vcA, seval, I, S, e0, c0, hl0, t0, t1, t2, t3, t4, t5, t6, t7, t8, t9, t10]
 exact sg (by unfold signN; (repeat' split) <;> omega)
theorem sign_b (g : Sh.Glob) (l : List UInt8) (b0 : UInt8) (hl : 0 < l.length) (e0 : l[0]? = some b0) (hc : 128 ≤ b0.toNat ∧ b0.toNat ≤ 193) : SCalls Tryz.prog g 51 [S (str l)] [] (I (signN l.length b0.toNat (l.getD 1 0).toNat (l.getD 2 0).toNat (l.getD 3 0).toNat : Nat)) [] := by
 have hb := u8_lt b0
 have c0 := cvi8 b0.toNat hb
 have hl0 : ¬ (l.length : Int) = 0 := by omega
 have t0 : ¬ (b0.toNat : Int) < 128 := by omega
 have t1 : ¬ 194 ≤ (b0.toNat : Int) := by omega
 have t2 : (b0.toNat : Int) ≤ 223 := by omega
 have t3 : ¬ 224 ≤ (b0.toNat : Int) := by omega
 have t4 : (b0.toNat : Int) ≤ 239 := by omega
 have t5 : ¬ 240 ≤ (b0.toNat : Int) := by omega
 have t6 : (b0.toNat : Int) ≤ 244 := by omega
 have t7 : ¬ (b0.toNat : Int) = 224 := by omega
 have t8 : ¬ (b0.toNat : Int) = 237 := by omega
 have t9 : ¬ (b0.toNat : Int) = 240 := by omega
 have t10 : ¬ (b0.toNat : Int) = 244 := by omega
 refine z7 hmix tf_86 rfl ?_
 simp only [vcA, seval, I, S, e0, c0, hl0, t0, t1, t2, t3, t4, t5, t6, t7, t8, t9, t10]
 exact sg (by unfold signN; (repeat' split) <;> omega)
theorem sign_c (g : Sh.Glob) (l : List UInt8) (b0 : UInt8) (hl : 0 < l.length) (e0 : l[0]? = some b0) (hc : 194 ≤ b0.toNat ∧ b0.toNat ≤ 223) : SCalls Tryz.prog g 51 [S (str l)] [] (I (signN l.length b0.toNat (l.getD 1 0).toNat (l.getD 2 0).toNat (l.getD 3 0).toNat : Nat)) [] := by
 have hb := u8_lt b0
 have c0 := cvi8 b0.toNat hb
 have hl0 : ¬ (l.length : Int) = 0 := by omega
 have t0 : ¬ (b0.toNat : Int) < 128 := by omega
 have t1 : 194 ≤ (b0.toNat : Int) := by omega
 have t2 : (b0.toNat : Int) ≤ 223 := by omega
 have t3 : ¬ 224 ≤ (b0.toNat : Int) := by omega
 have t4 : (b0.toNat : Int) ≤ 239 := by omega
 have t5 : ¬ 240 ≤ (b0.toNat : Int) := by omega
 have t6 : (b0.toNat : Int) ≤ 244 := by omega
 have t7 : ¬ (b0.toNat : Int) = 224 := by omega
 have t8 : ¬ (b0.toNat : Int) = 237 := by omega
 have t9 : ¬ (b0.toNat : Int) = 240 := by omega
 have t10 : ¬ (b0.toNat : Int) = 244 := by omega
 refine z7 hmix tf_86 rfl ?_
 by_cases hn : (l.length : Int) < 2
 ·simp only [vcA, seval, I, S, e0, c0, hl0, hn, t0, t1, t2, t3, t4, t5, t6, t7, t8, t9, t10]
  exact sg (by unfold signN; (repeat' split) <;> omega)
 obtain ⟨b1, e1⟩ := at_ (l := l) (i := 1) (by omega)
 have hb1 := u8_lt b1
 have g1 := getD_some e1
 have c1 := cvi8 b1.toNat hb1
 rw [g1]
 simp only [vcA, seval, I, S, e0, c0, e1, c1, hl0, hn, t0, t1, t2, t3, t4, t5, t6, t7, t8, t9, t10]
 refine ⟨fun h1 => sg (by unfold signN; (repeat' split) <;> omega), fun h1 => ⟨fun h2 => sg (by unfold signN; (repeat' split) <;> omega), fun h2 => ?_⟩⟩
 refine z107 1 ?_
 simp only [vcA, seval, I, S, v_unr, e1, wr3, wr4, wr5]
 exact sg (by unfold signN; (repeat' split) <;> omega)
theorem sign_d (g : Sh.Glob) (l : List UInt8) (b0 : UInt8) (hl : 0 < l.length) (e0 : l[0]? = some b0) (hc : b0.toNat = 224) : SCalls Tryz.prog g 51 [S (str l)] [] (I (signN l.length b0.toNat (l.getD 1 0).toNat (l.getD 2 0).toNat (l.getD 3 0).toNat : Nat)) [] := by
 have hb := u8_lt b0
 have c0 := cvi8 b0.toNat hb
 have hl0 : ¬ (l.length : Int) = 0 := by omega

 refine z7 hmix tf_86 rfl ?_
 have q0 : (b0.toNat : Int) = 224 := by omega
 have q1 : IntKind.i64.wrap 224 = 224 := rfl
 by_cases hn : (l.length : Int) < 3
 ·simp only [vcA, seval, I, S, e0, c0, hl0, hn, q0, q1]
  exact sg (by unfold signN; (repeat' split) <;> omega)
 obtain ⟨b1, e1⟩ := at_ (l := l) (i := 1) (by omega)
 have hb1 := u8_lt b1
 have g1 := getD_some e1
 obtain ⟨b2, e2⟩ := at_ (l := l) (i := 2) (by omega)
 have hb2 := u8_lt b2
 have g2 := getD_some e2
 have c1 := cvi8 b1.toNat hb1
 rw [g1, g2]
 simp only [vcA, seval, I, S, e0, c0, e1, c1, hl0, hn, q0, q1]
 refine ⟨fun h1 => sg (by unfold signN; (repeat' split) <;> omega), fun h1 => ⟨fun h2 => sg (by unfold signN; (repeat' split) <;> omega), fun h2 => ?_⟩⟩
 refine z107 2 ?_
 simp only [vcA, seval, I, S, v_unr, e1, e2, wr3, wr4, wr5]
 repeat' (first | (apply And.intro) | (intro _))
 all_goals exact sg (by unfold signN; (repeat' split) <;> omega)
theorem sign_e (g : Sh.Glob) (l : List UInt8) (b0 : UInt8) (hl : 0 < l.length) (e0 : l[0]? = some b0) (hc : 225 ≤ b0.toNat ∧ b0.toNat ≤ 239 ∧ b0.toNat ≠ 237) : SCalls Tryz.prog g 51 [S (str l)] [] (I (signN l.length b0.toNat (l.getD 1 0).toNat (l.getD 2 0).toNat (l.getD 3 0).toNat : Nat)) [] := by
 have hb := u8_lt b0
 have c0 := cvi8 b0.toNat hb
 have hl0 : ¬ (l.length : Int) = 0 := by omega
 have t0 : ¬ (b0.toNat : Int) < 128 := by omega
 have t1 : 194 ≤ (b0.toNat : Int) := by omega
 have t2 : ¬ (b0.toNat : Int) ≤ 223 := by omega
 have t3 : 224 ≤ (b0.toNat : Int) := by omega
 have t4 : (b0.toNat : Int) ≤ 239 := by omega
 have t5 : ¬ 240 ≤ (b0.toNat : Int) := by omega
 have t6 : (b0.toNat : Int) ≤ 244 := by omega
 have t7 : ¬ (b0.toNat : Int) = 224 := by omega
 have t8 : ¬ (b0.toNat : Int) = 237 := by omega
 have t9 : ¬ (b0.toNat : Int) = 240 := by omega
 have t10 : ¬ (b0.toNat : Int) = 244 := by omega
 refine z7 hmix tf_86 rfl ?_
 by_cases hn : (l.length : Int) < 3
 ·simp only [vcA, seval, I, S, e0, c0, hl0, hn, t0, t1, t2, t3, t4, t5, t6, t7, t8, t9, t10]
  exact sg (by unfold signN; (repeat' split) <;> omega)
 obtain ⟨b1, e1⟩ := at_ (l := l) (i := 1) (by omega)
 have hb1 := u8_lt b1
 have g1 := getD_some e1
 obtain ⟨b2, e2⟩ := at_ (l := l) (i := 2) (by omega)
 have hb2 := u8_lt b2
 have g2 := getD_some e2
 have c1 := cvi8 b1.toNat hb1
 rw [g1, g2]
 simp only [vcA, seval, I, S, e0, c0, e1, c1, hl0, hn, t0, t1, t2, t3, t4, t5, t6, t7, t8, t9, t10]
 refine ⟨fun h1 => sg (by unfold signN; (repeat' split) <;> omega), fun h1 => ⟨fun h2 => sg (by unfold signN; (repeat' split) <;> omega), fun h2 => ?_⟩⟩
 refine z107 2 ?_
 simp only [vcA, seval, I, S, v_unr, e1, e2, wr3, wr4, wr5]
 repeat' (first | (apply And.intro) | (intro _))
 all_goals exact sg (by unfold signN; (repeat' split) <;> omega)
theorem sign_f (g : Sh.Glob) (l : List UInt8) (b0 : UInt8) (hl : 0 < l.length) (e0 : l[0]? = some b0) (hc : b0.toNat = 237) : SCalls Tryz.prog g 51 [S (str l)] [] (I (signN l.length b0.toNat (l.getD 1 0).toNat (l.getD 2 0).toNat (l.getD 3 0).toNat : Nat)) [] := by
 have hb := u8_lt b0
 have c0 := cvi8 b0.toNat hb
 have hl0 : ¬ (l.length : Int) = 0 := by omega

 refine z7 hmix tf_86 rfl ?_
 have q0 : (b0.toNat : Int) = 237 := by omega
 have q1 : IntKind.i64.wrap 237 = 237 := rfl
 by_cases hn : (l.length : Int) < 3
 ·simp only [vcA, seval, I, S, e0, c0, hl0, hn, q0, q1]
  exact sg (by unfold signN; (repeat' split) <;> omega)
 obtain ⟨b1, e1⟩ := at_ (l := l) (i := 1) (by omega)
 have hb1 := u8_lt b1
 have g1 := getD_some e1
 obtain ⟨b2, e2⟩ := at_ (l := l) (i := 2) (by omega)
 have hb2 := u8_lt b2
 have g2 := getD_some e2
 have c1 := cvi8 b1.toNat hb1
 rw [g1, g2]
 simp only [vcA, seval, I, S, e0, c0, e1, c1, hl0, hn, q0, q1]
 refine ⟨fun h1 => sg (by unfold signN; (repeat' split) <;> omega), fun h1 => ⟨fun h2 => sg (by unfold signN; (repeat' split) <;> omega), fun h2 => ?_⟩⟩
 refine z107 2 ?_
 simp only [vcA, seval, I, S, v_unr, e1, e2, wr3, wr4, wr5]
 repeat' (first | (apply And.intro) | (intro _))
 all_goals exact sg (by unfold signN; (repeat' split) <;> omega)
theorem sign_g (g : Sh.Glob) (l : List UInt8) (b0 : UInt8) (hl : 0 < l.length) (e0 : l[0]? = some b0) (hc : b0.toNat = 240) : SCalls Tryz.prog g 51 [S (str l)] [] (I (signN l.length b0.toNat (l.getD 1 0).toNat (l.getD 2 0).toNat (l.getD 3 0).toNat : Nat)) [] := by
 have hb := u8_lt b0
 have c0 := cvi8 b0.toNat hb
 have hl0 : ¬ (l.length : Int) = 0 := by omega

 refine z7 hmix tf_86 rfl ?_
 have q0 : (b0.toNat : Int) = 240 := by omega
 have q1 : IntKind.i64.wrap 240 = 240 := rfl
 by_cases hn : (l.length : Int) < 4
 ·simp only [vcA, seval, I, S, e0, c0, hl0, hn, q0, q1]
  exact sg (by unfold signN; (repeat' split) <;> omega)
 obtain ⟨b1, e1⟩ := at_ (l := l) (i := 1) (by omega)
 have hb1 := u8_lt b1
 have g1 := getD_some e1
 obtain ⟨b2, e2⟩ := at_ (l := l) (i := 2) (by omega)
 have hb2 := u8_lt b2
 have g2 := getD_some e2
 obtain ⟨b3, e3⟩ := at_ (l := l) (i := 3) (by omega)
 have hb3 := u8_lt b3
 have g3 := getD_some e3
 have c1 := cvi8 b1.toNat hb1
 rw [g1, g2, g3]
 simp only [vcA, seval, I, S, e0, c0, e1, c1, hl0, hn, q0, q1]
 refine ⟨fun h1 => sg (by unfold signN; (repeat' split) <;> omega), fun h1 => ⟨fun h2 => sg (by unfold signN; (repeat' split) <;> omega), fun h2 => ?_⟩⟩
 refine z107 3 ?_
 simp only [vcA, seval, I, S, v_unr, e1, e2, e3, wr3, wr4, wr5]
 repeat' (first | (apply And.intro) | (intro _))
 all_goals exact sg (by unfold signN; (repeat' split) <;> omega)
theorem sign_h (g : Sh.Glob) (l : List UInt8) (b0 : UInt8) (hl : 0 < l.length) (e0 : l[0]? = some b0) (hc : 241 ≤ b0.toNat ∧ b0.toNat ≤ 243) : SCalls Tryz.prog g 51 [S (str l)] [] (I (signN l.length b0.toNat (l.getD 1 0).toNat (l.getD 2 0).toNat (l.getD 3 0).toNat : Nat)) [] := by
 have hb := u8_lt b0
 have c0 := cvi8 b0.toNat hb
 have hl0 : ¬ (l.length : Int) = 0 := by omega
 have t0 : ¬ (b0.toNat : Int) < 128 := by omega
 have t1 : 194 ≤ (b0.toNat : Int) := by omega
 have t2 : ¬ (b0.toNat : Int) ≤ 223 := by omega
 have t3 : 224 ≤ (b0.toNat : Int) := by omega
 have t4 : ¬ (b0.toNat : Int) ≤ 239 := by omega
 have t5 : 240 ≤ (b0.toNat : Int) := by omega
 have t6 : (b0.toNat : Int) ≤ 244 := by omega
 have t7 : ¬ (b0.toNat : Int) = 224 := by omega
 have t8 : ¬ (b0.toNat : Int) = 237 := by omega
 have t9 : ¬ (b0.toNat : Int) = 240 := by omega
 have t10 : ¬ (b0.toNat : Int) = 244 := by omega
 refine z7 hmix tf_86 rfl ?_
 by_cases hn : (l.length : Int) < 4
 ·simp only [vcA, seval, I, S, e0, c0, hl0, hn, t0, t1, t2, t3, t4, t5, t6, t7, t8, t9, t10]
  exact sg (by unfold signN; (repeat' split) <;> omega)
 obtain ⟨b1, e1⟩ := at_ (l := l) (i := 1) (by omega)
 have hb1 := u8_lt b1
 have g1 := getD_some e1
 obtain ⟨b2, e2⟩ := at_ (l := l) (i := 2) (by omega)
 have hb2 := u8_lt b2
 have g2 := getD_some e2
 obtain ⟨b3, e3⟩ := at_ (l := l) (i := 3) (by omega)
 have hb3 := u8_lt b3
 have g3 := getD_some e3
 have c1 := cvi8 b1.toNat hb1
 rw [g1, g2, g3]
 simp only [vcA, seval, I, S, e0, c0, e1, c1, hl0, hn, t0, t1, t2, t3, t4, t5, t6, t7, t8, t9, t10]
 refine ⟨fun h1 => sg (by unfold signN; (repeat' split) <;> omega), fun h1 => ⟨fun h2 => sg (by unfold signN; (repeat' split) <;> omega), fun h2 => ?_⟩⟩
 refine z107 3 ?_
 simp only [vcA, seval, I, S, v_unr, e1, e2, e3, wr3, wr4, wr5]
 repeat' (first | (apply And.intro) | (intro _))
 all_goals exact sg (by unfold signN; (repeat' split) <;> omega)
theorem sign_i (g : Sh.Glob) (l : List UInt8) (b0 : UInt8) (hl : 0 < l.length) (e0 : l[0]? = some b0) (hc : b0.toNat = 244) : SCalls Tryz.prog g 51 [S (str l)] [] (I (signN l.length b0.toNat (l.getD 1 0).toNat (l.getD 2 0).toNat (l.getD 3 0).toNat : Nat)) [] := by
 have hb := u8_lt b0
 have c0 := cvi8 b0.toNat hb
 have hl0 : ¬ (l.length : Int) = 0 := by omega

 refine z7 hmix tf_86 rfl ?_
 have q0 : (b0.toNat : Int) = 244 := by omega
 have q1 : IntKind.i64.wrap 244 = 244 := rfl
 by_cases hn : (l.length : Int) < 4
 ·simp only [vcA, seval, I, S, e0, c0, hl0, hn, q0, q1]
  exact sg (by unfold signN; (repeat' split) <;> omega)
 obtain ⟨b1, e1⟩ := at_ (l := l) (i := 1) (by omega)
 have hb1 := u8_lt b1
 have g1 := getD_some e1
 obtain ⟨b2, e2⟩ := at_ (l := l) (i := 2) (by omega)
 have hb2 := u8_lt b2
 have g2 := getD_some e2
 obtain ⟨b3, e3⟩ := at_ (l := l) (i := 3) (by omega)
 have hb3 := u8_lt b3
 have g3 := getD_some e3
 have c1 := cvi8 b1.toNat hb1
 rw [g1, g2, g3]
 simp only [vcA, seval, I, S, e0, c0, e1, c1, hl0, hn, q0, q1]
 refine ⟨fun h1 => sg (by unfold signN; (repeat' split) <;> omega), fun h1 => ⟨fun h2 => sg (by unfold signN; (repeat' split) <;> omega), fun h2 => ?_⟩⟩
 refine z107 3 ?_
 simp only [vcA, seval, I, S, v_unr, e1, e2, e3, wr3, wr4, wr5]
 repeat' (first | (apply And.intro) | (intro _))
 all_goals exact sg (by unfold signN; (repeat' split) <;> omega)
theorem sign_j (g : Sh.Glob) (l : List UInt8) (b0 : UInt8) (hl : 0 < l.length) (e0 : l[0]? = some b0) (hc : 245 ≤ b0.toNat) : SCalls Tryz.prog g 51 [S (str l)] [] (I (signN l.length b0.toNat (l.getD 1 0).toNat (l.getD 2 0).toNat (l.getD 3 0).toNat : Nat)) [] := by
 have hb := u8_lt b0
 have c0 := cvi8 b0.toNat hb
 have hl0 : ¬ (l.length : Int) = 0 := by omega
 have t0 : ¬ (b0.toNat : Int) < 128 := by omega
 have t1 : 194 ≤ (b0.toNat : Int) := by omega
 have t2 : ¬ (b0.toNat : Int) ≤ 223 := by omega
 have t3 : 224 ≤ (b0.toNat : Int) := by omega
 have t4 : ¬ (b0.toNat : Int) ≤ 239 := by omega
 have t5 : 240 ≤ (b0.toNat : Int) := by omega
 have t6 : ¬ (b0.toNat : Int) ≤ 244 := by omega
 have t7 : ¬ (b0.toNat : Int) = 224 := by omega
 have t8 : ¬ (b0.toNat : Int) = 237 := by omega
 have t9 : ¬ (b0.toNat : Int) = 240 := by omega
 have t10 : ¬ (b0.toNat : Int) = 244 := by omega
 refine z7 hmix tf_86 rfl ?_
 simp only [vcA, seval, I, S, e0, c0, hl0, t0, t1, t2, t3, t4, t5, t6, t7, t8, t9, t10]
 exact sg (by unfold signN; (repeat' split) <;> omega)
theorem sign_ok (g : Sh.Glob) (l : List UInt8) : SCalls Tryz.prog g 51 [S (str l)] [] (I (signL l)) [] := by
 by_cases h0 : l.length = 0
 ·have : l = [] := List.eq_nil_of_length_eq_zero h0
  subst this
  refine z7 hmix tf_86 rfl ?_
  simp only [vcA, seval, I, S, Int.natCast_zero, List.length_nil]
  rfl
 have hl : 0 < l.length := by omega
 obtain ⟨b0, e0⟩ := at_ hl
 rw [signL_eq hl, getD_some e0]
 have hb := u8_lt b0
 by_cases c0 : b0.toNat < 128
 ·exact sign_a g l b0 hl e0 c0
 by_cases c1 : 128 ≤ b0.toNat ∧ b0.toNat ≤ 193
 ·exact sign_b g l b0 hl e0 c1
 by_cases c2 : 194 ≤ b0.toNat ∧ b0.toNat ≤ 223
 ·exact sign_c g l b0 hl e0 c2
 by_cases c3 : b0.toNat = 224
 ·exact sign_d g l b0 hl e0 c3
 by_cases c4 : 225 ≤ b0.toNat ∧ b0.toNat ≤ 239 ∧ b0.toNat ≠ 237
 ·exact sign_e g l b0 hl e0 c4
 by_cases c5 : b0.toNat = 237
 ·exact sign_f g l b0 hl e0 c5
 by_cases c6 : b0.toNat = 240
 ·exact sign_g g l b0 hl e0 c6
 by_cases c7 : 241 ≤ b0.toNat ∧ b0.toNat ≤ 243
 ·exact sign_h g l b0 hl e0 c7
 by_cases c8 : b0.toNat = 244
 ·exact sign_i g l b0 hl e0 c8
 exact sign_j g l b0 hl e0 (by omega)
end Go.Proofs.YtmiokadmddjccaaGreatDoor
end

section
namespace Go.Proofs.YtmiokadmddjccaaGreatDoor
open Go Go.RowKit Go.Mor Go.Sh Go.Sh.Cd1
set_option maxRecDepth 100000
set_option maxHeartbeats 8000000
def isTextN : Nat → List UInt8 → Bool
 | 0, _ => true
 | n + 1, l => match l with
  | [] => true
  | b :: r => !(signL (b :: r) == 0) && !decide (b.toNat < 32) && !(b.toNat == 127) && isTextN n ((b :: r).drop (signL (b :: r)))
def isText (l : List UInt8) : Bool := isTextN l.length l
theorem isTextN_more : ∀ (n : Nat) (l : List UInt8), l.length ≤ n → isTextN n l = isText l := by
 intro n
 induction n using Nat.strongRecOn with
 | _ n ih =>
  intro l hl
  unfold isText
  cases l with
  | nil => cases n <;> rfl
  | cons b r =>
   obtain ⟨m, rfl⟩ : ∃ m, n = m + 1 := ⟨n - 1, by simp at hl; omega⟩
   simp only [isTextN, List.length_cons]
   by_cases h0 : signL (b :: r) = 0
   ·simp [h0]
   ·have h1 : ((b :: r).drop (signL (b :: r))).length ≤ r.length := by simp; omega
    simp at hl
    rw [ih m (by omega) _ (by omega)]
    by_cases he : r.length = m
    ·subst he; rw [ih r.length (by omega) _ h1]
    ·rw [ih r.length (by omega) _ h1]
theorem z142 (b : UInt8) (r : List UInt8) : isText (b :: r) = (!(signL (b :: r) == 0) && !decide (b.toNat < 32) && !(b.toNat == 127) && isText ((b :: r).drop (signL (b :: r)))) := by
 conv => lhs; unfold isText
 simp only [isTextN, List.length_cons]
 by_cases h0 : signL (b :: r) = 0
 ·simp [h0]
 ·rw [isTextN_more r.length _ (by simp; omega)]
theorem signL_le (l : List UInt8) : signL l ≤ l.length ∧ signL l ≤ 4 := by
 unfold signL
 cases l with
 | nil => simp
 | cons b r =>
  rw [if_neg (by simp)]
  unfold signN
  simp only [List.length_cons]
  repeat' split
  all_goals omega
theorem str_drop (l : List UInt8) (a : Nat) : (str l).extract a l.length = str (l.drop a) := by
 rw [str_extract, List.take_of_length_le (by simp)]
theorem isText_ok (g : Sh.Glob) (l : List UInt8) (hl : l.length ≤ 9223372036854775807) : SCalls Tryz.prog g 87 [S (str l)] [] (.pv (.v (.bool (isText l)))) [] := by
 refine z7 hmix tf_82 rfl ?_
 obtain ⟨r, hr⟩ : ∃ r, isText l = r := ⟨_, rfl⟩
 rw [hr]
 simp only [vcA, seval, vV]
 refine v_loop (σ := { i : Nat // i ≤ l.length ∧ r = isText (l.drop i) }) (fun i => ⟨[(0, S (str l)), (3, I (i.1 : Int))], [], [], []⟩) (fun i => l.length - i.1) ⟨0, Nat.zero_le _, hr.symm⟩ ?_ ?_
 ·apply lw_of <;> simp [leL, lk, sv, Nat.beq, I, S, ES.kill, has, drp, nilT]
 rintro ⟨i, hi, hT⟩
 by_cases hlt : i < l.length
 ·have d1 : (i : Int) < (l.length : Int) := by omega
  have hd := str_drop l i
  obtain ⟨b, eb⟩ := at_ hlt
  have hcons : l.drop i = b :: l.drop (i + 1) := by
   rw [List.drop_eq_getElem_cons hlt]; congr 1
   rw [List.getElem?_eq_getElem hlt] at eb; exact Option.some.inj eb
  have hs := signL_le (l.drop i)
  have hb := z142 b (l.drop (i + 1))
  rw [← hcons, ← hT] at hb
  simp only [List.length_drop] at hs
  have HS := sign_ok g (l.drop i)
  simp only [vcA, seval, vV, d1, hd]
  refine ⟨by omega, ?_⟩
  (with_reducible apply v_call); (· simp only [vcA, seval, vV]; with_reducible rfl); (· rfl); (· exact HS); (· first | rfl | (simp only [vcA, seval]; omega)); (· simp only [vcA, seval, vV]; with_reducible rfl)
  generalize signL (l.drop i) = n at hs hb ⊢
  by_cases h0 : n = 0
  ·have d2 : (n : Int) = 0 := by omega
   have hf : r = false := by rw [hb]; simp [h0]
   subst hf
   simp only [vcA, seval, vV, d2]
  have d2 : ¬ (n : Int) = 0 := by omega
  by_cases h1 : b.toNat < 32
  ·have d3 : (b.toNat : Int) < 32 := by omega
   have hf : r = false := by rw [hb]; simp [h1]
   subst hf
   simp only [vcA, seval, vV, d2, eb, d3]
  have d3 : ¬ (b.toNat : Int) < 32 := by omega
  by_cases h2 : b.toNat = 127
  ·have d4 : (b.toNat : Int) = 127 := by omega
   have hf : r = false := by rw [hb]; simp [h2]
   subst hf
   simp only [vcA, seval, vV, d2, eb, d3, d4]
  have d4 : ¬ (b.toNat : Int) = 127 := by omega
  have w1 : IntKind.i64.wrap ((i : Int) + (n : Int)) = ((i + n : Nat) : Int) := by rw [wrap64 (by omega) (by omega)]; omega
  have hT2 : r = isText (l.drop (i + n)) := by rw [hb, List.drop_drop]; simp [h0, h1, h2]
  simp only [vcA, seval, vV, d2, eb, d3, d4, w1]
  refine z10 ⟨i + n, by omega, hT2⟩ (by show l.length - (i + n) < l.length - i; omega) ?_
  apply lw_of <;> simp [leL, lk, sv, Nat.beq, I, S, ES.kill, has, drp, nilT]
 ·have d1 : ¬ (i : Int) < (l.length : Int) := by omega
  have hf : r = true := by rw [hT, List.drop_eq_nil_of_le (by omega)]; rfl
  subst hf
  simp only [vcA, seval, vV, d1]
def stepN (l : List UInt8) : Nat := max (signL l) 1
def vtN : Nat → List UInt8 → List UInt8 → List UInt8
 | 0, _, out => out
 | n + 1, l, out => if l = [] ∨ 17 ≤ out.length then out else vtN n (l.drop (stepN l)) (if isText (l.take (stepN l)) then out ++ l.take (stepN l) else out)
def vt (l out : List UInt8) : List UInt8 := vtN l.length l out
def valText (l : List UInt8) : List UInt8 := vt l []
theorem stepN_le {l : List UInt8} (h : 0 < l.length) : 1 ≤ stepN l ∧ stepN l ≤ l.length ∧ stepN l ≤ 4 := by
 have := signL_le l
 unfold stepN; omega
theorem vtN_more : ∀ (n : Nat) (l out : List UInt8), l.length ≤ n → vtN n l out = vt l out := by
 intro n
 induction n using Nat.strongRecOn with
 | _ n ih =>
  intro l out hl
  unfold vt
  cases n with
  | zero =>
   have : l.length = 0 := by omega
   rw [this]
  | succ m =>
   cases hm : l.length with
   | zero =>
    have : l = [] := List.eq_nil_of_length_eq_zero hm
    simp [vtN, this]
   | succ p =>
    simp only [vtN]
    split
    ·rfl
    ·have hs := stepN_le (l := l) (by omega)
     have h1 : (l.drop (stepN l)).length ≤ p := by simp; omega
     rw [ih m (by omega) _ _ (by omega), ih p (by omega) _ _ h1]
theorem vt_step (l out : List UInt8) : vt l out = if l = [] ∨ 17 ≤ out.length then out else vt (l.drop (stepN l)) (if isText (l.take (stepN l)) then out ++ l.take (stepN l) else out) := by
 conv => lhs; unfold vt
 cases hm : l.length with
 | zero =>
  have : l = [] := List.eq_nil_of_length_eq_zero hm
  simp [vtN, this]
 | succ p =>
  have hs := stepN_le (l := l) (by omega)
  simp only [vtN]
  split
  ·rfl
  ·rw [vtN_more p _ _ (by simp; omega)]
theorem valText_ok (g : Sh.Glob) (l : List UInt8) (hl : l.length ≤ 9223372036854775807) : SCalls Tryz.prog g 37 [S (str l)] [] (S (str (valText l))) [] := by
 refine z7 hmix tf_63 rfl ?_
 have e0 : (⟨#[]⟩ : ByteArray) = str [] := rfl
 obtain ⟨r, hr⟩ : ∃ r, valText l = r := ⟨_, rfl⟩
 rw [hr]
 simp only [vcA, seval, vV]
 refine v_loop (σ := { p : Nat × List UInt8 // p.1 ≤ l.length ∧ p.2.length ≤ 20 ∧ r = vt (l.drop p.1) p.2 }) (fun p => ⟨[(0, S (str l)), (3, S (str p.1.2)), (4, I (p.1.1 : Int))], [], [], []⟩) (fun p => l.length - p.1.1) ⟨(0, []), Nat.zero_le _, Nat.zero_le _, hr.symm⟩ ?_ ?_
 ·apply lw_of <;> simp [leL, lk, sv, Nat.beq, I, S, ES.kill, has, drp, nilT, e0]
 rintro ⟨⟨i, out⟩, hi, ho, hT⟩
 simp only at hi ho hT
 rw [vt_step] at hT
 by_cases hlt : ¬ i < l.length
 ·have d1 : ¬ (i : Int) < (l.length : Int) := by omega
  have hf : r = out := by rw [hT, if_pos (.inl (List.drop_eq_nil_of_le (by omega)))]
  subst hf
  simp only [vcA, seval, vV, d1]
 have d1 : (i : Int) < (l.length : Int) := by omega
 by_cases h17 : ¬ out.length < 17
 ·have d2 : ¬ (out.length : Int) < 17 := by omega
  have hf : r = out := by rw [hT, if_pos (.inr (by omega))]
  subst hf
  simp only [vcA, seval, vV, d1, d2]
 have d2 : (out.length : Int) < 17 := by omega
 have hd := str_drop l i
 have hs := stepN_le (l := l.drop i) (by simp; omega)
 rw [if_neg (by rw [List.drop_eq_nil_iff]; omega)] at hT
 have hm : max (signL (l.drop i) : Int) 1 = ((stepN (l.drop i) : Nat) : Int) := by unfold stepN; omega
 have HS := sign_ok g (l.drop i)
 simp only [vcA, seval, vV, d1, d2, hd]
 refine ⟨by omega, ?_⟩
 (with_reducible apply v_call); (· simp only [vcA, seval, vV]; with_reducible rfl); (· rfl); (· exact HS); (· first | rfl | (simp only [vcA, seval]; omega)); (· simp only [vcA, seval, vV]; with_reducible rfl)
 simp only [vcA, seval, vV, hm]
 simp only [List.length_drop] at hs
 obtain ⟨n, hn⟩ : ∃ n, n = stepN (l.drop i) := ⟨_, rfl⟩
 rw [← hn] at hs hT ⊢
 have w1 : IntKind.i64.wrap ((i : Int) + (n : Int)) = ((i + n : Nat) : Int) := by rw [wrap64 (by omega) (by omega)]; omega
 have g1 : i ≤ i + n := by omega
 have g2 : i + n ≤ l.length := by omega
 have hx : (str l).extract i (i + n) = str ((l.drop i).take n) := by rw [str_extract]; congr 2; omega
 have hlen : ((l.drop i).take n).length = n := by simp; omega
 have HT := isText_ok g ((l.drop i).take n) (by omega)
 have hii : i + n - i = n := by omega
 simp only [vcA, seval, vV, w1, hx, hii]
 refine ⟨⟨by omega, by omega⟩, ?_⟩
 (with_reducible apply v_call); (· simp only [vcA, seval, vV]; with_reducible rfl); (· rfl); (· exact HT); (· first | rfl | (simp only [vcA, seval]; omega)); (· simp only [vcA, seval, vV]; with_reducible rfl)
 by_cases hok : isText ((l.drop i).take n) = true
 ·rw [if_pos hok, List.drop_drop] at hT
  simp only [vcA, seval, vV, hok, w1, hx, hii]
  refine ⟨⟨by omega, by omega⟩, by omega, ?_⟩
  refine z10 ⟨(i + n, out ++ (l.drop i).take n), by omega, by simp; omega, hT⟩ (by show l.length - (i + n) < l.length - i; omega) ?_
  apply lw_of <;> simp [leL, lk, sv, Nat.beq, I, S, ES.kill, has, drp, nilT]
 ·have hok' : isText ((l.drop i).take n) = false := by simpa using hok
  rw [if_neg hok, List.drop_drop] at hT
  simp only [vcA, seval, vV, hok', w1]
  refine z10 ⟨(i + n, out), by omega, ho, hT⟩ (by show l.length - (i + n) < l.length - i; omega) ?_
  apply lw_of <;> simp [leL, lk, sv, Nat.beq, I, S, ES.kill, has, drp, nilT]
theorem z101 {c n : Int} (hn : 0 < n) (hc : I64 c) : 0 ≤ pickI c n ∧ pickI c n < n := by
 unfold pickI
 obtain ⟨h0, h1⟩ := hc
 split
 ·exact ⟨Int.tmod_nonneg n (by omega), Int.tmod_lt_of_pos _ hn⟩
 ·exact ⟨Int.tmod_nonneg n (by omega), Int.tmod_lt_of_pos _ hn⟩
theorem pickI_ok (g : Sh.Glob) (c n : Int) (hc : I64 c) (hn : n ≠ 0) : SCalls Tryz.prog g 88 [I c, I n] [] (I (pickI c n)) [] := pick_ok g c n hc.1 hc.2 hn

def valOne (k n : Int) (s : List UInt8) : V :=
 if k = 1 then .mk 1 (if n < -1000000000000000 ∨ 1000000000000000 < n then pickI n 1000000000000001 else n) [] []
 else if k = 2 then .mk 2 0 (valText s) []
 else if k = 3 ∨ k = 4 then .mk k (1 + pickI n 100000) [] [] else V.nil
theorem valOne_ok (g : Sh.Glob) (k j n : Int) (s : List UInt8) (hn : I64 n) (hs : s.length ≤ 9223372036854775807) : SCalls Tryz.prog g 45 [I k, .agg [I j, I n, S (str s)]] [] (nv (valOne k n s)) [] := by
 refine z7 hmix tf_62 rfl ?_
 have hp := z101 (n := 100000) (by decide) hn
 have w1 : IntKind.i64.wrap (1 + pickI n 100000) = 1 + pickI n 100000 := wrap64 (by omega) (by omega)
 unfold valOne
 by_cases k1 : k = 1
 ·subst k1
  rw [if_pos rfl]
  simp only [vcA, seval, I, S]
  refine ⟨fun h => ?_, fun h => ⟨fun h' => ?_, fun h' => ?_⟩⟩
  ·rw [if_pos (.inl h)]
   (with_reducible apply v_call); (· simp only [vcA, seval, I, S]; with_reducible rfl); (· rfl); (· exact pickI_ok g n 1000000000000001 hn (by decide)); (· first | rfl | (simp only [vcA, seval]; omega)); (· simp only [vcA, seval, I, S]; with_reducible rfl)
   simp only [vcA, seval, I, S]
   rfl
  ·rw [if_pos (.inr h')]
   (with_reducible apply v_call); (· simp only [vcA, seval, I, S]; with_reducible rfl); (· rfl); (· exact pickI_ok g n 1000000000000001 hn (by decide)); (· first | rfl | (simp only [vcA, seval]; omega)); (· simp only [vcA, seval, I, S]; with_reducible rfl)
   simp only [vcA, seval, I, S]
   rfl
  ·rw [if_neg (by omega)]; rfl
 rw [if_neg k1]
 by_cases k2 : k = 2
 ·subst k2
  rw [if_pos rfl]
  simp only [vcA, seval, I, S]
  (with_reducible apply v_call); (· simp only [vcA, seval, I, S]; with_reducible rfl); (· rfl); (· exact valText_ok g s hs); (· first | rfl | (simp only [vcA, seval]; omega)); (· simp only [vcA, seval, I, S]; with_reducible rfl)
  simp only [vcA, seval, I, S]
  rfl
 rw [if_neg k2]
 by_cases k3 : k = 3 ∨ k = 4
 ·rw [if_pos k3]
  rcases k3 with rfl | rfl
  ·simp only [vcA, seval, I, S]
   (with_reducible apply v_call); (· simp only [vcA, seval, I, S]; with_reducible rfl); (· rfl); (· exact pickI_ok g n 100000 hn (by decide)); (· first | rfl | (simp only [vcA, seval]; omega)); (· simp only [vcA, seval, I, S]; with_reducible rfl)
   simp only [vcA, seval, I, S, w1]
   rfl
  ·simp only [vcA, seval, I, S]
   (with_reducible apply v_call); (· simp only [vcA, seval, I, S]; with_reducible rfl); (· rfl); (· exact pickI_ok g n 100000 hn (by decide)); (· first | rfl | (simp only [vcA, seval]; omega)); (· simp only [vcA, seval, I, S]; with_reducible rfl)
   simp only [vcA, seval, I, S, w1]
   rfl
 ·rw [if_neg k3]
  have k3' : ¬ k = 3 := fun h => k3 (.inl h)
  have k4' : ¬ k = 4 := fun h => k3 (.inr h)
  simp only [vcA, seval, I, S, k1, k2, k3', k4']
  rfl
end Go.Proofs.YtmiokadmddjccaaGreatDoor
end

section
namespace Go.Proofs.YtmiokadmddjccaaGreatDoor
open Go
def qs (s : List UInt8) : List UInt8 := s.flatMap fun b => if b.toNat = 34 ∨ b.toNat = 92 then [92, b] else [b]
theorem qs_app (a c : List UInt8) : qs (a ++ c) = qs a ++ qs c := by simp [qs]
theorem qs_len (s : List UInt8) : (qs s).length ≤ 2 * s.length := by
 unfold qs
 induction s with
 | nil => simp
 | cons b s ih => rw [List.flatMap_cons, List.length_append, List.length_cons]; split <;> simp only [List.length_cons, List.length_nil] <;> omega
end Go.Proofs.YtmiokadmddjccaaGreatDoor
end

section
namespace Go.Sh.Cd2
open Go Go.Sh
set_option maxRecDepth 100000
abbrev c_81_0 : SCode := .reg [([], [oD 2 (.mov (.val (.string ⟨#[]⟩)))])] [2]
abbrev c_81_1 : SCode := .reg [([], [oM 4 0, oD 5 (.bin .lss 3 (.tmp 4) (vI 0))])] [4]
abbrev c_81_2 : SCode := .reg [([], [oM 6 0, oD 7 (.bin .leq 3 (.tmp 6) (.val (.int .i64 (-10))))])] [5, 6]
abbrev c_81_3 : SCode := .reg [([2040, 2041, 2042, 2043, 2056, 2057, 2058, 2059], [oM 8 0, oD 9 (.bin .quo 3 (.tmp 8) (vI 10)), oD 10 (.call 44 0 [.tmp 9]), oM 11 0, oD 12 (.bin .rem 3 (.tmp 11) (vI 10)), oD 13 (.un .neg (.tmp 12)), oD 14 (.call 44 0 [.tmp 13]), oD 15 (.bin .add 9 (.tmp 10) (.tmp 14)), oM 2 15])] [0, 7, 8, 9, 10, 11, 12, 13, 14, 15]
abbrev c_81_4 : SCode := .reg [([2072, 2073, 2074, 2075], [oM 16 0, oD 17 (.un .neg (.tmp 16)), oD 18 (.call 44 0 [.tmp 17]), oD 19 (.bin .add 9 (.val (.string ⟨#[45]⟩)) (.tmp 18)), oM 2 19])] [0, 7, 16, 17, 18, 19]
abbrev c_81_5 : SCode := .reg [([], [oM 20 0, oD 21 (.bin .rem 3 (.tmp 20) (vI 10)), oM 22 0, oD 23 (.bin .rem 3 (.tmp 22) (vI 10)), oD 24 (.bin .add 3 (.tmp 23) (vI 1)), oD 25 (.ssub (.val (.string ⟨#[48, 49, 50, 51, 52, 53, 54, 55, 56, 57]⟩)) (some (.tmp 21)) (some (.tmp 24))), oM 3 25])] [2, 5, 20, 21, 22, 23, 24, 25]
abbrev c_81_6 : SCode := .reg [([], [oM 26 0, oD 27 (.bin .lss 3 (.tmp 26) (vI 10))])] [26]
abbrev c_81_7 : SCode := .reg [([], [oM 28 3, oM 2 28])] [0, 3, 27, 28]
abbrev c_81_8 : SCode := .reg [([2124, 2125, 2126, 2127], [oM 29 0, oD 30 (.bin .quo 3 (.tmp 29) (vI 10)), oD 31 (.call 44 0 [.tmp 30]), oM 32 3, oD 33 (.bin .add 9 (.tmp 31) (.tmp 32)), oM 2 33])] [0, 3, 27, 29, 30, 31, 32, 33]
abbrev F_81 : SFunc := ⟨34, (.seq c_81_0 (.seq (.seq c_81_1 (.cond (.tmp 5) (.seq (.seq c_81_2 (.cond (.tmp 7) (.seq c_81_3 .ret) .skip)) (.seq c_81_4 .ret)) .skip)) (.seq c_81_5 (.seq (.seq c_81_6 (.cond (.tmp 27) (.seq c_81_7 .ret) .skip)) (.seq c_81_8 .ret))))), [.tmp 2], false⟩
theorem tf_81 : z6 Go.Proofs.Tryz.prog 44 (hintT [(10, 0), (14, 0), (18, 0), (31, 0)]) (fpT []) (killT (klN 0 F_81.code.kl)) false = some F_81 := by kernel_rfl
abbrev c_84_0 : SCode := .reg [([], [oD 2 (.mov (.val (.string ⟨#[]⟩)))])] [2]
abbrev c_84_1 : SCode := .reg [([], [oD 3 (.mov (.val (.string ⟨#[34]⟩)))])] []
abbrev c_84_2 : SCode := .reg [([], [oD 4 (.mov (vI 0))])] []
abbrev c_84_3 : SCode := .reg [([], [oM 5 4, oM 6 0, oD 7 (.slen (.tmp 6)), oD 8 (.bin .lss 3 (.tmp 5) (.tmp 7))])] [5, 6, 7]
abbrev c_84_4 : SCode := .reg [([], [oM 11 0, oM 12 4, oD 13 (.sidx (.tmp 11) (.tmp 12)), oD 14 (.bin .eql 5 (.tmp 13) (.val (.int .u8 34))), oM 15 14, oH 16 15 false 0, oH 17 15 false 4, oG 18 15 false (.sidx (.tmp 16) (.tmp 17)), oG 19 15 false (.bin .eql 5 (.tmp 18) (.val (.int .u8 92))), oQ 20 15 19 true])] [8, 11, 12, 13, 14, 15, 16, 17, 18, 19]
abbrev c_84_5 : SCode := .reg [([], [oM 21 3, oD 22 (.bin .add 9 (.tmp 21) (.val (.string ⟨#[92]⟩))), oM 3 22])] [20, 21, 22]
abbrev c_84_6 : SCode := .reg [([], [oM 23 3, oM 24 0, oM 25 4, oM 26 4, oD 27 (.bin .add 3 (.tmp 26) (vI 1)), oD 28 (.ssub (.tmp 24) (some (.tmp 25)) (some (.tmp 27))), oD 29 (.bin .add 9 (.tmp 23) (.tmp 28)), oM 3 29])] [20, 23, 24, 25, 26, 27, 28, 29]
abbrev c_84_7 : SCode := .reg [([], [oM 9 4, oD 10 (.bin .add 3 (.tmp 9) (vI 1)), oM 4 10])] [9, 10]
abbrev c_84_8 : SCode := (.seq (.seq c_84_3 (.cond (.tmp 8) .skip (.exit 0))) (.seq (.block 1 (.seq (.seq c_84_4 (.cond (.tmp 20) c_84_5 .skip)) c_84_6)) c_84_7))
abbrev c_84_9 : SCode := .reg [([], [oM 30 3, oD 31 (.bin .add 9 (.tmp 30) (.val (.string ⟨#[34]⟩))), oM 2 31])] [0, 3, 4, 30, 31]
abbrev F_84 : SFunc := ⟨32, (.seq c_84_0 (.seq c_84_1 (.seq (.seq c_84_2 (.block 0 (.loop c_84_8))) (.seq c_84_9 .ret)))), [.tmp 2], false⟩
theorem tf_84 : z6 Go.Proofs.Tryz.prog 46 (hintT []) (fpT []) (killT [(0, [2]), (3, [5, 6, 7]), (5, [8, 11, 12, 13, 14, 15, 16, 17, 18, 19]), (6, [20, 21, 22]), (7, [20, 23, 24, 25, 26, 27, 28, 29]), (4, [9, 10]), (8, [0, 3, 4, 30, 31])]) false = some F_84 := by kernel_rfl
end Go.Sh.Cd2
end

section
namespace Go.Proofs.YtmiokadmddjccaaGreatDoor
open Go Go.RowKit Go.Mor Go.Sh Go.Sh.Cd1 Go.Sh.Cd2
set_option maxRecDepth 100000
set_option maxHeartbeats 4000000
theorem digs : (⟨#[48, 49, 50, 51, 52, 53, 54, 55, 56, 57]⟩ : ByteArray) = str [48, 49, 50, 51, 52, 53, 54, 55, 56, 57] := rfl
theorem dig_at : ∀ k, k < 10 → List.take (k + 1 - k) (List.drop k [48, 49, 50, 51, 52, 53, 54, 55, 56, 57]) = [UInt8.ofNat (48 + k)] := by decide
theorem q45 : (⟨#[45]⟩ : ByteArray) = str [45] := rfl
theorem z141 (u : Nat) (h : ¬ u < 10) : Lib.decDigits u = Lib.decDigits (u / 10) ++ [UInt8.ofNat (48 + u % 10)] := by
 conv => lhs; rw [Lib.decDigits]
 rw [dif_neg h]
theorem refDigitsN_ok (g : Sh.Glob) : ∀ (f u : Nat), u ≤ f → u ≤ 1000000000000000 → SCalls Tryz.prog g 44 [I (u : Int)] [] (S (str (Lib.decDigits u))) []
 | f, u, hf, hu => by
  have e1 : (u : Int).tmod 10 = ((u % 10 : Nat) : Int) := (Int.ofNat_tmod _ _).symm
  have w1 : IntKind.i64.wrap (((u % 10 : Nat) : Int) + 1) = ((u % 10 + 1 : Nat) : Int) := by rw [wrap64 (by omega) (by omega)]; omega
  have d0 : ¬ (u : Int) < 0 := by omega
  have dk := dig_at (u % 10) (by omega)
  refine z7 hmix tf_81 rfl ?_
  by_cases h10 : u < 10
  ·have d1 : (u : Int) < 10 := by omega
   simp only [vcA, seval, vV, d0, e1, w1, digs, d1, dk]
   refine ⟨⟨by omega, by omega⟩, ?_⟩
   rw [Lib.decDigits_one h10, Nat.mod_eq_of_lt h10]
  ·have d1 : ¬ (u : Int) < 10 := by omega
   have w2 : IntKind.i64.wrap ((u : Int).tdiv 10) = ((u / 10 : Nat) : Int) := by
    rw [show (u : Int).tdiv 10 = ((u / 10 : Nat) : Int) from (Int.ofNat_tdiv _ _).symm, wrap64 (by omega) (by omega)]
   obtain ⟨f', rfl⟩ : ∃ f', f = f' + 1 := ⟨f - 1, by omega⟩
   have HD := refDigitsN_ok g f' (u / 10) (by omega) (by omega)
   have hl := Lib.itoa_length_le (u / 10 : Nat) (by omega) (by omega)
   rw [Lib.itoa_nonneg] at hl
   rw [z141 u h10]
   simp only [vcA, seval, vV, d0, e1, w1, digs, d1, dk, w2]
   refine ⟨⟨by omega, by omega⟩, ?_⟩
   (with_reducible apply v_call); (· simp only [vcA, seval, vV]; with_reducible rfl); (· rfl); (· exact HD); (· first | rfl | (simp only [vcA, seval]; omega)); (· simp only [vcA, seval, vV]; with_reducible rfl)
   simp only [vcA, seval, vV]
   omega
theorem refDigits_ok (g : Sh.Glob) (n : Int) (h1 : -1000000000000000 ≤ n) (h2 : n ≤ 1000000000000000) : SCalls Tryz.prog g 44 [I n] [] (S (str (Lib.itoa n))) [] := by
 by_cases hneg : n < 0
 ·-- n = -u
  have key : ∀ (f u : Nat), u ≤ f → 1 ≤ u → u ≤ 1000000000000000 → SCalls Tryz.prog g 44 [I (-(u : Int))] [] (S (str (45 :: Lib.decDigits u))) [] := by
   intro f
   induction f with
   | zero => intro u h1 h2; omega
   | succ f ih =>
    intro u hf hu1 hu
    refine z7 hmix tf_81 rfl ?_
    have d0 : (-(u : Int)) < 0 := by omega
    by_cases h10 : u < 10
    ·have d1 : ¬ (-(u : Int)) ≤ -10 := by omega
     have HD := refDigitsN_ok g u u (Nat.le_refl _) hu
     have w0 : IntKind.i64.wrap (0 - -(u : Int)) = (u : Int) := by rw [wrap64 (by omega) (by omega)]; omega
     have hl := Lib.itoa_length_le (u : Nat) (by omega) (by omega)
     rw [Lib.itoa_nonneg] at hl
     simp only [vcA, seval, vV, d0, d1, w0]
     (with_reducible apply v_call); (· simp only [vcA, seval, vV]; with_reducible rfl); (· rfl); (· exact HD); (· first | rfl | (simp only [vcA, seval]; omega)); (· simp only [vcA, seval, vV]; with_reducible rfl)
     simp only [vcA, seval, vV, q45]
     omega
    ·have d1 : (-(u : Int)) ≤ -10 := by omega
     have e1 : (-(u : Int)).tmod 10 = -((u % 10 : Nat) : Int) := by rw [Int.neg_tmod]; congr 1
     have e2 : (-(u : Int)).tdiv 10 = -((u / 10 : Nat) : Int) := by rw [Int.neg_tdiv]; congr 1
     have w1 : IntKind.i64.wrap (-((u / 10 : Nat) : Int)) = -((u / 10 : Nat) : Int) := wrap64 (by omega) (by omega)
     have w2 : IntKind.i64.wrap (0 - -((u % 10 : Nat) : Int)) = ((u % 10 : Nat) : Int) := by rw [wrap64 (by omega) (by omega)]; omega
     have HD := ih (u / 10) (by omega) (by omega) (by omega)
     have HE := refDigitsN_ok g (u % 10) (u % 10) (Nat.le_refl _) (by omega)
     rw [Lib.decDigits_one (show u % 10 < 10 by omega)] at HE
     have hl := Lib.itoa_length_le (u / 10 : Nat) (by omega) (by omega)
     rw [Lib.itoa_nonneg] at hl
     rw [z141 u h10]
     simp only [vcA, seval, vV, d0, d1, e1, e2, w1]
     (with_reducible apply v_call); (· simp only [vcA, seval, vV]; with_reducible rfl); (· rfl); (· exact HD); (· first | rfl | (simp only [vcA, seval]; omega)); (· simp only [vcA, seval, vV]; with_reducible rfl)
     simp only [vcA, seval, vV, e1, w2]
     (with_reducible apply v_call); (· simp only [vcA, seval, vV]; with_reducible rfl); (· rfl); (· exact HE); (· first | rfl | (simp only [vcA, seval]; omega)); (· simp only [vcA, seval, vV]; with_reducible rfl)
     simp only [vcA, seval, vV]
     omega
  obtain ⟨u, rfl⟩ : ∃ u : Nat, n = -(u : Int) := ⟨n.natAbs, by omega⟩
  rw [Lib.itoa_neg u (by omega)]
  exact key u u (Nat.le_refl _) (by omega) (by omega)
 ·obtain ⟨u, rfl⟩ : ∃ u : Nat, n = (u : Int) := ⟨n.toNat, by omega⟩
  rw [Lib.itoa_nonneg]
  exact refDigitsN_ok g u u (Nat.le_refl _) (by omega)
theorem q34'' : (⟨#[34]⟩ : ByteArray) = str [34] := rfl
theorem q92 : (⟨#[92]⟩ : ByteArray) = str [92] := rfl
theorem refQuoted_ok (g : Sh.Glob) (l : List UInt8) (hl : l.length ≤ 10000) : SCalls Tryz.prog g 46 [S (str l)] [] (S (str (34 :: (qs l ++ [34])))) [] := by
 refine z7 hmix tf_84 rfl ?_
 simp only [vcA, seval, vV]
 refine v_loop (σ := {i : Nat // i ≤ l.length}) (fun i => ⟨[(0, S (str l)), (3, S (str (34 :: qs (l.take i.1)))), (4, I (i.1 : Int))], [], [], []⟩) (fun i => l.length - i.1) ⟨0, Nat.zero_le _⟩ ?_ ?_
 ·rw [List.take_zero, show (34 :: qs []) = [34] from rfl, ← q34'']; apply lw_of <;> simp [leL, lk, sv, Nat.beq, I, S, ES.kill, has, drp, nilT]
 rintro ⟨i, hi⟩
 have hq := qs_len (l.take i)
 rw [List.length_take] at hq
 by_cases hlt : i < l.length
 ·have d1 : (i : Int) < (l.length : Int) := by omega
  obtain ⟨c, ec⟩ : ∃ c, l[i]? = some c := ⟨_, List.getElem?_eq_getElem hlt⟩
  have w1 : IntKind.i64.wrap ((i : Int) + 1) = ((i + 1 : Nat) : Int) := by rw [wrap64 (by omega) (by omega)]; omega
  have tk : List.take (i + 1 - i) (List.drop i l) = [c] := by
   rw [show i + 1 - i = 1 by omega, List.drop_eq_getElem_cons hlt]
   rw [List.getElem?_eq_getElem hlt] at ec
   simp [Option.some.inj ec]
  have tk1 := List.take_add_one (l := l) (i := i)
  rw [ec] at tk1
  have g1 : i ≤ i + 1 := by omega
  have g2 : i + 1 ≤ l.length := by omega
  by_cases hc : c.toNat = 34 ∨ c.toNat = 92
  ·have hqs : qs (l.take (i + 1)) = qs (l.take i) ++ [92, c] := by
    rw [tk1, qs_app]; congr 1; show List.flatMap _ [c] = _; simp [hc]
   have fin : ∀ s : ES, (⟨[(0, S (str l)), (3, S (str (34 :: (qs (l.take i) ++ [92] ++ [c])))), (4, I ((i + 1 : Nat) : Int))], [], [], []⟩ : ES).Lw s → (⟨[(0, S (str l)), (3, S (str (34 :: qs (l.take (i + 1))))), (4, I ((i + 1 : Nat) : Int))], [], [], []⟩ : ES).Lw s := by
    intro s h; rw [hqs, show qs (l.take i) ++ [92, c] = qs (l.take i) ++ [92] ++ [c] by simp]; exact h
   rcases hc with c34 | c92
   ·have d2 : (c.toNat : Int) = 34 := by omega
    simp only [vcA, seval, vV, d1, ec, d2, q92, w1, tk, g1, g2]
    refine ⟨by omega, by omega, z10 ⟨i + 1, g2⟩ (by show l.length - (i + 1) < l.length - i; omega) (fin _ ?_)⟩
    apply lw_of <;> simp [leL, lk, sv, Nat.beq, I, S, ES.kill, has, drp, nilT]
   ·have d2 : ¬ (c.toNat : Int) = 34 := by omega
    have d3 : (c.toNat : Int) = 92 := by omega
    simp only [vcA, seval, vV, d1, ec, d2, d3, q92, w1, tk, g1, g2]
    refine ⟨by omega, by omega, z10 ⟨i + 1, g2⟩ (by show l.length - (i + 1) < l.length - i; omega) (fin _ ?_)⟩
    apply lw_of <;> simp [leL, lk, sv, Nat.beq, I, S, ES.kill, has, drp, nilT]
  ·have d2 : ¬ (c.toNat : Int) = 34 := by omega
   have d3 : ¬ (c.toNat : Int) = 92 := by omega
   have hqs : qs (l.take (i + 1)) = qs (l.take i) ++ [c] := by
    rw [tk1, qs_app]; congr 1; show List.flatMap _ [c] = _; simp [hc]
   simp only [vcA, seval, vV, d1, ec, d2, d3, w1, tk, g1, g2]
   refine ⟨by omega, z10 ⟨i + 1, g2⟩ (by show l.length - (i + 1) < l.length - i; omega) ?_⟩
   simp only [hqs]
   apply lw_of <;> simp [leL, lk, sv, Nat.beq, I, S, ES.kill, has, drp, nilT]
 ·have d1 : ¬ (i : Int) < (l.length : Int) := by omega
  obtain rfl : i = l.length := by omega
  rw [List.take_length]
  simp only [vcA, seval, vV, d1, q34'']
  have := qs_len l
  omega
end Go.Proofs.YtmiokadmddjccaaGreatDoor
end

section
namespace Go.Proofs.YtmiokadmddjccaaGreatDoor
open Go Go.RowKit Go.Mor
theorem byte_lt (l : List UInt8) (i : Nat) : (l.getD i 0).toNat < 256 := (l.getD i 0).toNat_lt
theorem signL_decode (b : UInt8) (t : List UInt8) : signL (b :: t) = if (Lib.decodeL (b :: t)).1 = 65533 ∧ (Lib.decodeL (b :: t)).2 = 1 then 0 else (Lib.decodeL (b :: t)).2 := by
 rw [Lib.decodeL_N, signL, if_neg (by simp)]
 exact signN_decode _ _ _ _ _ (byte_lt _ _) (byte_lt _ _) (byte_lt _ _) (byte_lt _ _)
theorem rune_lo (n b0 b1 b2 b3 : Nat) : (b0 < 128 → (Lib.decodeN n b0 b1 b2 b3).1 = b0) ∧ (128 ≤ b0 → 128 ≤ (Lib.decodeN n b0 b1 b2 b3).1) := by
 unfold Lib.decodeN
 refine ⟨fun h => by rw [if_pos h], fun h => ?_⟩
 rw [if_neg (by omega)]
 (repeat' split) <;> simp only <;> omega
theorem plainR_lead (b : UInt8) (t : List UInt8) : plainR (Lib.decodeL (b :: t)).1 = (!decide (b.toNat < 32) && !(b.toNat == 127)) := by
 rw [Lib.decodeL_N]
 have h := rune_lo (b :: t).length ((b :: t).getD 0 0).toNat ((b :: t).getD 1 0).toNat ((b :: t).getD 2 0).toNat ((b :: t).getD 3 0).toNat
 have e : (b :: t).getD 0 0 = b := rfl
 rw [e] at h ⊢
 generalize (Lib.decodeN _ _ _ _ _).1 = r at h ⊢
 unfold plainR
 rw [Bool.eq_iff_iff]
 rcases Nat.lt_or_ge b.toNat 128 with hb | hb
 ·rw [h.1 hb]; simp
 ·have := h.2 hb
  simp; omega
theorem isText_eq : ∀ (n : Nat) (l : List UInt8), l.length ≤ n → isText l = (Lib.validD l && plainD l) := by
 intro n
 induction n with
 | zero => intro l hl; obtain rfl := List.eq_nil_of_length_eq_zero (by omega : l.length = 0); rfl
 | succ n ih =>
  intro l hl
  cases l with
  | nil => rfl
  | cons b t =>
   rw [z142, Lib.validD_step _ (by simp), z147 _ (by simp), plainR_lead, signL_decode]
   have hw := Lib.decodeL_width (b :: t)
   split
   ·simp
   ·rw [ih _ (by simp at hl ⊢; omega)]
    have h0 : ((Lib.decodeL (b :: t)).2 == 0) = false := by simp; omega
    rw [h0]
    generalize Lib.validD _ = p
    generalize plainD _ = q
    cases p <;> cases q <;> simp
theorem signL_app (a c : List UInt8) (h : signL a ≠ 0) : signL (a ++ c) = signL a := by
 have hne : a ≠ [] := by rintro rfl; exact h rfl
 have hl := (signL_le a).1
 unfold signL at *
 rw [if_neg hne] at h hl ⊢
 rw [if_neg (by simp [hne])]
 have g : ∀ i, i < a.length → (a ++ c).getD i 0 = a.getD i 0 := fun i hi => by
  simp only [List.getD_eq_getElem?_getD]; rw [List.getElem?_append_left hi]
 have h0 : 0 < a.length := List.length_pos_iff.2 hne
 rw [g 0 h0]
 simp only [List.length_append]
 generalize hB0 : (a.getD 0 0).toNat = B0 at h hl ⊢
 have g1 : 1 < a.length → ((a ++ c).getD 1 0).toNat = (a.getD 1 0).toNat := fun h => by rw [g 1 h]
 have g2 : 2 < a.length → ((a ++ c).getD 2 0).toNat = (a.getD 2 0).toNat := fun h => by rw [g 2 h]
 have g3 : 3 < a.length → ((a ++ c).getD 3 0).toNat = (a.getD 3 0).toNat := fun h => by rw [g 3 h]
 generalize ((a ++ c).getD 1 0).toNat = C1 at g1 ⊢
 generalize ((a ++ c).getD 2 0).toNat = C2 at g2 ⊢
 generalize ((a ++ c).getD 3 0).toNat = C3 at g3 ⊢
 generalize (a.getD 1 0).toNat = D1 at g1 h hl ⊢
 generalize (a.getD 2 0).toNat = D2 at g2 h hl ⊢
 generalize (a.getD 3 0).toNat = D3 at g3 h hl ⊢
 unfold signN at *
 by_cases c1 : B0 < 128
 ·rw [if_pos c1, if_pos c1]
 rw [if_neg c1] at h hl ⊢
 rw [if_neg c1]
 by_cases c2 : 194 ≤ B0 ∧ B0 ≤ 223
 ·rw [if_pos c2] at h hl ⊢
  rw [if_pos c2]
  split at h
  ·contradiction
  ·rw [if_neg (by omega), if_neg (by assumption)]
 rw [if_neg c2] at h hl ⊢
 rw [if_neg c2]
 by_cases c3 : 224 ≤ B0 ∧ B0 ≤ 239
 ·rw [if_pos c3] at h hl ⊢
  rw [if_pos c3]
  generalize (if B0 = 224 then 160 else 128) = lo at *
  generalize (if B0 = 237 then 159 else 191) = hi at *
  split at h
  ·contradiction
  ·rw [if_neg (by omega), if_neg (by assumption)]
 rw [if_neg c3] at h hl ⊢
 rw [if_neg c3]
 by_cases c4 : 240 ≤ B0 ∧ B0 ≤ 244
 ·rw [if_pos c4] at h hl ⊢
  rw [if_pos c4]
  generalize (if B0 = 240 then 144 else 128) = lo at *
  generalize (if B0 = 244 then 143 else 191) = hi at *
  split at h
  ·contradiction
  ·rw [if_neg (by omega), if_neg (by assumption)]
 rw [if_neg c4] at h
 contradiction
theorem isText_app : ∀ (n : Nat) (a c : List UInt8), a.length ≤ n → isText a = true → isText c = true → isText (a ++ c) = true := by
 intro n
 induction n with
 | zero => intro a c ha _ hc; obtain rfl := List.eq_nil_of_length_eq_zero (by omega : a.length = 0); exact hc
 | succ n ih =>
  intro a c hl ha hc
  cases a with
  | nil => exact hc
  | cons b t =>
   rw [z142] at ha
   simp only [Bool.and_eq_true, Bool.not_eq_true', beq_eq_false_iff_ne] at ha
   obtain ⟨⟨⟨h1, h2⟩, h3⟩, h4⟩ := ha
   have hs := signL_app (b :: t) c h1
   have hle := (signL_le (b :: t)).1
   rw [List.cons_append] at hs
   rw [List.cons_append, z142, hs, ← List.cons_append, List.drop_append_of_le_length hle]
   rw [ih _ c (by simp at hl ⊢; omega) h4 hc]
   simp [h1, h2, h3]
theorem vtN_right : ∀ (n : Nat) (l out : List UInt8), isText out = true → out.length ≤ 20 → isText (vtN n l out) = true ∧ (vtN n l out).length ≤ 20 := by
 intro n
 induction n with
 | zero => intro l out h1 h2; exact ⟨h1, h2⟩
 | succ n ih =>
  intro l out h1 h2
  simp only [vtN]
  split
  ·exact ⟨h1, h2⟩
  ·rename_i hn
   refine ih _ _ ?_ ?_
   ·split
    ·rename_i ht; exact isText_app _ _ _ (Nat.le_refl _) h1 ht
    ·exact h1
   ·split
    ·have hl : 0 < l.length := List.length_pos_iff.2 (fun h => hn (.inl h))
     have hs := stepN_le hl
     have : ¬ 17 ≤ out.length := fun h => hn (.inr h)
     simp only [List.length_append, List.length_take]; omega
    ·exact h2
theorem z95 (l : List UInt8) : (valText l).length ≤ 20 ∧ isText (valText l) = true := (vtN_right _ l [] rfl (by simp)).symm
theorem z159 (l : List UInt8) : z8 (valText l) = true := by
 obtain ⟨h1, h2⟩ := z95 l
 rw [isText_eq _ _ (Nat.le_refl _)] at h2
 unfold z8
 simp only [Bool.and_eq_true] at h2 ⊢
 exact ⟨by simp; omega, h2⟩
end Go.Proofs.YtmiokadmddjccaaGreatDoor
end

section
namespace Go.Proofs.YtmiokadmddjccaaGreatDoor
open Go Go.RowKit Go.Mor Go.Sh Go.Sh.Cd1 Go.Sh.Cd6
set_option maxRecDepth 100000
set_option maxHeartbeats 8000000
theorem pick6_ok (g : Sh.Glob) (c n : Int) (hc : I64 c) (hn : n ≠ 0) : SCalls Tryz.prog g 38 [I c, I n] [] (I (pickI c n)) [] := by
 obtain ⟨h0, h1⟩ := hc
 refine z7 hmix tf_74 rfl ?_
 unfold pickI
 by_cases hneg : c < 0
 ·rw [if_pos hneg]
  have w1 : IntKind.i64.wrap (c + 1) = c + 1 := wrap64 (by omega) (by omega)
  have w2 : IntKind.i64.wrap (0 - (c + 1)) = -(c + 1) := by rw [wrap64 (by omega) (by omega)]; omega
  simp only [vcA, seval, vV, hneg, hn, w1, w2]
 ·rw [if_neg hneg]
  simp only [vcA, seval, vV, hneg, hn]
theorem qs_eq (s : List UInt8) : qs s = qesc s := by
 unfold qs qesc
 congr 1
 funext b
 have h1 : b.toNat = 34 ↔ b = 34 := ⟨fun h => UInt8.toNat.inj h, fun h => by rw [h]; rfl⟩
 have h2 : b.toNat = 92 ↔ b = 92 := ⟨fun h => UInt8.toNat.inj h, fun h => by rw [h]; rfl⟩
 simp only [h1, h2]
theorem quoted6_ok (g : Sh.Glob) (l : List UInt8) (hl : l.length ≤ 10000) : SCalls Tryz.prog g 46 [S (str l)] [] (S (str (quot l))) [] := by
 have := refQuoted_ok g l hl
 rw [qs_eq] at this
 exact this
theorem valOne_num {n : Int} (hn : I64 n) : ∃ N, valOne 1 n [] = .mk 1 N [] [] ∧ Rg N := by
 unfold valOne
 rw [if_pos rfl]
 refine ⟨_, rfl, ?_⟩
 split
 ·have := z101 (n := 1000000000000001) (by decide) hn
  exact ⟨by omega, by omega⟩
 ·exact ⟨by omega, by omega⟩
theorem evalIf_ok (m : Nat) (a b : Int) (s t : List UInt8) (ha : I64 a) (hb : I64 b) (hs : s.length ≤ 9223372036854775807) (ht : t.length ≤ 9223372036854775807) :
  SCalls Tryz.prog (glE m) 8 [I a, I b, S (str s), S (str t)] [] (B true) [] := by
 have HA := awake_ok m
 have HO := valOne_ok (glE m) 1 0 a [] ha (by simp)
 obtain ⟨x, hx, rx⟩ := valOne_num ha
 rw [hx] at HO
 have HP := pick6_ok (glE m) b 100 hb (by decide)
 have hy := z101 (n := 100) (by decide) hb
 generalize pickI b 100 = y at *
 have HD := refDigits_ok (glE m) y (by omega) (by omega)
 have hw := z100 (n := y) ⟨by omega, by omega⟩
 have HV := valText_ok (glE m) s hs
 have HV' := valText_ok (glE m) t ht
 obtain ⟨lu, _⟩ := z95 s
 obtain ⟨lv, _⟩ := z95 t
 have ru := z159 s
 have rv := z159 t
 generalize valText s = u at *
 generalize valText t = v at *
 have HQ := quoted6_ok (glE m) v (by omega)
 have hq := quot_len v
 have N1 := num6_ok (glE m) 1
 have hy' : 0 ≤ y ∧ y ≤ 1000000000000000 := ⟨by omega, by omega⟩
 have H1 := isL_ok m (pa_if1 hy' hw) rx ru (by kernel_rfl) (.mk 1 1 [] []) (if_one rx hy) rfl
 have H2 := isL_ok m (pa_if2 hy' hw) rx ru (by kernel_rfl) (.mk 1 1 [] []) (if_two rx hy) rfl
 have H3 := isL_ok m (pa_if3 hy' hw) rx ru (by kernel_rfl) (.mk 1 1 [] []) if_three rfl
 have H4 := isL_ok m (pa_if4 rv (by omega)) rx ru (by kernel_rfl) (.mk 1 1 [] []) if_four rfl
 have H5 := isL_ok m (pa_if5 rv (by omega)) rx ru (by kernel_rfl) (.mk 1 1 [] []) if_five rfl
 have H6 := isL_ok m (pa_if6 rv (by omega)) rx ru (by kernel_rfl) (.mk 1 1 [] []) if_six rfl
 generalize Lib.itoa y = w at *
 generalize quot v = q at *
 simp only [List.cons_append, List.nil_append] at H1 H2 H3 H4 H5 H6
 unfold B nv at *
 refine z7 hmix tf_66 rfl ?_
 simp only [vcA, seval, vV]
 (with_reducible apply v_call); (· simp only [vcA, seval, vV]; with_reducible rfl); (· rfl); (· exact HA); (· first | rfl | (simp only [vcA, seval]; omega)); (· simp only [vcA, seval, vV]; with_reducible rfl)
 simp only [vcA, seval, vV]
 (with_reducible apply v_call); (· simp only [vcA, seval, vV]; with_reducible rfl); (· rfl); (· exact HO); (· first | rfl | (simp only [vcA, seval]; omega)); (· simp only [vcA, seval, vV]; with_reducible rfl)
 simp only [vcA, seval, vV]
 (with_reducible apply v_call); (· simp only [vcA, seval, vV]; with_reducible rfl); (· rfl); (· exact HP); (· first | rfl | (simp only [vcA, seval]; omega)); (· simp only [vcA, seval, vV]; with_reducible rfl)
 simp only [vcA, seval, vV]
 (with_reducible apply v_call); (· simp only [vcA, seval, vV]; with_reducible rfl); (· rfl); (· exact HD); (· first | rfl | (simp only [vcA, seval]; omega)); (· simp only [vcA, seval, vV]; with_reducible rfl)
 simp only [vcA, seval, vV]
 (with_reducible apply v_call); (· simp only [vcA, seval, vV]; with_reducible rfl); (· rfl); (· exact HV); (· first | rfl | (simp only [vcA, seval]; omega)); (· simp only [vcA, seval, vV]; with_reducible rfl)
 simp only [vcA, seval, vV]
 (with_reducible apply v_call); (· simp only [vcA, seval, vV]; with_reducible rfl); (· rfl); (· exact HV'); (· first | rfl | (simp only [vcA, seval]; omega)); (· simp only [vcA, seval, vV]; with_reducible rfl)
 (with_reducible apply v_call); (· simp only [vcA, seval, vV]; with_reducible rfl); (· rfl); (· exact HQ); (· first | rfl | (simp only [vcA, seval]; omega)); (· simp only [vcA, seval, vV]; with_reducible rfl)
 have q0 : (⟨#[109, 105, 110, 40, 110, 44, 32]⟩ : ByteArray) = str [109, 105, 110, 40, 110, 44, 32] := rfl
 have q1 : (⟨#[41, 32, 61, 32, 105, 102, 40, 110, 32, 60, 32]⟩ : ByteArray) = str [41, 32, 61, 32, 105, 102, 40, 110, 32, 60, 32] := rfl
 have q2 : (⟨#[44, 32, 110, 44, 32]⟩ : ByteArray) = str [44, 32, 110, 44, 32] := rfl
 have q3 : (⟨#[41]⟩ : ByteArray) = str [41] := rfl
 have q4 : (⟨#[109, 97, 120, 40, 110, 44, 32]⟩ : ByteArray) = str [109, 97, 120, 40, 110, 44, 32] := rfl
 have q5 : (⟨#[41, 32, 43, 32, 109, 105, 110, 40, 110, 44, 32]⟩ : ByteArray) = str [41, 32, 43, 32, 109, 105, 110, 40, 110, 44, 32] := rfl
 have q6 : (⟨#[41, 32, 61, 32, 110, 32, 43, 32]⟩ : ByteArray) = str [41, 32, 61, 32, 110, 32, 43, 32] := rfl
 have q7 : (⟨#[40, 110, 32, 60, 32]⟩ : ByteArray) = str [40, 110, 32, 60, 32] := rfl
 have q8 : (⟨#[41, 32, 43, 32, 40, 110, 32, 61, 32]⟩ : ByteArray) = str [41, 32, 43, 32, 40, 110, 32, 61, 32] := rfl
 have q9 : (⟨#[41, 32, 43, 32, 40, 110, 32, 62, 32]⟩ : ByteArray) = str [41, 32, 43, 32, 40, 110, 32, 62, 32] := rfl
 have q10 : (⟨#[40, 116, 32, 60, 32]⟩ : ByteArray) = str [40, 116, 32, 60, 32] := rfl
 have q11 : (⟨#[41, 32, 43, 32, 40, 116, 32, 61, 32]⟩ : ByteArray) = str [41, 32, 43, 32, 40, 116, 32, 61, 32] := rfl
 have q12 : (⟨#[41, 32, 43, 32, 40, 116, 32, 62, 32]⟩ : ByteArray) = str [41, 32, 43, 32, 40, 116, 32, 62, 32] := rfl
 have q13 : (⟨#[40, 116, 32, 60, 61, 32]⟩ : ByteArray) = str [40, 116, 32, 60, 61, 32] := rfl
 have q14 : (⟨#[41, 32, 43, 32, 40, 116, 32, 62, 61, 32]⟩ : ByteArray) = str [41, 32, 43, 32, 40, 116, 32, 62, 61, 32] := rfl
 have q15 : (⟨#[41, 32, 45, 32, 40, 116, 32, 61, 32]⟩ : ByteArray) = str [41, 32, 45, 32, 40, 116, 32, 61, 32] := rfl
 have q16 : (⟨#[105, 102, 40, 116, 32, 60, 62, 32]⟩ : ByteArray) = str [105, 102, 40, 116, 32, 60, 62, 32] := rfl
 have q17 : (⟨#[44, 32, 49, 44, 32, 48, 41, 32, 61, 32, 40, 116, 32, 60, 62, 32]⟩ : ByteArray) = str [44, 32, 49, 44, 32, 48, 41, 32, 61, 32, 40, 116, 32, 60, 62, 32] := rfl
 simp only [vcA, seval, vV, q0, q1, q2, q3]
 refine ⟨by omega, by omega, by omega, by omega, by omega, by omega, ?_⟩
 (with_reducible apply v_call); (· simp only [vcA, seval, vV]; with_reducible rfl); (· rfl); (· exact N1); (· first | rfl | (simp only [vcA, seval]; omega)); (· simp only [vcA, seval, vV]; with_reducible rfl)
 (with_reducible apply v_call); (· simp only [vcA, seval, vV]; with_reducible rfl); (· rfl); (· exact H1); (· first | rfl | (simp only [vcA, seval]; omega)); (· simp only [vcA, seval, vV]; with_reducible rfl)
 simp only [vcA, seval, vV, q4, q5, q6]
 refine ⟨by omega, by omega, by omega, by omega, by omega, ?_⟩
 (with_reducible apply v_call); (· simp only [vcA, seval, vV]; with_reducible rfl); (· rfl); (· exact N1); (· first | rfl | (simp only [vcA, seval]; omega)); (· simp only [vcA, seval, vV]; with_reducible rfl)
 (with_reducible apply v_call); (· simp only [vcA, seval, vV]; with_reducible rfl); (· rfl); (· exact H2); (· first | rfl | (simp only [vcA, seval]; omega)); (· simp only [vcA, seval, vV]; with_reducible rfl)
 simp only [vcA, seval, vV, q7, q8, q9, q3]
 refine ⟨by omega, by omega, by omega, by omega, by omega, by omega, ?_⟩
 (with_reducible apply v_call); (· simp only [vcA, seval, vV]; with_reducible rfl); (· rfl); (· exact N1); (· first | rfl | (simp only [vcA, seval]; omega)); (· simp only [vcA, seval, vV]; with_reducible rfl)
 (with_reducible apply v_call); (· simp only [vcA, seval, vV]; with_reducible rfl); (· rfl); (· exact H3); (· first | rfl | (simp only [vcA, seval]; omega)); (· simp only [vcA, seval, vV]; with_reducible rfl)
 simp only [vcA, seval, vV, q10, q11, q12, q3]
 refine ⟨by omega, by omega, by omega, by omega, by omega, by omega, ?_⟩
 (with_reducible apply v_call); (· simp only [vcA, seval, vV]; with_reducible rfl); (· rfl); (· exact N1); (· first | rfl | (simp only [vcA, seval]; omega)); (· simp only [vcA, seval, vV]; with_reducible rfl)
 (with_reducible apply v_call); (· simp only [vcA, seval, vV]; with_reducible rfl); (· rfl); (· exact H4); (· first | rfl | (simp only [vcA, seval]; omega)); (· simp only [vcA, seval, vV]; with_reducible rfl)
 simp only [vcA, seval, vV, q13, q14, q15, q3]
 refine ⟨by omega, by omega, by omega, by omega, by omega, by omega, ?_⟩
 (with_reducible apply v_call); (· simp only [vcA, seval, vV]; with_reducible rfl); (· rfl); (· exact N1); (· first | rfl | (simp only [vcA, seval]; omega)); (· simp only [vcA, seval, vV]; with_reducible rfl)
 (with_reducible apply v_call); (· simp only [vcA, seval, vV]; with_reducible rfl); (· rfl); (· exact H5); (· first | rfl | (simp only [vcA, seval]; omega)); (· simp only [vcA, seval, vV]; with_reducible rfl)
 simp only [vcA, seval, vV, q16, q17, q3]
 refine ⟨by omega, by omega, by omega, by omega, ?_⟩
 (with_reducible apply v_call); (· simp only [vcA, seval, vV]; with_reducible rfl); (· rfl); (· exact N1); (· first | rfl | (simp only [vcA, seval]; omega)); (· simp only [vcA, seval, vV]; with_reducible rfl)
 (with_reducible apply v_call); (· simp only [vcA, seval, vV]; with_reducible rfl); (· rfl); (· exact H6); (· first | rfl | (simp only [vcA, seval]; omega)); (· simp only [vcA, seval, vV]; with_reducible rfl)
 simp only [vcA, seval, vV]
end Go.Proofs.YtmiokadmddjccaaGreatDoor
end
