/- Merged texts: Cd1 Vc1 Zv1 Zv2 PWire PWire2 PWire3 PClass Px1 Ze1 Cd5 Px2 Ze2 Ze3 Ze4 By Cd4 Ze5 PCls. No statement of the program is proved here. -/
import Derived.Test.YtmiokadmddjccaaGreatDoorM2
import Derived.Test.YtmiokadmddjccaaGreatDoorProg
import Derived.KernelRfl
import Derived.Lib.TrimUEq
import Derived.Lib.ItoaNum
import Derived.Lib.Join
set_option linter.unusedSimpArgs false
set_option linter.unusedVariables false
section
namespace Go.Sh
abbrev oD (d : Nat) (x : SOp) : SOper := ⟨some d, none, none, x⟩
abbrev oG (d g : Nat) (b : Bool) (x : SOp) : SOper := ⟨some d, some (g, b), none, x⟩
abbrev oN (x : SOp) : SOper := ⟨none, none, none, x⟩
abbrev oM (d x : Nat) : SOper := ⟨some d, none, none, .mov (.tmp x)⟩
abbrev oH (d g : Nat) (b : Bool) (x : Nat) : SOper := ⟨some d, some (g, b), none, .mov (.tmp x)⟩
abbrev oP (d x y : Nat) (b : Bool) : SOper := ⟨some d, none, none, .pick (.tmp x) (.tmp y) (.val (.bool b))⟩
abbrev oQ (d x y : Nat) (b : Bool) : SOper := ⟨some d, none, none, .pick (.tmp x) (.val (.bool b)) (.tmp y)⟩
abbrev oL (d : Nat) (b : Bool) (n x : Nat) : SOper := ⟨some d, none, none, .ld b n (.tmp x)⟩
def SCode.kl : SCode → List (List Nat)
  | .reg _ k => [k]
  | .regq _ k => [k]
  | .seq a b => a.kl ++ b.kl
  | .cond _ a b => a.kl ++ b.kl
  | .block _ a => a.kl
  | .loop a => a.kl
  | _ => []
def klN : Nat → List (List Nat) → List (Nat × List Nat)
  | _, [] => []
  | n, k :: r => (n, k) :: klN (n + 1) r
end Go.Sh
namespace Go.Sh.Cd1
open Go Go.Sh
set_option maxRecDepth 100000
abbrev c_78_0 : SCode := .reg [([2, 3], [oD 2 (.box (.tmp 0)), oD 3 (.box (.tmp 1)), oD 4 (.mov (.val (.bool false)))])] [0, 1, 4]
abbrev c_78_1 : SCode := .reg [([2028, 2029, 2030, 2031], [oL 5 true 4 2, oL 6 true 4 3, oD 7 (.call 86 0 [.tmp 5, .tmp 6]), oD 8 (.bin .eql 3 (.tmp 7) (.val (.int .i64 0))), oM 4 8])] [2, 3, 5, 6, 7, 8]
abbrev F_78 : SFunc := ⟨9, (.seq c_78_0 (.seq c_78_1 .ret)), [.tmp 4], false⟩
theorem tf_78 : transFunc Go.Proofs.Tryz.prog 36 (hintT [(7, 0)]) (fpT []) (killT (klN 0 F_78.code.kl)) false = some F_78 := by kernel_rfl
abbrev c_63_0 : SCode := .reg [([], [oD 2 (.mov (.val (.string ⟨#[]⟩)))])] [2]
abbrev c_63_1 : SCode := .reg [([], [oD 3 (.mov (.val (.string ⟨#[]⟩)))])] []
abbrev c_63_2 : SCode := .reg [([], [oD 4 (.mov (.val (.int .i64 0)))])] []
abbrev c_63_3 : SCode := .reg [([], [oM 7 4, oM 8 0, oD 9 (.slen (.tmp 8)), oD 10 (.bin .lss 3 (.tmp 7) (.tmp 9)), oM 11 10, oH 12 11 true 3, oG 13 11 true (.slen (.tmp 12)), oG 14 11 true (.bin .lss 3 (.tmp 13) (.val (.int .i64 17))), oP 15 11 14 false])] [7, 8, 9, 10, 11, 12, 13, 14]
abbrev c_63_4 : SCode := .reg [([2076, 2077, 2078, 2079], [oM 16 0, oM 17 4, oD 18 (.ssub (.tmp 16) (some (.tmp 17)) none), oD 19 (.call 51 0 [.tmp 18]), oD 20 (.imm true (.tmp 19) (.val (.int .i64 1))), oM 5 20])] [15, 16, 17, 18, 19, 20]
abbrev c_63_5 : SCode := .reg [([2108, 2109, 2110, 2111], [oM 21 0, oM 22 4, oM 23 4, oM 24 5, oD 25 (.bin .add 3 (.tmp 23) (.tmp 24)), oD 26 (.ssub (.tmp 21) (some (.tmp 22)) (some (.tmp 25))), oD 27 (.call 87 0 [.tmp 26]), oM 6 27])] [21, 22, 23, 24, 25, 26, 27]
abbrev c_63_6 : SCode := .reg [([], [oM 28 6])] [6]
abbrev c_63_7 : SCode := .reg [([], [oM 29 3, oM 30 0, oM 31 4, oM 32 4, oM 33 5, oD 34 (.bin .add 3 (.tmp 32) (.tmp 33)), oD 35 (.ssub (.tmp 30) (some (.tmp 31)) (some (.tmp 34))), oD 36 (.bin .add 9 (.tmp 29) (.tmp 35)), oM 3 36])] [28, 29, 30, 31, 32, 33, 34, 35, 36]
abbrev c_63_8 : SCode := .reg [([], [oM 37 4, oM 38 5, oD 39 (.bin .add 3 (.tmp 37) (.tmp 38)), oM 4 39])] [5, 28, 37, 38, 39]
abbrev c_63_9 : SCode := (.seq (.seq c_63_3 (.cond (.tmp 15) .skip (.exit 0))) (.block 1 (.seq c_63_4 (.seq c_63_5 (.seq (.seq c_63_6 (.cond (.tmp 28) c_63_7 .skip)) c_63_8)))))
abbrev c_63_10 : SCode := .reg [([], [oM 40 3, oM 2 40])] [0, 3, 4, 40]
abbrev F_63 : SFunc := ⟨41, (.seq c_63_0 (.seq c_63_1 (.seq (.seq c_63_2 (.block 0 (.loop c_63_9))) (.seq c_63_10 .ret)))), [.tmp 2], false⟩
theorem tf_63 : transFunc Go.Proofs.Tryz.prog 37 (hintT [(19, 0), (27, 0)]) (fpT []) (killT (klN 0 F_63.code.kl)) false = some F_63 := by kernel_rfl
abbrev c_62_0 : SCode := .reg [([3, 4], [oD 3 (.box (.tmp 1)), oD 4 (.new [(.int .i64 0), (.int .i64 0), (.string ⟨#[]⟩), (.slice none 0 0)])])] [1]
abbrev c_62_1 : SCode := .reg [([], [oM 6 0])] []
abbrev c_62_2 : SCode := .reg [([], [oD 8 (.bin .eql 3 (.tmp 6) (.val (.int .i64 1))), oM 7 8])] [8]
abbrev c_62_3 : SCode := .reg [([], [oD 9 (.fldA 1 (.tmp 3)), oL 10 false 1 9, oM 5 10])] [6, 7, 9, 10]
abbrev c_62_4 : SCode := .reg [([], [oM 11 5, oD 12 (.bin .lss 3 (.tmp 11) (.val (.int .i64 (-1000000000000000)))), oM 13 12, oH 14 13 false 5, oG 15 13 false (.bin .gtr 3 (.tmp 14) (.val (.int .i64 1000000000000000))), oQ 16 13 15 true])] [11, 12, 13, 14, 15]
abbrev c_62_5 : SCode := .reg [([2076, 2077, 2078, 2079], [oD 17 (.fldA 1 (.tmp 3)), oL 18 false 1 17, oD 19 (.call 88 0 [.tmp 18, .val (.int .i64 1000000000000001)]), oM 5 19])] [3, 16, 17, 18, 19]
abbrev c_62_6 : SCode := .reg [([], [oM 20 0, oM 21 5, oD 22 (.build [(.int .i64 0), (.int .i64 0), (.string ⟨#[]⟩), (.slice none 0 0)] [(0, 1, (.tmp 20)), (1, 1, (.tmp 21))]), oN (.st 4 (.tmp 4) (.tmp 22))])] [0, 3, 5, 16, 20, 21, 22]
abbrev c_62_7 : SCode := .reg [([], [oD 24 (.bin .eql 3 (.tmp 6) (.val (.int .i64 2))), oM 23 24])] [7, 24]
abbrev c_62_8 : SCode := .reg [([2112, 2113, 2114, 2115], [oM 25 0, oD 26 (.fldA 2 (.tmp 3)), oL 27 false 1 26, oD 28 (.call 37 0 [.tmp 27]), oD 29 (.build [(.int .i64 0), (.int .i64 0), (.string ⟨#[]⟩), (.slice none 0 0)] [(0, 1, (.tmp 25)), (2, 1, (.tmp 28))]), oN (.st 4 (.tmp 4) (.tmp 29))])] [0, 3, 6, 23, 25, 26, 27, 28, 29]
abbrev c_62_9 : SCode := .reg [([], [oD 31 (.bin .eql 3 (.tmp 6) (.val (.int .i64 3))), oM 30 31])] [23, 31]
abbrev c_62_10 : SCode := .reg [([], [oD 32 (.bin .eql 3 (.tmp 6) (.val (.int .i64 4))), oM 30 32])] [6, 32]
abbrev c_62_11 : SCode := .reg [([2144, 2145, 2146, 2147], [oM 33 0, oD 34 (.fldA 1 (.tmp 3)), oL 35 false 1 34, oD 36 (.call 88 0 [.tmp 35, .val (.int .i64 100000)]), oD 37 (.bin .add 3 (.val (.int .i64 1)) (.tmp 36)), oD 38 (.build [(.int .i64 0), (.int .i64 0), (.string ⟨#[]⟩), (.slice none 0 0)] [(0, 1, (.tmp 33)), (1, 1, (.tmp 37))]), oN (.st 4 (.tmp 4) (.tmp 38))])] [0, 3, 6, 30, 33, 34, 35, 36, 37, 38]
abbrev c_62_12 : SCode := .reg [([], [oD 39 (.build [(.int .i64 0), (.int .i64 0), (.string ⟨#[]⟩), (.slice none 0 0)] []), oN (.st 4 (.tmp 4) (.tmp 39))])] [0, 3, 6, 30, 39]
abbrev F_62 : SFunc := ⟨40, (.seq c_62_0 (.seq (.seq c_62_1 (.block 0 (.seq c_62_2 (.cond (.tmp 7) (.seq c_62_3 (.seq (.seq c_62_4 (.cond (.tmp 16) c_62_5 .skip)) (.seq c_62_6 .ret))) (.seq c_62_7 (.cond (.tmp 23) (.seq c_62_8 .ret) (.seq (.seq c_62_9 (.cond (.tmp 30) .skip c_62_10)) (.cond (.tmp 30) (.seq c_62_11 .ret) .skip)))))))) (.seq c_62_12 .ret))), [.cell true 4 4], false⟩
theorem tf_62 : transFunc Go.Proofs.Tryz.prog 45 (hintT [(19, 0), (28, 0), (36, 0)]) (fpT []) (killT (klN 0 F_62.code.kl)) false = some F_62 := by kernel_rfl
abbrev c_79_0 : SCode := .reg [([], [oD 2 (.mov (.val (.int .i64 0)))])] [2]
abbrev c_79_1 : SCode := .reg [([], [oM 8 0, oD 9 (.slen (.tmp 8)), oD 10 (.bin .eql 3 (.tmp 9) (.val (.int .i64 0)))])] [8, 9]
abbrev c_79_2 : SCode := .reg [([], [oD 2 (.mov (.val (.int .i64 0)))])] [0, 10]
abbrev c_79_3 : SCode := .reg [([], [oM 11 0, oD 12 (.sidx (.tmp 11) (.val (.int .i64 0))), oD 13 (.cvi .i64 (.tmp 12)), oM 3 13])] [2, 10, 11, 12, 13]
abbrev c_79_4 : SCode := .reg [([], [oM 14 3, oD 15 (.bin .lss 3 (.tmp 14) (.val (.int .i64 128)))])] [14]
abbrev c_79_5 : SCode := .reg [([], [oD 2 (.mov (.val (.int .i64 1)))])] [0, 3, 15]
abbrev c_79_6 : SCode := .reg [([], [oD 4 (.mov (.val (.int .i64 0)))])] [2, 15]
abbrev c_79_7 : SCode := .reg [([], [oD 5 (.mov (.val (.int .i64 128)))])] []
abbrev c_79_8 : SCode := .reg [([], [oD 6 (.mov (.val (.int .i64 191)))])] []
abbrev c_79_9 : SCode := .reg [([], [oM 16 3, oD 17 (.bin .geq 3 (.tmp 16) (.val (.int .i64 194))), oM 18 17, oH 19 18 true 3, oG 20 18 true (.bin .leq 3 (.tmp 19) (.val (.int .i64 223))), oP 21 18 20 false])] [16, 17, 18, 19, 20]
abbrev c_79_10 : SCode := .reg [([], [oD 4 (.mov (.val (.int .i64 2)))])] [21]
abbrev c_79_11 : SCode := .reg [([], [oM 22 3, oD 23 (.bin .geq 3 (.tmp 22) (.val (.int .i64 224))), oM 24 23, oH 25 24 true 3, oG 26 24 true (.bin .leq 3 (.tmp 25) (.val (.int .i64 239))), oP 27 24 26 false])] [21, 22, 23, 24, 25, 26]
abbrev c_79_12 : SCode := .reg [([], [oD 4 (.mov (.val (.int .i64 3)))])] [27]
abbrev c_79_13 : SCode := .reg [([], [oM 28 3, oD 29 (.bin .geq 3 (.tmp 28) (.val (.int .i64 240))), oM 30 29, oH 31 30 true 3, oG 32 30 true (.bin .leq 3 (.tmp 31) (.val (.int .i64 244))), oP 33 30 32 false])] [27, 28, 29, 30, 31, 32]
abbrev c_79_14 : SCode := .reg [([], [oD 4 (.mov (.val (.int .i64 4)))])] [33]
abbrev c_79_15 : SCode := .reg [([], [oM 34 4, oD 35 (.bin .eql 3 (.tmp 34) (.val (.int .i64 0))), oM 36 35, oH 37 36 false 0, oG 38 36 false (.slen (.tmp 37)), oH 39 36 false 4, oG 40 36 false (.bin .lss 3 (.tmp 38) (.tmp 39)), oQ 41 36 40 true])] [33, 34, 35, 36, 37, 38, 39, 40]
abbrev c_79_16 : SCode := .reg [([], [oD 2 (.mov (.val (.int .i64 0)))])] [0, 3, 4, 5, 6, 41]
abbrev c_79_17 : SCode := .reg [([], [oM 42 3])] [2, 3, 41]
abbrev c_79_18 : SCode := .reg [([], [oD 44 (.bin .eql 3 (.tmp 42) (.val (.int .i64 224))), oM 43 44])] [44]
abbrev c_79_19 : SCode := .reg [([], [oD 5 (.mov (.val (.int .i64 160)))])] [42, 43]
abbrev c_79_20 : SCode := .reg [([], [oD 46 (.bin .eql 3 (.tmp 42) (.val (.int .i64 237))), oM 45 46])] [43, 46]
abbrev c_79_21 : SCode := .reg [([], [oD 6 (.mov (.val (.int .i64 159)))])] [42, 45]
abbrev c_79_22 : SCode := .reg [([], [oD 48 (.bin .eql 3 (.tmp 42) (.val (.int .i64 240))), oM 47 48])] [45, 48]
abbrev c_79_23 : SCode := .reg [([], [oD 5 (.mov (.val (.int .i64 144)))])] [42, 47]
abbrev c_79_24 : SCode := .reg [([], [oD 50 (.bin .eql 3 (.tmp 42) (.val (.int .i64 244))), oM 49 50])] [42, 47, 50]
abbrev c_79_25 : SCode := .reg [([], [oD 6 (.mov (.val (.int .i64 143)))])] [49]
abbrev c_79_26 : SCode := .reg [([], [oM 51 0, oD 52 (.sidx (.tmp 51) (.val (.int .i64 1))), oD 53 (.cvi .i64 (.tmp 52)), oM 54 5, oD 55 (.bin .lss 3 (.tmp 53) (.tmp 54)), oM 56 55, oH 57 56 false 0, oG 58 56 false (.sidx (.tmp 57) (.val (.int .i64 1))), oG 59 56 false (.cvi .i64 (.tmp 58)), oH 60 56 false 6, oG 61 56 false (.bin .gtr 3 (.tmp 59) (.tmp 60)), oQ 62 56 61 true])] [5, 6, 49, 51, 52, 53, 54, 55, 56, 57, 58, 59, 60, 61]
abbrev c_79_27 : SCode := .reg [([], [oD 2 (.mov (.val (.int .i64 0)))])] [0, 4, 62]
abbrev c_79_28 : SCode := .reg [([], [oD 7 (.mov (.val (.int .i64 2)))])] [2, 62]
abbrev c_79_29 : SCode := .reg [([], [oM 63 7, oM 64 4, oD 65 (.bin .lss 3 (.tmp 63) (.tmp 64))])] [63, 64]
abbrev c_79_30 : SCode := .reg [([], [oM 68 0, oM 69 7, oD 70 (.sidx (.tmp 68) (.tmp 69)), oD 71 (.bin .lss 5 (.tmp 70) (.val (.int .u8 128))), oM 72 71, oH 73 72 false 0, oH 74 72 false 7, oG 75 72 false (.sidx (.tmp 73) (.tmp 74)), oG 76 72 false (.bin .gtr 5 (.tmp 75) (.val (.int .u8 191))), oQ 77 72 76 true])] [65, 68, 69, 70, 71, 72, 73, 74, 75, 76]
abbrev c_79_31 : SCode := .reg [([], [oD 2 (.mov (.val (.int .i64 0)))])] [0, 4, 7, 77]
abbrev c_79_32 : SCode := .reg [([], [oM 66 7, oD 67 (.bin .add 3 (.tmp 66) (.val (.int .i64 1))), oM 7 67])] [2, 66, 67, 77]
abbrev c_79_33 : SCode := (.seq (.seq c_79_29 (.cond (.tmp 65) .skip (.exit 1))) (.seq (.block 2 (.seq c_79_30 (.cond (.tmp 77) (.seq c_79_31 .ret) .skip))) c_79_32))
abbrev c_79_34 : SCode := .reg [([], [oM 78 4, oM 2 78])] [0, 4, 7, 78]
abbrev F_79 : SFunc := ⟨79, (.seq c_79_0 (.seq (.seq c_79_1 (.cond (.tmp 10) (.seq c_79_2 .ret) .skip)) (.seq c_79_3 (.seq (.seq c_79_4 (.cond (.tmp 15) (.seq c_79_5 .ret) .skip)) (.seq c_79_6 (.seq c_79_7 (.seq c_79_8 (.seq (.seq c_79_9 (.cond (.tmp 21) c_79_10 .skip)) (.seq (.seq c_79_11 (.cond (.tmp 27) c_79_12 .skip)) (.seq (.seq c_79_13 (.cond (.tmp 33) c_79_14 .skip)) (.seq (.seq c_79_15 (.cond (.tmp 41) (.seq c_79_16 .ret) .skip)) (.seq (.seq c_79_17 (.block 0 (.seq c_79_18 (.cond (.tmp 43) c_79_19 (.seq c_79_20 (.cond (.tmp 45) c_79_21 (.seq c_79_22 (.cond (.tmp 47) c_79_23 (.seq c_79_24 (.cond (.tmp 49) c_79_25 .skip)))))))))) (.seq (.seq c_79_26 (.cond (.tmp 62) (.seq c_79_27 .ret) .skip)) (.seq (.seq c_79_28 (.block 1 (.loop c_79_33))) (.seq c_79_34 .ret))))))))))))))), [.tmp 2], false⟩
theorem tf_79 : transFunc Go.Proofs.Tryz.prog 51 (hintT []) (fpT []) (killT [(0, [2]), (1, [8, 9]), (2, [0, 10]), (3, [2, 10, 11, 12, 13]), (4, [14]), (5, [0, 3, 15]), (6, [2, 15]), (9, [16, 17, 18, 19, 20]), (10, [21]), (11, [21, 22, 23, 24, 25, 26]), (12, [27]), (13, [27, 28, 29, 30, 31, 32]), (14, [33]), (15, [33, 34, 35, 36, 37, 38, 39, 40]), (16, [0, 3, 4, 5, 6, 41]), (17, [2, 3, 41]), (18, [44]), (19, [42, 43]), (20, [43, 46]), (21, [42, 45]), (22, [45, 48]), (23, [42, 47]), (24, [42, 47, 50]), (25, [49]), (26, [5, 6, 49, 51, 52, 53, 54, 55, 56, 57, 58, 59, 60, 61]), (27, [0, 4, 62]), (28, [2, 62]), (29, [63, 64]), (31, [65, 68, 69, 70, 71, 72, 73, 74, 75, 76]), (32, [0, 4, 7, 77]), (30, [2, 66, 67, 77]), (33, [0, 4, 7, 78])]) false = some F_79 := by kernel_rfl
abbrev c_87_0 : SCode := .reg [([1], [oD 1 (.box (.tmp 0)), oD 2 (.mov (.val (.bool false)))])] [0, 2]
abbrev c_87_1 : SCode := .reg [([], [oD 3 (.fldA 0 (.tmp 1)), oL 4 false 1 3])] [3]
abbrev c_87_2 : SCode := .reg [([], [oD 6 (.bin .eql 3 (.tmp 4) (.val (.int .i64 0))), oM 5 6])] [6]
abbrev c_87_3 : SCode := .reg [([2032, 2033, 2034, 2035], [oL 7 true 4 1, oD 8 (.call 90 0 [.tmp 7]), oM 9 8, oG 10 9 true (.fldA 1 (.tmp 1)), oG 11 9 true (.ld false 1 (.tmp 10)), oG 12 9 true (.bin .eql 3 (.tmp 11) (.val (.int .i64 0))), oP 13 9 12 false, oM 2 13])] [1, 4, 5, 7, 8, 9, 10, 11, 12, 13]
abbrev c_87_4 : SCode := .reg [([], [oD 15 (.bin .eql 3 (.tmp 4) (.val (.int .i64 1))), oM 14 15])] [5, 15]
abbrev c_87_5 : SCode := .reg [([2068, 2069, 2070, 2071], [oL 16 true 4 1, oD 17 (.call 90 0 [.tmp 16]), oM 18 17, oG 19 18 true (.fldA 1 (.tmp 1)), oG 20 18 true (.ld false 1 (.tmp 19)), oG 21 18 true (.bin .geq 3 (.tmp 20) (.val (.int .i64 (-1000000000000000)))), oP 22 18 21 false, oM 23 22, oG 24 23 true (.fldA 1 (.tmp 1)), oG 25 23 true (.ld false 1 (.tmp 24)), oG 26 23 true (.bin .leq 3 (.tmp 25) (.val (.int .i64 1000000000000000))), oP 27 23 26 false, oM 2 27])] [1, 4, 14, 16, 17, 18, 19, 20, 21, 22, 23, 24, 25, 26, 27]
abbrev c_87_6 : SCode := .reg [([], [oD 29 (.bin .eql 3 (.tmp 4) (.val (.int .i64 2))), oM 28 29])] [14, 29]
abbrev c_87_7 : SCode := .reg [([2168, 2169, 2170, 2171], [oD 30 (.fldA 1 (.tmp 1)), oL 31 false 1 30, oD 32 (.bin .eql 3 (.tmp 31) (.val (.int .i64 0))), oM 33 32, oG 34 33 true (.fldA 3 (.tmp 1)), oG 35 33 true (.ld false 1 (.tmp 34)), oG 36 33 true (.len (.tmp 35)), oG 37 33 true (.bin .eql 3 (.tmp 36) (.val (.int .i64 0))), oP 38 33 37 false, oM 39 38, oG 40 39 true (.fldA 2 (.tmp 1)), oG 41 39 true (.ld false 1 (.tmp 40)), oG 42 39 true (.call 91 0 [.tmp 41]), oP 43 39 42 false, oM 2 43])] [1, 4, 28, 30, 31, 32, 33, 34, 35, 36, 37, 38, 39, 40, 41, 42, 43]
abbrev c_87_8 : SCode := .reg [([], [oD 45 (.bin .eql 3 (.tmp 4) (.val (.int .i64 3))), oM 44 45])] [28, 45]
abbrev c_87_9 : SCode := .reg [([], [oD 46 (.bin .eql 3 (.tmp 4) (.val (.int .i64 4))), oM 44 46])] [46]
abbrev c_87_10 : SCode := .reg [([2192, 2193, 2194, 2195, 2208, 2209, 2210, 2211], [oL 47 true 4 1, oD 48 (.call 90 0 [.tmp 47]), oM 49 48, oG 50 49 true (.fldA 1 (.tmp 1)), oG 51 49 true (.ld false 1 (.tmp 50)), oG 52 49 true (.call 92 0 [.tmp 51]), oP 53 49 52 false, oM 2 53])] [1, 4, 44, 47, 48, 49, 50, 51, 52, 53]
abbrev c_87_11 : SCode := .reg [([], [oD 55 (.bin .eql 3 (.tmp 4) (.val (.int .i64 5))), oM 54 55])] [4, 44, 55]
abbrev c_87_12 : SCode := .reg [([2292, 2293, 2294, 2295], [oD 56 (.fldA 1 (.tmp 1)), oL 57 false 1 56, oD 58 (.bin .eql 3 (.tmp 57) (.val (.int .i64 0))), oM 59 58, oG 60 59 true (.fldA 2 (.tmp 1)), oG 61 59 true (.ld false 1 (.tmp 60)), oG 62 59 true (.bin .eql 9 (.tmp 61) (.val (.string ⟨#[]⟩))), oP 63 59 62 false, oM 64 63, oG 65 64 true (.fldA 3 (.tmp 1)), oG 66 64 true (.ld false 1 (.tmp 65)), oG 67 64 true (.len (.tmp 66)), oG 68 64 true (.bin .leq 3 (.tmp 67) (.val (.int .i64 12))), oP 69 64 68 false, oM 70 69, oG 71 70 true (.fldA 3 (.tmp 1)), oG 72 70 true (.ld false 1 (.tmp 71)), oG 73 70 true (.call 93 1 [.tmp 72, (.val (.func (.func 94) #[] #[]))]), oG 74 70 true (.un .not (.tmp 73)), oP 75 70 74 false, oM 2 75])] [1, 54, 56, 57, 58, 59, 60, 61, 62, 63, 64, 65, 66, 67, 68, 69, 70, 71, 72, 73, 74, 75]
abbrev c_87_13 : SCode := .reg [([], [oD 2 (.mov (.val (.bool false)))])] [1, 54]
abbrev F_87 : SFunc := ⟨76, (.seq c_87_0 (.seq (.seq c_87_1 (.block 0 (.seq c_87_2 (.cond (.tmp 5) (.seq c_87_3 .ret) (.seq c_87_4 (.cond (.tmp 14) (.seq c_87_5 .ret) (.seq c_87_6 (.cond (.tmp 28) (.seq c_87_7 .ret) (.seq (.seq c_87_8 (.cond (.tmp 44) .skip c_87_9)) (.cond (.tmp 44) (.seq c_87_10 .ret) (.seq c_87_11 (.cond (.tmp 54) (.seq c_87_12 .ret) .skip)))))))))))) (.seq c_87_13 .ret))), [.tmp 2], false⟩
theorem tf_87 : transFunc Go.Proofs.Tryz.prog 52 (hintT [(8, 0), (17, 0), (42, 0), (48, 0), (52, 0), (73, 1)]) (fpT []) (killT (klN 0 F_87.code.kl)) false = some F_87 := by kernel_rfl
abbrev c_85_0 : SCode := .reg [([2, 3], [oD 2 (.box (.tmp 0)), oD 3 (.box (.tmp 1)), oD 4 (.mov (.val (.bool false)))])] [0, 1, 4]
abbrev c_85_1 : SCode := .reg [([2024, 2025, 2026, 2027, 2040, 2041, 2042, 2043, 2068, 2069, 2070, 2071], [oL 5 true 4 2, oD 6 (.call 52 0 [.tmp 5]), oD 7 (.un .not (.tmp 6)), oM 8 7, oG 9 8 false (.ld true 2 (.tmp 3)), oG 10 8 false (.call 96 0 [.tmp 9]), oG 11 8 false (.un .not (.tmp 10)), oQ 12 8 11 true, oM 13 12, oG 14 13 false (.ld true 4 (.tmp 2)), oG 15 13 false (.fldA 0 (.tmp 3)), oG 16 13 false (.ld false 1 (.tmp 15)), oG 17 13 false (.call 97 0 [.tmp 14, .tmp 16]), oG 18 13 false (.un .not (.tmp 17)), oQ 19 13 18 true])] [5, 6, 7, 8, 9, 10, 11, 12, 13, 14, 15, 16, 17, 18]
abbrev c_85_2 : SCode := .reg [([], [oD 4 (.mov (.val (.bool false)))])] [2, 3, 19]
abbrev c_85_3 : SCode := .reg [([2092, 2093, 2094, 2095], [oD 20 (.fldA 3 (.tmp 2)), oL 21 false 1 20, oD 22 (.mkf (.func 98) [] [.tmp 3]), oD 23 (.call 93 1 [.tmp 21, .tmp 22]), oD 24 (.un .not (.tmp 23)), oM 4 24])] [2, 3, 19, 20, 21, 22, 23, 24]
abbrev F_85 : SFunc := ⟨25, (.seq c_85_0 (.seq (.seq c_85_1 (.cond (.tmp 19) (.seq c_85_2 .ret) .skip)) (.seq c_85_3 .ret))), [.tmp 4], false⟩
theorem tf_85 : transFunc Go.Proofs.Tryz.prog 56 (hintT [(6, 0), (10, 0), (17, 0), (23, 1)]) (fpT []) (killT (klN 0 F_85.code.kl)) false = some F_85 := by kernel_rfl
abbrev c_84_0 : SCode := .reg [([2, 3], [oD 2 (.box (.tmp 0)), oD 3 (.box (.tmp 1)), oD 4 (.mov (.val (.int .i64 0)))])] [0, 1, 4]
abbrev c_84_1 : SCode := .reg [([2048, 2049, 2050, 2051], [oD 8 (.fldA 0 (.tmp 2)), oL 9 false 1 8, oD 10 (.fldA 0 (.tmp 3)), oL 11 false 1 10, oD 12 (.call 133 0 [.tmp 9, .tmp 11]), oM 5 12])] [8, 9, 10, 11, 12]
abbrev c_84_2 : SCode := .reg [([], [oM 13 5, oD 14 (.bin .neq 3 (.tmp 13) (.val (.int .i64 0)))])] [13]
abbrev c_84_3 : SCode := .reg [([], [oM 15 5, oM 4 15])] [2, 3, 5, 14, 15]
abbrev c_84_4 : SCode := .reg [([2080, 2081, 2082, 2083], [oD 16 (.fldA 1 (.tmp 2)), oL 17 false 1 16, oD 18 (.fldA 1 (.tmp 3)), oL 19 false 1 18, oD 20 (.call 133 0 [.tmp 17, .tmp 19]), oM 6 20])] [4, 5, 14, 16, 17, 18, 19, 20]
abbrev c_84_5 : SCode := .reg [([], [oM 21 6, oD 22 (.bin .neq 3 (.tmp 21) (.val (.int .i64 0)))])] [21]
abbrev c_84_6 : SCode := .reg [([], [oM 23 6, oM 4 23])] [2, 3, 6, 22, 23]
abbrev c_84_7 : SCode := .reg [([2112, 2113, 2114, 2115], [oD 24 (.fldA 2 (.tmp 2)), oL 25 false 1 24, oD 26 (.fldA 2 (.tmp 3)), oL 27 false 1 26, oD 28 (.call 134 0 [.tmp 25, .tmp 27]), oM 7 28])] [4, 6, 22, 24, 25, 26, 27, 28]
abbrev c_84_8 : SCode := .reg [([], [oM 29 7, oD 30 (.bin .neq 3 (.tmp 29) (.val (.int .i64 0)))])] [29]
abbrev c_84_9 : SCode := .reg [([], [oM 31 7, oM 4 31])] [2, 3, 7, 30, 31]
abbrev c_84_10 : SCode := .reg [([2144, 2145, 2146, 2147], [oD 32 (.fldA 3 (.tmp 2)), oL 33 false 1 32, oD 34 (.fldA 3 (.tmp 3)), oL 35 false 1 34, oD 36 (.call 135 1 [.tmp 33, .tmp 35, (.val (.func (.func 80) #[] #[]))]), oM 4 36])] [2, 3, 7, 30, 32, 33, 34, 35, 36]
abbrev F_84 : SFunc := ⟨37, (.seq c_84_0 (.seq (.seq c_84_1 (.seq c_84_2 (.cond (.tmp 14) (.seq c_84_3 .ret) .skip))) (.seq (.seq c_84_4 (.seq c_84_5 (.cond (.tmp 22) (.seq c_84_6 .ret) .skip))) (.seq (.seq c_84_7 (.seq c_84_8 (.cond (.tmp 30) (.seq c_84_9 .ret) .skip))) (.seq c_84_10 .ret))))), [.tmp 4], false⟩
theorem tf_84 : transFunc Go.Proofs.Tryz.prog 80 (hintT [(12, 0), (20, 0), (28, 0), (36, 1)]) (fpT []) (killT (klN 0 F_84.code.kl)) false = some F_84 := by kernel_rfl
abbrev c_73_0 : SCode := .reg [([2, 3], [oD 2 (.box (.tmp 0)), oD 3 (.box (.tmp 1)), oD 4 (.mov (.val (.int .i64 0)))])] [0, 1, 4]
abbrev c_73_1 : SCode := .reg [([2044, 2045, 2046, 2047], [oD 7 (.fldA 0 (.tmp 2)), oL 8 false 1 7, oD 9 (.fldA 0 (.tmp 3)), oL 10 false 1 9, oD 11 (.call 159 0 [.tmp 8, .tmp 10]), oM 5 11])] [7, 8, 9, 10, 11]
abbrev c_73_2 : SCode := .reg [([], [oM 12 5, oD 13 (.bin .eql 3 (.tmp 12) (.val (.int .i64 0)))])] [12]
abbrev c_73_3 : SCode := .reg [([2072, 2073, 2074, 2075], [oD 14 (.fldA 1 (.tmp 2)), oL 15 false 1 14, oD 16 (.fldA 1 (.tmp 3)), oL 17 false 1 16, oD 18 (.call 159 0 [.tmp 15, .tmp 17]), oM 5 18])] [13, 14, 15, 16, 17, 18]
abbrev c_73_4 : SCode := .reg [([], [oM 19 5, oD 20 (.bin .eql 3 (.tmp 19) (.val (.int .i64 0))), oM 21 20, oG 22 21 true (.fldA 2 (.tmp 2)), oG 23 21 true (.ld false 1 (.tmp 22)), oG 24 21 true (.fldA 2 (.tmp 3)), oG 25 21 true (.ld false 1 (.tmp 24)), oG 26 21 true (.bin .lss 9 (.tmp 23) (.tmp 25)), oP 27 21 26 false])] [13, 19, 20, 21, 22, 23, 24, 25, 26]
abbrev c_73_5 : SCode := .reg [([], [oD 5 (.mov (.val (.int .i64 (-1))))])] [27]
abbrev c_73_6 : SCode := .reg [([], [oM 28 5, oD 29 (.bin .eql 3 (.tmp 28) (.val (.int .i64 0))), oM 30 29, oG 31 30 true (.fldA 2 (.tmp 2)), oG 32 30 true (.ld false 1 (.tmp 31)), oG 33 30 true (.fldA 2 (.tmp 3)), oG 34 30 true (.ld false 1 (.tmp 33)), oG 35 30 true (.bin .gtr 9 (.tmp 32) (.tmp 34)), oP 36 30 35 false])] [27, 28, 29, 30, 31, 32, 33, 34, 35]
abbrev c_73_7 : SCode := .reg [([], [oD 5 (.mov (.val (.int .i64 1)))])] [36]
abbrev c_73_8 : SCode := .reg [([], [oD 6 (.mov (.val (.int .i64 0)))])] [36]
abbrev c_73_9 : SCode := .reg [([], [oM 37 5, oD 38 (.bin .eql 3 (.tmp 37) (.val (.int .i64 0))), oM 39 38, oH 40 39 true 6, oG 41 39 true (.fldA 3 (.tmp 2)), oG 42 39 true (.ld false 1 (.tmp 41)), oG 43 39 true (.len (.tmp 42)), oG 44 39 true (.bin .lss 3 (.tmp 40) (.tmp 43)), oP 45 39 44 false, oM 46 45, oH 47 46 true 6, oG 48 46 true (.fldA 3 (.tmp 3)), oG 49 46 true (.ld false 1 (.tmp 48)), oG 50 46 true (.len (.tmp 49)), oG 51 46 true (.bin .lss 3 (.tmp 47) (.tmp 50)), oP 52 46 51 false])] [37, 38, 39, 40, 41, 42, 43, 44, 45, 46, 47, 48, 49, 50, 51]
abbrev c_73_10 : SCode := .reg [([2260, 2261, 2262, 2263], [oD 55 (.fldA 3 (.tmp 2)), oL 56 false 1 55, oM 57 6, oD 58 (.idxA 4 (.tmp 56) (.tmp 57)), oL 59 true 4 58, oD 60 (.fldA 3 (.tmp 3)), oL 61 false 1 60, oM 62 6, oD 63 (.idxA 4 (.tmp 61) (.tmp 62)), oL 64 true 4 63, oD 65 (.call 86 0 [.tmp 59, .tmp 64]), oM 5 65])] [52, 55, 56, 57, 58, 59, 60, 61, 62, 63, 64, 65]
abbrev c_73_11 : SCode := .reg [([], [oM 53 6, oD 54 (.bin .add 3 (.tmp 53) (.val (.int .i64 1))), oM 6 54])] [53, 54]
abbrev c_73_12 : SCode := (.seq (.seq c_73_9 (.cond (.tmp 52) .skip (.exit 0))) (.seq (.block 1 c_73_10) c_73_11))
abbrev c_73_13 : SCode := .reg [([], [oM 66 5, oD 67 (.bin .eql 3 (.tmp 66) (.val (.int .i64 0)))])] [6, 66]
abbrev c_73_14 : SCode := .reg [([2296, 2297, 2298, 2299], [oD 68 (.fldA 3 (.tmp 2)), oL 69 false 1 68, oD 70 (.len (.tmp 69)), oD 71 (.fldA 3 (.tmp 3)), oL 72 false 1 71, oD 73 (.len (.tmp 72)), oD 74 (.call 159 0 [.tmp 70, .tmp 73]), oM 4 74])] [2, 3, 5, 67, 68, 69, 70, 71, 72, 73, 74]
abbrev c_73_15 : SCode := .reg [([], [oM 75 5, oM 4 75])] [2, 3, 5, 67, 75]
abbrev F_73 : SFunc := ⟨76, (.seq c_73_0 (.seq c_73_1 (.seq (.seq c_73_2 (.cond (.tmp 13) c_73_3 .skip)) (.seq (.seq c_73_4 (.cond (.tmp 27) c_73_5 .skip)) (.seq (.seq c_73_6 (.cond (.tmp 36) c_73_7 .skip)) (.seq (.seq c_73_8 (.block 0 (.loop c_73_12))) (.seq (.seq c_73_13 (.cond (.tmp 67) (.seq c_73_14 .ret) .skip)) (.seq c_73_15 .ret)))))))), [.tmp 4], false⟩
theorem tf_73 : transFunc Go.Proofs.Tryz.prog 86 (hintT [(11, 0), (18, 0), (65, 0), (74, 0)]) (fpT []) (killT [(0, [0, 1, 4]), (1, [7, 8, 9, 10, 11]), (2, [12]), (3, [13, 14, 15, 16, 17, 18]), (4, [13, 19, 20, 21, 22, 23, 24, 25, 26]), (5, [27]), (6, [27, 28, 29, 30, 31, 32, 33, 34, 35]), (7, [36]), (8, [36]), (9, [37, 38, 39, 40, 41, 42, 43, 44, 45, 46, 47, 48, 49, 50, 51]), (11, [52, 55, 56, 57, 58, 59, 60, 61, 62, 63, 64, 65]), (10, [53, 54]), (12, [6, 66]), (13, [2, 3, 5, 67, 68, 69, 70, 71, 72, 73, 74]), (14, [2, 3, 5, 67, 75])]) false = some F_73 := by kernel_rfl
abbrev c_75_0 : SCode := .reg [([], [oD 2 (.mov (.val (.bool false)))])] [2]
abbrev c_75_1 : SCode := .reg [([], [oD 3 (.mov (.val (.int .i64 0)))])] []
abbrev c_75_2 : SCode := .reg [([], [oM 5 3, oM 6 0, oD 7 (.slen (.tmp 6)), oD 8 (.bin .lss 3 (.tmp 5) (.tmp 7))])] [5, 6, 7]
abbrev c_75_3 : SCode := .reg [([2048, 2049, 2050, 2051], [oM 9 0, oM 10 3, oD 11 (.ssub (.tmp 9) (some (.tmp 10)) none), oD 12 (.call 51 0 [.tmp 11]), oM 4 12])] [8, 9, 10, 11, 12]
abbrev c_75_4 : SCode := .reg [([], [oM 13 4, oD 14 (.bin .eql 3 (.tmp 13) (.val (.int .i64 0))), oM 15 14, oH 16 15 false 0, oH 17 15 false 3, oG 18 15 false (.sidx (.tmp 16) (.tmp 17)), oG 19 15 false (.bin .lss 5 (.tmp 18) (.val (.int .u8 32))), oQ 20 15 19 true, oM 21 20, oH 22 21 false 0, oH 23 21 false 3, oG 24 21 false (.sidx (.tmp 22) (.tmp 23)), oG 25 21 false (.bin .eql 5 (.tmp 24) (.val (.int .u8 127))), oQ 26 21 25 true])] [13, 14, 15, 16, 17, 18, 19, 20, 21, 22, 23, 24, 25]
abbrev c_75_5 : SCode := .reg [([], [oD 2 (.mov (.val (.bool false)))])] [0, 3, 4, 26]
abbrev c_75_6 : SCode := .reg [([], [oM 27 3, oM 28 4, oD 29 (.bin .add 3 (.tmp 27) (.tmp 28)), oM 3 29])] [2, 4, 26, 27, 28, 29]
abbrev c_75_7 : SCode := (.seq (.seq c_75_2 (.cond (.tmp 8) .skip (.exit 0))) (.block 1 (.seq c_75_3 (.seq (.seq c_75_4 (.cond (.tmp 26) (.seq c_75_5 .ret) .skip)) c_75_6))))
abbrev c_75_8 : SCode := .reg [([], [oD 2 (.mov (.val (.bool true)))])] [0, 3]
abbrev F_75 : SFunc := ⟨30, (.seq c_75_0 (.seq (.seq c_75_1 (.block 0 (.loop c_75_7))) (.seq c_75_8 .ret))), [.tmp 2], false⟩
theorem tf_75 : transFunc Go.Proofs.Tryz.prog 87 (hintT [(12, 0)]) (fpT []) (killT (klN 0 F_75.code.kl)) false = some F_75 := by kernel_rfl
abbrev c_64_0 : SCode := .reg [([], [oD 4 (.mov (.val (.int .i64 0)))])] [4]
abbrev c_64_1 : SCode := .reg [([], [oM 5 0, oD 6 (.bin .lss 3 (.tmp 5) (.val (.int .i64 0)))])] [5]
abbrev c_64_2 : SCode := .reg [([], [oM 7 0, oD 8 (.bin .add 3 (.tmp 7) (.val (.int .i64 1))), oD 9 (.un .neg (.tmp 8)), oM 0 9])] [6, 7, 8, 9]
abbrev c_64_3 : SCode := .reg [([], [oM 10 0, oM 11 1, oD 12 (.bin .rem 3 (.tmp 10) (.tmp 11)), oM 4 12])] [0, 1, 6, 10, 11, 12]
abbrev F_64 : SFunc := ⟨13, (.seq c_64_0 (.seq (.seq c_64_1 (.cond (.tmp 6) c_64_2 .skip)) (.seq c_64_3 .ret))), [.tmp 4], false⟩
theorem tf_64 : transFunc Go.Proofs.Tryz.prog 88 (hintT []) (fpT []) (killT (klN 0 F_64.code.kl)) false = some F_64 := by kernel_rfl
abbrev c_88_0 : SCode := .reg [([1], [oD 1 (.box (.tmp 0)), oD 2 (.mov (.val (.bool false)))])] [0, 2]
abbrev c_88_1 : SCode := .reg [([], [oD 3 (.fldA 2 (.tmp 1)), oL 4 false 1 3, oD 5 (.bin .eql 9 (.tmp 4) (.val (.string ⟨#[]⟩))), oM 6 5, oG 7 6 true (.fldA 3 (.tmp 1)), oG 8 6 true (.ld false 1 (.tmp 7)), oG 9 6 true (.len (.tmp 8)), oG 10 6 true (.bin .eql 3 (.tmp 9) (.val (.int .i64 0))), oP 11 6 10 false, oM 2 11])] [1, 3, 4, 5, 6, 7, 8, 9, 10, 11]
abbrev F_88 : SFunc := ⟨12, (.seq c_88_0 (.seq c_88_1 .ret)), [.tmp 2], false⟩
theorem tf_88 : transFunc Go.Proofs.Tryz.prog 90 (hintT []) (fpT []) (killT (klN 0 F_88.code.kl)) false = some F_88 := by kernel_rfl
abbrev c_94_0 : SCode := .reg [([], [oD 2 (.mov (.val (.bool false)))])] [2]
abbrev c_94_1 : SCode := .reg [([2040, 2041, 2042, 2043], [oM 5 0, oD 6 (.slen (.tmp 5)), oD 7 (.bin .gtr 3 (.tmp 6) (.val (.int .i64 60))), oM 8 7, oH 9 8 false 0, oG 10 8 false (.call 160 0 [.tmp 9]), oG 11 8 false (.un .not (.tmp 10)), oQ 12 8 11 true])] [5, 6, 7, 8, 9, 10, 11]
abbrev c_94_2 : SCode := .reg [([], [oD 2 (.mov (.val (.bool false)))])] [0, 12]
abbrev c_94_3 : SCode := .reg [([14], [oM 13 0, oD 14 (.rng (.tmp 13))])] [0, 2, 12, 13]
abbrev c_94_4 : SCode := .reg [([], [oD 15 (.nxt (.tmp 14)), oD 16 (.ext (.tmp 15) 0)])] []
abbrev c_94_5 : SCode := .reg [([], [oD 17 (.ext (.tmp 15) 2), oM 4 17])] [15, 16, 17]
abbrev c_94_6 : SCode := .reg [([2076, 2077, 2078, 2079], [oM 18 4, oD 19 (.call 161 0 [.tmp 18]), oD 20 (.un .not (.tmp 19))])] [4, 18, 19]
abbrev c_94_7 : SCode := .reg [([], [oD 2 (.mov (.val (.bool false)))])] [14, 20]
abbrev c_94_8 : SCode := (.seq c_94_4 (.seq (.cond (.tmp 16) .skip (.exit 0)) (.block 1 (.seq c_94_5 (.seq c_94_6 (.cond (.tmp 20) (.seq c_94_7 .ret) .skip))))))
abbrev c_94_9 : SCode := .reg [([], [oD 2 (.mov (.val (.bool true)))])] [14]
abbrev F_94 : SFunc := ⟨21, (.seq c_94_0 (.seq (.seq c_94_1 (.cond (.tmp 12) (.seq c_94_2 .ret) .skip)) (.seq (.seq c_94_3 (.block 0 (.loop c_94_8))) (.seq c_94_9 .ret)))), [.tmp 2], false⟩
theorem tf_94 : transFunc Go.Proofs.Tryz.prog 91 (hintT [(10, 0), (19, 0)]) (fpT []) (killT (klN 0 F_94.code.kl)) false = some F_94 := by kernel_rfl
abbrev c_93_0 : SCode := .reg [([], [oD 2 (.mov (.val (.bool false)))])] [2]
abbrev c_93_1 : SCode := .reg [([], [oM 3 0, oD 4 (.bin .geq 3 (.tmp 3) (.val (.int .i64 1))), oM 5 4, oH 6 5 true 0, oG 7 5 true (.bin .leq 3 (.tmp 6) (.val (.int .i64 100000))), oP 8 5 7 false, oM 9 8, oH 10 9 false 0, oG 11 9 false (.bin .geq 3 (.tmp 10) (.val (.int .i64 (-20)))), oH 12 9 false 11, oH 13 12 true 0, oG 14 12 true (.bin .leq 3 (.tmp 13) (.val (.int .i64 (-1)))), oG 15 9 false (.pick (.tmp 12) (.tmp 14) (.val (.bool false))), oQ 16 9 15 true, oM 2 16])] [0, 3, 4, 5, 6, 7, 8, 9, 10, 11, 12, 13, 14, 15, 16]
abbrev F_93 : SFunc := ⟨17, (.seq c_93_0 (.seq c_93_1 .ret)), [.tmp 2], false⟩
theorem tf_93 : transFunc Go.Proofs.Tryz.prog 92 (hintT []) (fpT []) (killT (klN 0 F_93.code.kl)) false = some F_93 := by kernel_rfl
abbrev c_80_0 : SCode := .reg [([], [oD 4 (.mov (.val (.bool false)))])] [4]
abbrev c_80_1 : SCode := .reg [([2028, 2029, 2030, 2031], [oM 5 0, oM 6 1, oD 7 (.call 162 1 [.tmp 5, .tmp 6]), oD 8 (.bin .geq 3 (.tmp 7) (.val (.int .i64 0))), oM 4 8])] [0, 1, 5, 6, 7, 8]
abbrev F_80 : SFunc := ⟨9, (.seq c_80_0 (.seq c_80_1 .ret)), [.tmp 4], false⟩
theorem tf_80 : transFunc Go.Proofs.Tryz.prog 93 (hintT [(7, 1)]) (fpT []) (killT (klN 0 F_80.code.kl)) false = some F_80 := by kernel_rfl
abbrev c_90_0 : SCode := .reg [([1], [oD 1 (.box (.tmp 0)), oD 2 (.mov (.val (.bool false)))])] [0, 2]
abbrev c_90_1 : SCode := .reg [([2032, 2033, 2034, 2035], [oD 3 (.fldA 0 (.tmp 1)), oL 4 false 1 3, oD 5 (.bin .eql 3 (.tmp 4) (.val (.int .i64 5))), oM 6 5, oG 7 6 false (.ld true 4 (.tmp 1)), oG 8 6 false (.call 52 0 [.tmp 7]), oG 9 6 false (.un .not (.tmp 8)), oQ 10 6 9 true, oM 2 10])] [1, 3, 4, 5, 6, 7, 8, 9, 10]
abbrev F_90 : SFunc := ⟨11, (.seq c_90_0 (.seq c_90_1 .ret)), [.tmp 2], false⟩
theorem tf_90 : transFunc Go.Proofs.Tryz.prog 94 (hintT [(8, 0)]) (fpT []) (killT (klN 0 F_90.code.kl)) false = some F_90 := by kernel_rfl
abbrev c_95_0 : SCode := .reg [([1], [oD 1 (.box (.tmp 0)), oD 2 (.mov (.val (.bool false)))])] [0, 2]
abbrev c_95_1 : SCode := .reg [([], [oD 3 (.fldA 0 (.tmp 1)), oL 4 false 1 3, oD 5 (.bin .eql 3 (.tmp 4) (.val (.int .i64 5)))])] [3, 4]
abbrev c_95_2 : SCode := .reg [([], [oD 6 (.fldA 1 (.tmp 1)), oL 7 false 1 6, oD 8 (.bin .geq 3 (.tmp 7) (.val (.int .i64 1))), oM 9 8, oG 10 9 true (.fldA 1 (.tmp 1)), oG 11 9 true (.ld false 1 (.tmp 10)), oG 12 9 true (.bin .leq 3 (.tmp 11) (.val (.int .i64 4))), oP 13 9 12 false, oM 2 13])] [1, 5, 6, 7, 8, 9, 10, 11, 12, 13]
abbrev c_95_3 : SCode := .reg [([], [oD 14 (.fldA 0 (.tmp 1)), oL 15 false 1 14, oD 16 (.bin .geq 3 (.tmp 15) (.val (.int .i64 1))), oM 17 16, oG 18 17 true (.fldA 0 (.tmp 1)), oG 19 17 true (.ld false 1 (.tmp 18)), oG 20 17 true (.bin .leq 3 (.tmp 19) (.val (.int .i64 4))), oP 21 17 20 false, oM 22 21, oG 23 22 true (.fldA 1 (.tmp 1)), oG 24 22 true (.ld false 1 (.tmp 23)), oG 25 22 true (.bin .eql 3 (.tmp 24) (.val (.int .i64 0))), oP 26 22 25 false, oM 2 26])] [1, 5, 14, 15, 16, 17, 18, 19, 20, 21, 22, 23, 24, 25, 26]
abbrev F_95 : SFunc := ⟨27, (.seq c_95_0 (.seq (.seq c_95_1 (.cond (.tmp 5) (.seq c_95_2 .ret) .skip)) (.seq c_95_3 .ret))), [.tmp 2], false⟩
theorem tf_95 : transFunc Go.Proofs.Tryz.prog 96 (hintT []) (fpT []) (killT (klN 0 F_95.code.kl)) false = some F_95 := by kernel_rfl
abbrev c_91_0 : SCode := .reg [([2], [oD 2 (.box (.tmp 0)), oD 4 (.mov (.val (.bool false)))])] [0, 4]
abbrev c_91_1 : SCode := .reg [([], [oD 5 (.fldA 0 (.tmp 2)), oL 6 false 1 5, oM 7 1, oD 8 (.bin .eql 3 (.tmp 6) (.tmp 7)), oM 9 8, oG 10 9 false (.fldA 0 (.tmp 2)), oG 11 9 false (.ld false 1 (.tmp 10)), oG 12 9 false (.bin .eql 3 (.tmp 11) (.val (.int .i64 0))), oH 13 9 false 12, oH 14 13 true 1, oG 15 13 true (.bin .eql 3 (.tmp 14) (.val (.int .i64 3))), oH 16 13 true 15, oH 17 16 false 1, oG 18 16 false (.bin .eql 3 (.tmp 17) (.val (.int .i64 4))), oG 19 13 true (.pick (.tmp 16) (.val (.bool true)) (.tmp 18)), oG 20 9 false (.pick (.tmp 13) (.tmp 19) (.val (.bool false))), oQ 21 9 20 true, oM 4 21])] [1, 2, 5, 6, 7, 8, 9, 10, 11, 12, 13, 14, 15, 16, 17, 18, 19, 20, 21]
abbrev F_91 : SFunc := ⟨22, (.seq c_91_0 (.seq c_91_1 .ret)), [.tmp 4], false⟩
theorem tf_91 : transFunc Go.Proofs.Tryz.prog 97 (hintT []) (fpT []) (killT (klN 0 F_91.code.kl)) false = some F_91 := by kernel_rfl
abbrev c_86_0 : SCode := .reg [([2], [oD 2 (.box (.tmp 0)), oD 3 (.mov (.val (.bool false)))])] [0, 3]
abbrev c_86_1 : SCode := .reg [([2028, 2029, 2030, 2031], [oL 4 true 4 2, oD 5 (.fldA 1 (.tmp 1)), oL 6 false 1 5, oD 7 (.call 97 0 [.tmp 4, .tmp 6]), oD 8 (.un .not (.tmp 7)), oM 3 8])] [1, 2, 4, 5, 6, 7, 8]
abbrev F_86 : SFunc := ⟨9, (.seq c_86_0 (.seq c_86_1 .ret)), [.tmp 3], false⟩
theorem tf_86 : transFunc Go.Proofs.Tryz.prog 98 (hintT [(7, 0)]) (fpT []) (killT (klN 0 F_86.code.kl)) false = some F_86 := by kernel_rfl
abbrev c_18_0 : SCode := .reg [([], [oD 4 (.mov (.val (.int .i64 0)))])] [4]
abbrev c_18_1 : SCode := .reg [([2032, 2033, 2034, 2035], [oM 7 0, oD 8 (.call 184 0 [.tmp 7]), oM 5 8])] [7, 8]
abbrev c_18_2 : SCode := .reg [([2040, 2041, 2042, 2043], [oM 9 1, oD 10 (.call 184 0 [.tmp 9]), oM 6 10])] [9, 10]
abbrev c_18_3 : SCode := .reg [([], [oM 11 5])] [5]
abbrev c_18_4 : SCode := .reg [([], [oM 12 6])] [0, 1, 6, 11]
abbrev c_18_5 : SCode := .reg [([], [oD 4 (.mov (.val (.int .i64 0)))])] [12]
abbrev c_18_6 : SCode := .reg [([], [oD 4 (.mov (.val (.int .i64 (-1))))])] [12]
abbrev c_18_7 : SCode := .reg [([], [oM 13 6])] [4, 6, 11]
abbrev c_18_8 : SCode := .reg [([], [oD 4 (.mov (.val (.int .i64 1)))])] [0, 1, 13]
abbrev c_18_9 : SCode := .reg [([], [oM 14 0, oM 15 1, oD 16 (.bin .lss 3 (.tmp 14) (.tmp 15))])] [4, 13, 14, 15]
abbrev c_18_10 : SCode := .reg [([], [oD 4 (.mov (.val (.int .i64 (-1))))])] [0, 1, 16]
abbrev c_18_11 : SCode := .reg [([], [oM 17 0, oM 18 1, oD 19 (.bin .gtr 3 (.tmp 17) (.tmp 18))])] [0, 1, 4, 16, 17, 18]
abbrev c_18_12 : SCode := .reg [([], [oD 4 (.mov (.val (.int .i64 1)))])] [19]
abbrev c_18_13 : SCode := .reg [([], [oD 4 (.mov (.val (.int .i64 0)))])] [19]
abbrev F_18 : SFunc := ⟨20, (.seq c_18_0 (.seq c_18_1 (.seq c_18_2 (.seq (.seq c_18_3 (.cond (.tmp 11) (.seq (.seq c_18_4 (.cond (.tmp 12) (.seq c_18_5 .ret) .skip)) (.seq c_18_6 .ret)) .skip)) (.seq (.seq c_18_7 (.cond (.tmp 13) (.seq c_18_8 .ret) .skip)) (.seq (.seq c_18_9 (.cond (.tmp 16) (.seq c_18_10 .ret) .skip)) (.seq (.seq c_18_11 (.cond (.tmp 19) (.seq c_18_12 .ret) .skip)) (.seq c_18_13 .ret)))))))), [.tmp 4], false⟩
theorem tf_18 : transFunc Go.Proofs.Tryz.prog 133 (hintT [(8, 0), (10, 0)]) (fpT []) (killT (klN 0 F_18.code.kl)) false = some F_18 := by kernel_rfl
abbrev c_19_0 : SCode := .reg [([], [oD 4 (.mov (.val (.int .i64 0)))])] [4]
abbrev c_19_1 : SCode := .reg [([2032, 2033, 2034, 2035], [oM 7 0, oD 8 (.call 185 0 [.tmp 7]), oM 5 8])] [7, 8]
abbrev c_19_2 : SCode := .reg [([2040, 2041, 2042, 2043], [oM 9 1, oD 10 (.call 185 0 [.tmp 9]), oM 6 10])] [9, 10]
abbrev c_19_3 : SCode := .reg [([], [oM 11 5])] [5]
abbrev c_19_4 : SCode := .reg [([], [oM 12 6])] [0, 1, 6, 11]
abbrev c_19_5 : SCode := .reg [([], [oD 4 (.mov (.val (.int .i64 0)))])] [12]
abbrev c_19_6 : SCode := .reg [([], [oD 4 (.mov (.val (.int .i64 (-1))))])] [12]
abbrev c_19_7 : SCode := .reg [([], [oM 13 6])] [4, 6, 11]
abbrev c_19_8 : SCode := .reg [([], [oD 4 (.mov (.val (.int .i64 1)))])] [0, 1, 13]
abbrev c_19_9 : SCode := .reg [([], [oM 14 0, oM 15 1, oD 16 (.bin .lss 9 (.tmp 14) (.tmp 15))])] [4, 13, 14, 15]
abbrev c_19_10 : SCode := .reg [([], [oD 4 (.mov (.val (.int .i64 (-1))))])] [0, 1, 16]
abbrev c_19_11 : SCode := .reg [([], [oM 17 0, oM 18 1, oD 19 (.bin .gtr 9 (.tmp 17) (.tmp 18))])] [0, 1, 4, 16, 17, 18]
abbrev c_19_12 : SCode := .reg [([], [oD 4 (.mov (.val (.int .i64 1)))])] [19]
abbrev c_19_13 : SCode := .reg [([], [oD 4 (.mov (.val (.int .i64 0)))])] [19]
abbrev F_19 : SFunc := ⟨20, (.seq c_19_0 (.seq c_19_1 (.seq c_19_2 (.seq (.seq c_19_3 (.cond (.tmp 11) (.seq (.seq c_19_4 (.cond (.tmp 12) (.seq c_19_5 .ret) .skip)) (.seq c_19_6 .ret)) .skip)) (.seq (.seq c_19_7 (.cond (.tmp 13) (.seq c_19_8 .ret) .skip)) (.seq (.seq c_19_9 (.cond (.tmp 16) (.seq c_19_10 .ret) .skip)) (.seq (.seq c_19_11 (.cond (.tmp 19) (.seq c_19_12 .ret) .skip)) (.seq c_19_13 .ret)))))))), [.tmp 4], false⟩
theorem tf_19 : transFunc Go.Proofs.Tryz.prog 134 (hintT [(8, 0), (10, 0)]) (fpT []) (killT (klN 0 F_19.code.kl)) false = some F_19 := by kernel_rfl
abbrev c_89_0 : SCode := .reg [([], [oD 6 (.mov (.val (.int .i64 0)))])] [6]
abbrev c_89_1 : SCode := .reg [([], [oM 9 0, oD 10 (.len (.tmp 9)), oM 11 1, oD 12 (.len (.tmp 11)), oD 13 (.imm false (.tmp 10) (.tmp 12)), oD 14 (.mov (.val (.int .i64 0)))])] [9, 10, 11, 12]
abbrev c_89_2 : SCode := .reg [([], [oD 15 (.bin .lss 3 (.tmp 14) (.tmp 13))])] []
abbrev c_89_3 : SCode := .reg [([], [oM 16 14, oM 7 16])] [15, 16]
abbrev c_89_4 : SCode := .reg [([2104, 2105, 2106, 2107], [oM 17 2, oM 18 0, oM 19 7, oD 20 (.idxA 4 (.tmp 18) (.tmp 19)), oL 21 true 4 20, oM 22 1, oM 23 7, oD 24 (.idxA 4 (.tmp 22) (.tmp 23)), oL 25 true 4 24, oD 26 (.callv (.tmp 17) 1 [.tmp 21, .tmp 25]), oM 8 26])] [7, 17, 18, 19, 20, 21, 22, 23, 24, 25, 26]
abbrev c_89_5 : SCode := .reg [([], [oM 27 8, oD 28 (.bin .neq 3 (.tmp 27) (.val (.int .i64 0)))])] [27]
abbrev c_89_6 : SCode := .reg [([], [oM 29 8, oM 6 29])] [0, 1, 2, 8, 13, 14, 28, 29]
abbrev c_89_7 : SCode := .reg [([], [oD 30 (.bin .add 3 (.tmp 14) (.val (.int .i64 1))), oM 14 30])] [6, 8, 28, 30]
abbrev c_89_8 : SCode := (.seq c_89_2 (.seq (.cond (.tmp 15) .skip (.exit 0)) (.seq (.block 1 (.seq c_89_3 (.seq c_89_4 (.seq c_89_5 (.cond (.tmp 28) (.seq c_89_6 .ret) .skip))))) c_89_7)))
abbrev c_89_9 : SCode := .reg [([2140, 2141, 2142, 2143], [oM 31 0, oD 32 (.len (.tmp 31)), oM 33 1, oD 34 (.len (.tmp 33)), oD 35 (.call 133 0 [.tmp 32, .tmp 34]), oM 6 35])] [0, 1, 2, 13, 14, 31, 32, 33, 34, 35]
abbrev F_89 : SFunc := ⟨36, (.seq c_89_0 (.seq (.seq c_89_1 (.block 0 (.loop c_89_8))) (.seq c_89_9 .ret))), [.tmp 6], false⟩
theorem tf_89 : transFunc Go.Proofs.Tryz.prog 135 (hintT [(26, 1), (35, 0)]) (fpT []) (killT (klN 0 F_89.code.kl)) false = some F_89 := by kernel_rfl
abbrev c_76_0 : SCode := .reg [([], [oD 4 (.mov (.val (.int .i64 0)))])] [4]
abbrev c_76_1 : SCode := .reg [([], [oM 5 0, oM 6 1, oD 7 (.bin .lss 3 (.tmp 5) (.tmp 6))])] [5, 6]
abbrev c_76_2 : SCode := .reg [([], [oD 4 (.mov (.val (.int .i64 (-1))))])] [0, 1, 7]
abbrev c_76_3 : SCode := .reg [([], [oM 8 0, oM 9 1, oD 10 (.bin .gtr 3 (.tmp 8) (.tmp 9))])] [0, 1, 4, 7, 8, 9]
abbrev c_76_4 : SCode := .reg [([], [oD 4 (.mov (.val (.int .i64 1)))])] [10]
abbrev c_76_5 : SCode := .reg [([], [oD 4 (.mov (.val (.int .i64 0)))])] [10]
abbrev F_76 : SFunc := ⟨11, (.seq c_76_0 (.seq (.seq c_76_1 (.cond (.tmp 7) (.seq c_76_2 .ret) .skip)) (.seq (.seq c_76_3 (.cond (.tmp 10) (.seq c_76_4 .ret) .skip)) (.seq c_76_5 .ret)))), [.tmp 4], false⟩
theorem tf_76 : transFunc Go.Proofs.Tryz.prog 159 (hintT []) (fpT []) (killT (klN 0 F_76.code.kl)) false = some F_76 := by kernel_rfl
abbrev c_92_0 : SCode := .reg [([], [oD 2 (.mov (.val (.bool false)))])] [2]
abbrev c_92_1 : SCode := .reg [([], [oM 3 0, oD 4 (.bin .geq 21 (.tmp 3) (.val (.int .i32 32))), oM 5 4, oH 6 5 true 0, oG 7 5 true (.bin .neq 21 (.tmp 6) (.val (.int .i32 127))), oP 8 5 7 false, oM 2 8])] [0, 3, 4, 5, 6, 7, 8]
abbrev F_92 : SFunc := ⟨9, (.seq c_92_0 (.seq c_92_1 .ret)), [.tmp 2], false⟩
theorem tf_92 : transFunc Go.Proofs.Tryz.prog 161 (hintT []) (fpT []) (killT (klN 0 F_92.code.kl)) false = some F_92 := by kernel_rfl
abbrev c_82_0 : SCode := .reg [([], [oD 4 (.mov (.val (.int .i64 0)))])] [4]
abbrev c_82_1 : SCode := .reg [([], [oM 6 0, oD 7 (.len (.tmp 6)), oD 8 (.mov (.val (.int .i64 0)))])] [6]
abbrev c_82_2 : SCode := .reg [([], [oD 9 (.bin .lss 3 (.tmp 8) (.tmp 7))])] []
abbrev c_82_3 : SCode := .reg [([], [oM 10 8, oM 5 10])] [9, 10]
abbrev c_82_4 : SCode := .reg [([2064, 2065, 2066, 2067], [oM 11 1, oM 12 0, oM 13 5, oD 14 (.idxA 4 (.tmp 12) (.tmp 13)), oL 15 true 4 14, oD 16 (.callv (.tmp 11) 1 [.tmp 15])])] [11, 12, 13, 14, 15]
abbrev c_82_5 : SCode := .reg [([], [oM 17 5, oM 4 17])] [0, 1, 5, 7, 8, 16, 17]
abbrev c_82_6 : SCode := .reg [([], [oD 18 (.bin .add 3 (.tmp 8) (.val (.int .i64 1))), oM 8 18])] [4, 5, 16, 18]
abbrev c_82_7 : SCode := (.seq c_82_2 (.seq (.cond (.tmp 9) .skip (.exit 0)) (.seq (.block 1 (.seq c_82_3 (.seq c_82_4 (.cond (.tmp 16) (.seq c_82_5 .ret) .skip)))) c_82_6)))
abbrev c_82_8 : SCode := .reg [([], [oD 4 (.mov (.val (.int .i64 (-1))))])] [0, 1, 7, 8]
abbrev F_82 : SFunc := ⟨19, (.seq c_82_0 (.seq (.seq c_82_1 (.block 0 (.loop c_82_7))) (.seq c_82_8 .ret))), [.tmp 4], false⟩
theorem tf_82 : transFunc Go.Proofs.Tryz.prog 162 (hintT [(16, 1)]) (fpT []) (killT (klN 0 F_82.code.kl)) false = some F_82 := by kernel_rfl
abbrev c_20_0 : SCode := .reg [([], [oD 2 (.mov (.val (.bool false)))])] [2]
abbrev c_20_1 : SCode := .reg [([], [oM 3 0, oM 4 0, oD 5 (.bin .neq 3 (.tmp 3) (.tmp 4)), oM 2 5])] [0, 3, 4, 5]
abbrev F_20 : SFunc := ⟨6, (.seq c_20_0 (.seq c_20_1 .ret)), [.tmp 2], false⟩
theorem tf_20 : transFunc Go.Proofs.Tryz.prog 184 (hintT []) (fpT []) (killT (klN 0 F_20.code.kl)) false = some F_20 := by kernel_rfl
abbrev c_21_0 : SCode := .reg [([], [oD 2 (.mov (.val (.bool false)))])] [2]
abbrev c_21_1 : SCode := .reg [([], [oM 3 0, oM 4 0, oD 5 (.bin .neq 9 (.tmp 3) (.tmp 4)), oM 2 5])] [0, 3, 4, 5]
abbrev F_21 : SFunc := ⟨6, (.seq c_21_0 (.seq c_21_1 .ret)), [.tmp 2], false⟩
theorem tf_21 : transFunc Go.Proofs.Tryz.prog 185 (hintT []) (fpT []) (killT (klN 0 F_21.code.kl)) false = some F_21 := by kernel_rfl
def funcs : Nat → Option SFunc
 | _ => none
end Go.Sh.Cd1
end

section
namespace Go.Sh
open Go Go.RowKit Go.Mor
set_option maxRecDepth 100000
theorem vcA : (type_of% @Go.Sh.bFT) ∧ (type_of% @Go.Sh.bTF) ∧ (type_of% @Go.Sh.ES.fgt.eq_1) ∧ (type_of% @List.map_cons.{0, 0}) ∧ (type_of% @List.map_nil.{0, 0}) ∧ (type_of% @Go.Sh.fgt3.eq_1) ∧ (type_of% @Go.Sh.TV.m3.eq_1) ∧ (type_of% @Go.Sh.TV.m3.eq_2) ∧ (type_of% @Go.Sh.TV.m2.eq_1) ∧ (type_of% @Go.Sh.TV.m2.eq_2) ∧ (type_of% @Go.Sh.TV.m1.eq_1) ∧ (type_of% @Go.Sh.TV.m1.eq_2) ∧ (type_of% @Go.Sh.TV.m0.eq_1) ∧ (type_of% @Go.Sh.TV.m0.eq_2) ∧ (type_of% @Go.Sh.TV.m0.eq_3) ∧ (type_of% @Go.Sh.TV.m0.eq_4) ∧ (type_of% @Go.Sh.TV.m0.eq_5) ∧ (type_of% @Go.Sh.TV.m0.eq_6) ∧ (type_of% @Go.Sh.TV.m0.eq_7) ∧ (type_of% @Go.Sh.TV.mF.eq_1) ∧ (type_of% @Go.Sh.TV.mF.eq_2) ∧ (type_of% @Go.Sh.TV.mE.eq_1) ∧ (type_of% @Go.Sh.TV.mE.eq_2) ∧ (type_of% @Go.Sh.TV.idsF.eq_1) ∧ (type_of% @Go.Sh.TV.idsF.eq_2) ∧ (type_of% @Go.Sh.TV.idsE.eq_1) ∧ (type_of% @Go.Sh.TV.idsE.eq_2) ∧ (type_of% @Go.Sh.TV.renF.eq_1) ∧ (type_of% @Go.Sh.TV.renF.eq_2) ∧ (type_of% @Go.Sh.TV.renE.eq_1) ∧ (type_of% @Go.Sh.TV.renE.eq_2) ∧ (type_of% @List.any_cons.{0}) ∧ (type_of% @List.any_nil.{0}) ∧ (type_of% @Bool.or_false) ∧ (type_of% @Bool.false_or) ∧ (type_of% @Go.Sh.drp.eq_1) ∧ (type_of% @Go.Sh.drp.eq_2) ∧ (type_of% @Go.Sh.effG.eq_1) ∧ (type_of% @Go.Sh.effF.eq_1) ∧ (type_of% @Go.Sh.footOk.eq_1) ∧ (type_of% @Go.Sh.SOp.foot.eq_1) ∧ (type_of% @Go.Sh.SOp.foot.eq_2) ∧ (type_of% @Go.Sh.SOp.foot.eq_3) ∧ (type_of% @Go.Sh.SOp.foot.eq_4) ∧ (type_of% @Go.Sh.only.eq_1) ∧ (type_of% @Go.Sh.only.eq_2) ∧ (type_of% @Go.Sh.isK.eq_1) ∧ (type_of% @Go.Sh.isK.eq_2) ∧ (type_of% @Go.Sh.eff.eq_1) ∧ (type_of% @Go.Sh.eff.eq_2) ∧ (type_of% @Go.Sh.eff.eq_3) ∧ (type_of% @Go.Sh.eff.eq_4) ∧ (type_of% @Go.Sh.eff.eq_5) ∧ (type_of% @Go.Sh.eff.eq_6) ∧ (type_of% @Go.Sh.eff.eq_7) ∧ (type_of% @Go.Sh.eff.eq_8) ∧ (type_of% @Go.Sh.eff.eq_9) ∧ (type_of% @Go.Sh.eff.eq_11) ∧ (type_of% @Go.Sh.eff.eq_12) ∧ (type_of% @Go.Sh.eff.eq_13) ∧ (type_of% @Go.Sh.eff.eq_14) ∧ (type_of% @Go.Sh.eff.eq_15) ∧ (type_of% @Go.Sh.eff.eq_16) ∧ (type_of% @Go.Sh.eff.eq_17) ∧ (type_of% @Go.Sh.eff.eq_18) ∧ (type_of% @Go.Sh.eff.eq_19) ∧ (type_of% @Go.Sh.eff.eq_20) ∧ (type_of% @Go.Sh.eff.eq_21) ∧ (type_of% @Go.Sh.eff.eq_22) ∧ (type_of% @Go.Sh.eff.eq_23) ∧ (type_of% @Go.Sh.eff.eq_25) ∧ (type_of% @Go.Sh.eff.eq_28) ∧ (type_of% @Go.Sh.eff.eq_31) ∧ (type_of% @Go.Sh.eff.eq_32) ∧ (type_of% @Go.Sh.eff.eq_33) ∧ (type_of% @Go.Sh.eff.eq_34) ∧ (type_of% @Go.Sh.eff.eq_35) ∧ (type_of% @Go.Sh.eff.eq_44) ∧ (type_of% @Go.Sh.eff.eq_45) ∧ (type_of% @Go.Sh.Arg.get.eq_1) ∧ (type_of% @Go.Sh.Arg.get.eq_2) ∧ (type_of% @Go.Sh.ES.fs.eq_1) ∧ (type_of% @Go.Sh.lk.eq_1) ∧ (type_of% @Go.Sh.lk.eq_2) ∧ (type_of% @Option.map_some.{0, 0}) ∧ (type_of% @Option.bind_some.{0, 0}) ∧ (type_of% @Go.Sh.ES.after.eq_1) ∧ (type_of% @Go.Sh.ES.upd.eq_1) ∧ (type_of% @Go.Sh.ES.upd.eq_2) ∧ (type_of% @Go.Sh.ES.upd.eq_3) ∧ (type_of% @Go.Sh.ES.upd.eq_4) ∧ (type_of% @Go.Sh.ES.upd.eq_5) ∧ (type_of% @Go.Sh.ES.upd.eq_6) ∧ (type_of% @Go.Sh.ES.upd.eq_7) ∧ (type_of% @Go.Sh.ES.put.eq_1) ∧ (type_of% @Go.Sh.ES.put.eq_2) ∧ (type_of% @Go.Sh.sv.eq_1) ∧ (type_of% @Go.Sh.sv.eq_2) ∧ (type_of% @Go.Sh.ES.kill.eq_1) ∧ (type_of% @Go.Sh.ES.kill.eq_2) ∧ (type_of% @Go.Sh.has.eq_1) ∧ (type_of% @Go.Sh.has.eq_2) ∧ (type_of% @Go.Sh.nbeq) ∧ (type_of% @Go.Sh.nble) ∧ (type_of% @Go.Sh.nblt) ∧ (type_of% @Go.Sh.TV.val.eq_1) ∧ (type_of% @Go.Sh.TV.val.eq_2) ∧ (type_of% @Go.Sh.TV.val1.eq_1) ∧ (type_of% @Go.Sh.TV.val1.eq_2) ∧ (type_of% @Go.Sh.TV.int.eq_1) ∧ (type_of% @Go.Sh.TV.int.eq_2) ∧ (type_of% @Go.Sh.TV.str.eq_1) ∧ (type_of% @Go.Sh.TV.str.eq_2) ∧ (type_of% @Go.Sh.TV.cells.eq_1) ∧ (type_of% @Go.Sh.TV.cells.eq_2) ∧ (type_of% @Go.Sh.TV.cells.eq_3) ∧ (type_of% @Go.Sh.TV.cells.eq_4) ∧ (type_of% @Go.Sh.TV.cells.eq_5) ∧ (type_of% @Go.Sh.TV.slen.eq_1) ∧ (type_of% @Go.Sh.TV.slen.eq_2) ∧ (type_of% @Go.Sh.TV.slen.eq_3) ∧ (type_of% @Go.Sh.TV.slen.eq_4) ∧ (type_of% @Go.Sh.TV.slen.eq_5) ∧ (type_of% @Go.Sh.TV.toPV.eq_1) ∧ (type_of% @Go.Sh.TV.toPV.eq_2) ∧ (type_of% @Go.Sh.TV.toPV.eq_3) ∧ (type_of% @Go.Sh.TV.pvs.eq_1) ∧ (type_of% @Go.Sh.seqO.eq_1) ∧ (type_of% @Go.Sh.seqO.eq_2) ∧ (type_of% @Go.Sh.bin_lss) ∧ (type_of% @Go.Sh.bin_gtr) ∧ (type_of% @Go.Sh.bin_leq) ∧ (type_of% @Go.Sh.bin_geq) ∧ (type_of% @Go.Sh.bin_eql) ∧ (type_of% @Go.Sh.bin_neq) ∧ (type_of% @Go.Sh.bin_add) ∧ (type_of% @Go.Sh.bin_sub) ∧ (type_of% @Go.Sh.bin_mul) ∧ (type_of% @Go.Sh.sbin_eql) ∧ (type_of% @Go.Sh.sbin_neq) ∧ (type_of% @Go.Sh.sbin_lss) ∧ (type_of% @Go.Sh.sbin_gtr) ∧ (type_of% @Go.Sh.un_neg) ∧ (type_of% @Go.Sh.un_not) ∧ (type_of% @Go.Sh.startE.eq_1) ∧ (type_of% @Go.Sh.numT.eq_1) ∧ (type_of% @Go.Sh.numT.eq_2) ∧ (type_of% @Go.Sh.numB.eq_1) ∧ (type_of% @Go.Sh.numB.eq_2) ∧ (type_of% @Go.Sh.numB.eq_3) ∧ (type_of% @Go.Sh.numR.eq_1) ∧ (type_of% @Go.Sh.numR.eq_2) ∧ (type_of% @Go.Sh.numR.eq_3) ∧ (type_of% @Go.Sh.ansW.eq_1) ∧ (type_of% @Go.Sh.ansW.eq_2) ∧ (type_of% @Go.Sh.resT.eq_1) ∧ (type_of% @Go.Sh.resT.eq_2) ∧ (type_of% @Go.Sh.SRes.get.eq_1) ∧ (type_of% @Go.Sh.SRes.get.eq_2) ∧ (type_of% @List.flatMap_nil.{0, 0}) ∧ (type_of% @List.flatMap_cons.{0, 0}) ∧ (type_of% @List.append_nil.{0}) ∧ (type_of% @List.nil_append.{0}) ∧ (type_of% @Go.Sh.TV.ids3.eq_1) ∧ (type_of% @Go.Sh.TV.ids3.eq_2) ∧ (type_of% @Go.Sh.TV.ids2.eq_1) ∧ (type_of% @Go.Sh.TV.ids2.eq_2) ∧ (type_of% @Go.Sh.TV.ids1.eq_1) ∧ (type_of% @Go.Sh.TV.ids1.eq_2) ∧ (type_of% @Go.Sh.TV.ids0.eq_1) ∧ (type_of% @Go.Sh.TV.ids0.eq_2) ∧ (type_of% @Go.Sh.TV.ids0.eq_3) ∧ (type_of% @Go.Sh.TV.ids0.eq_4) ∧ (type_of% @Go.Sh.TV.ren3.eq_1) ∧ (type_of% @Go.Sh.TV.ren3.eq_2) ∧ (type_of% @Go.Sh.TV.ren2.eq_1) ∧ (type_of% @Go.Sh.TV.ren2.eq_2) ∧ (type_of% @Go.Sh.TV.ren1.eq_1) ∧ (type_of% @Go.Sh.TV.ren1.eq_2) ∧ (type_of% @Go.Sh.TV.ren0.eq_1) ∧ (type_of% @Go.Sh.TV.ren0.eq_2) ∧ (type_of% @Go.Sh.TV.ren0.eq_3) ∧ (type_of% @Go.Sh.TV.ren0.eq_4) ∧ (type_of% @Go.Sh.TV.ren0.eq_5) ∧ (type_of% @Go.Sh.TV.ren0.eq_6) ∧ (type_of% @Go.Sh.bound.eq_1) ∧ (type_of% @Go.Sh.bound.eq_2) ∧ (type_of% @if_true.{1}) ∧ (type_of% @if_false.{1}) ∧ (type_of% @Bool.false_eq_true) ∧ (type_of% @Go.Sh.partsT.eq_1) ∧ (type_of% @Go.Sh.fillT.eq_1) ∧ (type_of% @Go.Sh.fillT.eq_2) ∧ (type_of% @Go.Sh.splice.eq_1) ∧ (type_of% @List.take_zero.{0}) ∧ (type_of% @List.take_succ_cons.{0}) ∧ (type_of% @List.drop_zero.{0}) ∧ (type_of% @List.drop_succ_cons.{0}) ∧ (type_of% @List.length_cons.{0}) ∧ (type_of% @List.length_nil.{0}) ∧ (type_of% @and_self) ∧ (type_of% @and_true) ∧ (type_of% @true_and) ∧ (type_of% @List.cons_append.{0}) ∧ (type_of% @List.getElem?_cons_zero.{0}) ∧ (type_of% @List.getElem?_cons_succ.{0}) ∧ (type_of% @Nat.zero_add) ∧ (type_of% @Bool.not_true) ∧ (type_of% @Bool.not_false) ∧ (type_of% @Go.Value.oneCell'.eq_1) ∧ (type_of% @Go.Value.oneCell'.eq_2) ∧ (type_of% @Go.Value.oneCell'.eq_3) ∧ (type_of% @Go.Mor.str_toList) ∧ (type_of% @Go.Mor.str_size') ∧ (type_of% @Int.toNat_natCast) ∧ (type_of% @decide_true) ∧ (type_of% @decide_false) ∧ (type_of% @beq_self_eq_true.{0}) ∧ (type_of% @Go.Sh.handI.eq_1) ∧ (type_of% @Go.Sh.FS.mo.eq_1) ∧ (type_of% @Go.Sh.MO.ren.eq_1) ∧ (type_of% @Go.Sh.MO.ren.eq_2) ∧ (type_of% @Go.Sh.rhoIn.eq_1) ∧ (type_of% @Go.Sh.pos.eq_1) ∧ (type_of% @Go.Sh.pos.eq_2) ∧ (type_of% @Go.Sh.rhoOut.eq_1) ∧ (type_of% @Go.Sh.outs.eq_1) ∧ (type_of% @Go.Sh.outs.eq_2) ∧ (type_of% @Go.Sh.newId.eq_1) ∧ (type_of% @Go.Sh.dstId.eq_1) ∧ (type_of% @Go.Sh.dstId.eq_2) ∧ (type_of% @Go.Sh.putMem.eq_1) ∧ (type_of% @Go.Sh.putMem.eq_2) ∧ (type_of% @List.lookup.eq_1.{0, 0}) ∧ (type_of% @List.lookup.eq_2.{0, 0}) ∧ (type_of% @Go.Sh.moOk.eq_1) ∧ (type_of% @Go.Sh.moOk.eq_2) ∧ (type_of% @Go.Sh.moOk.eq_3) ∧ (type_of% @Go.Sh.moOk.eq_4) ∧ (type_of% @Nat.le_refl) ∧ (type_of% @Int.natCast_nonneg) ∧ (type_of% @Go.Sh.v_skip) ∧ (type_of% @Go.Sh.v_seq) ∧ (type_of% @Go.Sh.v_exit) ∧ (type_of% @Go.Sh.v_ret) ∧ (type_of% @Go.Sh.v_block) ∧ (type_of% @Go.Sh.v_cond) ∧ (type_of% @Go.Sh.v_reg) ∧ (type_of% @Go.Sh.v_reg2) ∧ (type_of% @Go.Sh.v_nil) ∧ (type_of% @Go.Sh.v_regK) ∧ (type_of% @Go.Sh.v_skipK) ∧ (type_of% @Go.Sh.v_op) ∧ (type_of% @Go.Sh.v_guard) ∧ (type_of% @Go.Sh.gW) ∧ (type_of% @Go.Sh.gW_u) ∧ (type_of% @Go.Sh.PostR.eq_1) ∧ (type_of% @Go.Sh.PostR.eq_2) ∧ (type_of% @Go.Sh.PostR.eq_3) ∧ (type_of% @Go.Sh.PostR.eq_4) ∧ (type_of% @Go.Sh.exitR.eq_1) ∧ (type_of% @Go.Sh.exitF.eq_1) ∧ (type_of% @Go.Sh.idsFrom.eq_1) ∧ (type_of% @Go.Sh.idsFrom.eq_2) ∧ (type_of% @Go.Sh.gW_undef) ∧ (type_of% @Nat.sub_zero) ∧ (type_of% @Go.Sh.gW_i) ∧ (type_of% @Go.Sh.gK_T1) ∧ (type_of% @Go.Sh.gK_T0) ∧ (type_of% @Go.Sh.gK_F1) ∧ (type_of% @Go.Sh.gK_F0) ∧ (type_of% @Go.Sh.gK_d1) ∧ (type_of% @Go.Sh.gK_d0) ∧ (type_of% @Go.Sh.gK_n1) ∧ (type_of% @Go.Sh.gK_n0) ∧ (type_of% @Go.Sh.v_then_n) ∧ (type_of% @Go.Sh.v_then_r) ∧ (type_of% @Go.Sh.v_then_x) ∧ (type_of% @Go.Sh.v_blk_n) ∧ (type_of% @Go.Sh.v_blk_r) ∧ (type_of% @Go.Sh.v_blk_x) ∧ (type_of% @Go.Sh.s_some) ∧ (type_of% @Go.Sh.s_none) ∧ (type_of% @Go.Sh.s_ite) ∧ (type_of% @Go.Sh.s_get) ∧ (type_of% @Go.Sh.bW_T) ∧ (type_of% @Go.Sh.bW_F) ∧ (type_of% @Go.Sh.bW_d) ∧ (type_of% @Go.Sh.bW_n) ∧ (type_of% @Go.Sh.bW_a) ∧ (type_of% @Go.Sh.bW_o) ∧ (type_of% @Go.Sh.bK) ∧ (type_of% @Go.Sh.callIn.eq_1) ∧ (type_of% @Go.Sh.callOut.eq_1) ∧ (type_of% @Go.Sh.callvIn.eq_1) ∧ (type_of% @Go.Sh.TV.callee.eq_1) ∧ (type_of% @Go.Sh.TV.callee.eq_2) ∧ (type_of% @Go.Sh.TV.callee.eq_3) ∧ (type_of% @Go.Sh.TV.callee.eq_4) ∧ (type_of% @Go.Sh.Post0.eq_1) ∧ (type_of% @Go.Sh.Post0.eq_2) ∧ (type_of% @Go.Sh.Post0.eq_3) ∧ (type_of% @Go.Sh.Post0.eq_4) ∧ (type_of% @Go.Sh.Post1.eq_1) ∧ (type_of% @Go.Sh.Post1.eq_2) ∧ (type_of% @Go.Sh.Post1.eq_3) ∧ (type_of% @Go.Sh.Post1.eq_4) ∧ (type_of% @Go.Sh.ansW1.eq_1) ∧ (type_of% @Go.Sh.ansW1.eq_2) ∧ (type_of% @Go.Sh.bin_quoI) ∧ (type_of% @Go.Sh.bin_remI) ∧ (type_of% @Go.Sh.sbin_addI) ∧ (type_of% @Go.Sh.TV.elems.eq_1) ∧ (type_of% @Go.Sh.TV.elems.eq_2) ∧ (type_of% @Go.Sh.TV.elems.eq_3) ∧ (type_of% @Go.Sh.TV.elems.eq_4) ∧ (type_of% @Go.Sh.TV.isNil.eq_1) ∧ (type_of% @Go.Sh.TV.isNil.eq_2) ∧ (type_of% @List.all_cons.{0}) ∧ (type_of% @List.all_nil.{0}) ∧ (type_of% @Bool.and_true) ∧ (type_of% @Bool.true_and) ∧ (type_of% @Bool.and_false) ∧ (type_of% @Bool.false_and) ∧ (type_of% @Bool.and_self) ∧ (type_of% @ne_eq.{1}) ∧ (type_of% @not_false_eq_true) ∧ (type_of% @not_true_eq_false) ∧ (type_of% @false_and) ∧ (type_of% @and_false) ∧ (type_of% @or_false) ∧ (type_of% @or_self) ∧ (type_of% @false_or) ∧ (type_of% @imp_self) ∧ (type_of% @forall_const.{0}) ∧ (type_of% @Option.isNone_none.{0}) ∧ (type_of% @List.getElem?_nil.{0}) ∧ (type_of% @decide_eq_true_eq) ∧ (type_of% @eq_self.{1}) ∧ (type_of% @Go.Mor.str_list) ∧ (type_of% @Go.Mor.str_append) ∧ (type_of% @Go.Mor.str_extract) ∧ (type_of% @List.getElem?_map.{0, 0}) ∧ (type_of% @Option.map_map.{0, 0, 0}) ∧ (type_of% @List.length_map.{0, 0}) ∧ (type_of% @Function.comp_apply.{1, 1, 1}) ∧ (type_of% @List.length_append.{0}) ∧ (type_of% @List.length_set.{0}) ∧ (type_of% @List.set_cons_zero.{0}) ∧ (type_of% @List.set_cons_succ.{0}) ∧ (type_of% @imp_false) ∧ (type_of% @Decidable.not_not) ∧ (type_of% @Go.Sh.e_ssub) ∧ (type_of% @Go.Sh.e_ssub1) ∧ (type_of% @Go.Sh.e_ssub2) ∧ (type_of% @Go.Sh.e_ssub3) ∧ (type_of% @Go.Sh.e_ssub4) ∧ (type_of% @Go.Sh.e_sub) ∧ (type_of% @Go.Sh.e_sub1) ∧ (type_of% @Go.Sh.e_sub2) ∧ (type_of% @Go.Sh.e_sub3) ∧ (type_of% @Go.Sh.e_sub4) ∧ (type_of% @Go.Sh.e_subT1) ∧ (type_of% @Go.Sh.e_subT2) ∧ (type_of% @Go.Sh.e_subT3) ∧ (type_of% @Go.Sh.e_appN) ∧ (type_of% @Go.Sh.e_appN1) ∧ (type_of% @Go.Sh.e_appN2) ∧ (type_of% @Go.Sh.e_appNS) ∧ (type_of% @Go.Sh.e_appNS1) ∧ (type_of% @Go.Sh.e_appNS2) ∧ (type_of% @Go.Sh.e_rng) ∧ (type_of% @Go.Sh.e_rng1) ∧ (type_of% @Go.Sh.e_mks) ∧ (type_of% @Go.Sh.e_mks1) ∧ (type_of% @Go.Sh.e_bslO) ∧ (type_of% @Go.Sh.e_bslO1) ∧ (type_of% @Go.Sh.e_nxt) ∧ (type_of% @Go.Sh.e_nxt1) ∧ (type_of% @Go.Sh.e_nxt2) ∧ (type_of% @Go.Sh.s_ite2) ∧ (type_of% @Go.Sh.reach_nil) ∧ (type_of% @Go.Sh.reach_cons) ∧ (type_of% @Go.Sh.reach_m1) ∧ (type_of% @Go.Sh.reach_m2) ∧ (type_of% @Go.Sh.reach_m3) ∧ (type_of% @Go.Sh.reach_m4) ∧ (type_of% @Option.map_none.{0, 0}) ∧ (type_of% @Option.bind_none.{0, 0}) ∧ (type_of% @Go.Sh.nc_mov) ∧ (type_of% @Go.Sh.nc_pick) ∧ (type_of% @Go.Sh.nc_bin) ∧ (type_of% @Go.Sh.nc_un) ∧ (type_of% @Go.Sh.nc_cvi) ∧ (type_of% @Go.Sh.nc_cvs) ∧ (type_of% @Go.Sh.nc_b2s) ∧ (type_of% @Go.Sh.nc_imm) ∧ (type_of% @Go.Sh.nc_sidx) ∧ (type_of% @Go.Sh.nc_ssub) ∧ (type_of% @Go.Sh.nc_slen) ∧ (type_of% @Go.Sh.nc_new) ∧ (type_of% @Go.Sh.nc_box) ∧ (type_of% @Go.Sh.nc_build) ∧ (type_of% @Go.Sh.nc_bsl) ∧ (type_of% @Go.Sh.nc_bslO) ∧ (type_of% @Go.Sh.nc_fld) ∧ (type_of% @Go.Sh.nc_fldA) ∧ (type_of% @Go.Sh.nc_ld) ∧ (type_of% @Go.Sh.nc_st) ∧ (type_of% @Go.Sh.nc_len) ∧ (type_of% @Go.Sh.nc_idxA) ∧ (type_of% @Go.Sh.nc_sub) ∧ (type_of% @Go.Sh.nc_app) ∧ (type_of% @Go.Sh.nc_appS) ∧ (type_of% @Go.Sh.nc_appN) ∧ (type_of% @Go.Sh.nc_appNS) ∧ (type_of% @Go.Sh.nc_ext) ∧ (type_of% @Go.Sh.nc_nchk) ∧ (type_of% @Go.Sh.nc_mkf) ∧ (type_of% @Go.Sh.nc_rng) ∧ (type_of% @Go.Sh.nc_nxt) ∧ (type_of% @Go.Sh.nc_mks) ∧ (type_of% @Go.Sh.nc_lkp) ∧ (type_of% @Go.Sh.nc_mkI) ∧ (type_of% @Go.Sh.nc_pan) ∧ (type_of% @Go.Sh.e_lkp) ∧ (type_of% @Go.Sh.e_lkp1) ∧ (type_of% @Go.Sh.e_lkp2) ∧ (type_of% @Go.Sh.e_lkp3) ∧ (type_of% @Go.Sh.findKs.eq_1) ∧ (type_of% @Go.Sh.findKs.eq_2) ∧ (type_of% @Go.Sh.kdOf.eq_1) ∧ (type_of% @Go.Sh.zeroT.eq_1) ∧ (type_of% @Go.Sh.zeroT.eq_2) ∧ (type_of% @Go.Sh.v_then_p) ∧ (type_of% @Go.Sh.v_blk_p) ∧ (type_of% @Go.Sh.v_panK) ∧ (type_of% @Go.Sh.sp_some) ∧ (type_of% @Go.Sh.sp_get) ∧ (type_of% @Go.Sh.sp_ite) ∧ (type_of% @Go.Sh.dstOps.eq_1) ∧ (type_of% @List.filterMap_cons.{0, 0}) ∧ (type_of% @List.filterMap_nil.{0, 0}) ∧ (type_of% @Go.Sh.PostP.eq_1) ∧ (type_of% @Go.Sh.PostP.eq_2) ∧ (type_of% @Go.Sh.vp_opE) ∧ (type_of% @Go.Sh.vp_panE) ∧ (type_of% @Go.Sh.panW1) ∧ (type_of% @Go.Sh.np_mov) ∧ (type_of% @Go.Sh.np_pick) ∧ (type_of% @Go.Sh.np_bin) ∧ (type_of% @Go.Sh.np_un) ∧ (type_of% @Go.Sh.np_cvi) ∧ (type_of% @Go.Sh.np_cvs) ∧ (type_of% @Go.Sh.np_b2s) ∧ (type_of% @Go.Sh.np_imm) ∧ (type_of% @Go.Sh.np_sidx) ∧ (type_of% @Go.Sh.np_ssub) ∧ (type_of% @Go.Sh.np_slen) ∧ (type_of% @Go.Sh.np_new) ∧ (type_of% @Go.Sh.np_box) ∧ (type_of% @Go.Sh.np_build) ∧ (type_of% @Go.Sh.np_bsl) ∧ (type_of% @Go.Sh.np_bslO) ∧ (type_of% @Go.Sh.np_fld) ∧ (type_of% @Go.Sh.np_fldA) ∧ (type_of% @Go.Sh.np_ld) ∧ (type_of% @Go.Sh.np_st) ∧ (type_of% @Go.Sh.np_len) ∧ (type_of% @Go.Sh.np_idxA) ∧ (type_of% @Go.Sh.np_sub) ∧ (type_of% @Go.Sh.np_app) ∧ (type_of% @Go.Sh.np_appS) ∧ (type_of% @Go.Sh.np_appN) ∧ (type_of% @Go.Sh.np_appNS) ∧ (type_of% @Go.Sh.np_ext) ∧ (type_of% @Go.Sh.np_nchk) ∧ (type_of% @Go.Sh.np_mkf) ∧ (type_of% @Go.Sh.np_rng) ∧ (type_of% @Go.Sh.np_nxt) ∧ (type_of% @Go.Sh.np_mks) ∧ (type_of% @Go.Sh.np_lkp) ∧ (type_of% @Go.Sh.np_mkI) :=
 ⟨@Go.Sh.bFT, @Go.Sh.bTF, @Go.Sh.ES.fgt.eq_1, @List.map_cons.{0, 0}, @List.map_nil.{0, 0}, @Go.Sh.fgt3.eq_1, @Go.Sh.TV.m3.eq_1, @Go.Sh.TV.m3.eq_2, @Go.Sh.TV.m2.eq_1, @Go.Sh.TV.m2.eq_2, @Go.Sh.TV.m1.eq_1, @Go.Sh.TV.m1.eq_2, @Go.Sh.TV.m0.eq_1, @Go.Sh.TV.m0.eq_2, @Go.Sh.TV.m0.eq_3, @Go.Sh.TV.m0.eq_4, @Go.Sh.TV.m0.eq_5, @Go.Sh.TV.m0.eq_6, @Go.Sh.TV.m0.eq_7, @Go.Sh.TV.mF.eq_1, @Go.Sh.TV.mF.eq_2, @Go.Sh.TV.mE.eq_1, @Go.Sh.TV.mE.eq_2, @Go.Sh.TV.idsF.eq_1, @Go.Sh.TV.idsF.eq_2, @Go.Sh.TV.idsE.eq_1, @Go.Sh.TV.idsE.eq_2, @Go.Sh.TV.renF.eq_1, @Go.Sh.TV.renF.eq_2, @Go.Sh.TV.renE.eq_1, @Go.Sh.TV.renE.eq_2, @List.any_cons.{0}, @List.any_nil.{0}, @Bool.or_false, @Bool.false_or, @Go.Sh.drp.eq_1, @Go.Sh.drp.eq_2, @Go.Sh.effG.eq_1, @Go.Sh.effF.eq_1, @Go.Sh.footOk.eq_1, @Go.Sh.SOp.foot.eq_1, @Go.Sh.SOp.foot.eq_2, @Go.Sh.SOp.foot.eq_3, @Go.Sh.SOp.foot.eq_4, @Go.Sh.only.eq_1, @Go.Sh.only.eq_2, @Go.Sh.isK.eq_1, @Go.Sh.isK.eq_2, @Go.Sh.eff.eq_1, @Go.Sh.eff.eq_2, @Go.Sh.eff.eq_3, @Go.Sh.eff.eq_4, @Go.Sh.eff.eq_5, @Go.Sh.eff.eq_6, @Go.Sh.eff.eq_7, @Go.Sh.eff.eq_8, @Go.Sh.eff.eq_9, @Go.Sh.eff.eq_11, @Go.Sh.eff.eq_12, @Go.Sh.eff.eq_13, @Go.Sh.eff.eq_14, @Go.Sh.eff.eq_15, @Go.Sh.eff.eq_16, @Go.Sh.eff.eq_17, @Go.Sh.eff.eq_18, @Go.Sh.eff.eq_19, @Go.Sh.eff.eq_20, @Go.Sh.eff.eq_21, @Go.Sh.eff.eq_22, @Go.Sh.eff.eq_23, @Go.Sh.eff.eq_25, @Go.Sh.eff.eq_28, @Go.Sh.eff.eq_31, @Go.Sh.eff.eq_32, @Go.Sh.eff.eq_33, @Go.Sh.eff.eq_34, @Go.Sh.eff.eq_35, @Go.Sh.eff.eq_44, @Go.Sh.eff.eq_45, @Go.Sh.Arg.get.eq_1, @Go.Sh.Arg.get.eq_2, @Go.Sh.ES.fs.eq_1, @Go.Sh.lk.eq_1, @Go.Sh.lk.eq_2, @Option.map_some.{0, 0}, @Option.bind_some.{0, 0}, @Go.Sh.ES.after.eq_1, @Go.Sh.ES.upd.eq_1, @Go.Sh.ES.upd.eq_2, @Go.Sh.ES.upd.eq_3, @Go.Sh.ES.upd.eq_4, @Go.Sh.ES.upd.eq_5, @Go.Sh.ES.upd.eq_6, @Go.Sh.ES.upd.eq_7, @Go.Sh.ES.put.eq_1, @Go.Sh.ES.put.eq_2, @Go.Sh.sv.eq_1, @Go.Sh.sv.eq_2, @Go.Sh.ES.kill.eq_1, @Go.Sh.ES.kill.eq_2, @Go.Sh.has.eq_1, @Go.Sh.has.eq_2, @Go.Sh.nbeq, @Go.Sh.nble, @Go.Sh.nblt, @Go.Sh.TV.val.eq_1, @Go.Sh.TV.val.eq_2, @Go.Sh.TV.val1.eq_1, @Go.Sh.TV.val1.eq_2, @Go.Sh.TV.int.eq_1, @Go.Sh.TV.int.eq_2, @Go.Sh.TV.str.eq_1, @Go.Sh.TV.str.eq_2, @Go.Sh.TV.cells.eq_1, @Go.Sh.TV.cells.eq_2, @Go.Sh.TV.cells.eq_3, @Go.Sh.TV.cells.eq_4, @Go.Sh.TV.cells.eq_5, @Go.Sh.TV.slen.eq_1, @Go.Sh.TV.slen.eq_2, @Go.Sh.TV.slen.eq_3, @Go.Sh.TV.slen.eq_4, @Go.Sh.TV.slen.eq_5, @Go.Sh.TV.toPV.eq_1, @Go.Sh.TV.toPV.eq_2, @Go.Sh.TV.toPV.eq_3, @Go.Sh.TV.pvs.eq_1, @Go.Sh.seqO.eq_1, @Go.Sh.seqO.eq_2, @Go.Sh.bin_lss, @Go.Sh.bin_gtr, @Go.Sh.bin_leq, @Go.Sh.bin_geq, @Go.Sh.bin_eql, @Go.Sh.bin_neq, @Go.Sh.bin_add, @Go.Sh.bin_sub, @Go.Sh.bin_mul, @Go.Sh.sbin_eql, @Go.Sh.sbin_neq, @Go.Sh.sbin_lss, @Go.Sh.sbin_gtr, @Go.Sh.un_neg, @Go.Sh.un_not, @Go.Sh.startE.eq_1, @Go.Sh.numT.eq_1, @Go.Sh.numT.eq_2, @Go.Sh.numB.eq_1, @Go.Sh.numB.eq_2, @Go.Sh.numB.eq_3, @Go.Sh.numR.eq_1, @Go.Sh.numR.eq_2, @Go.Sh.numR.eq_3, @Go.Sh.ansW.eq_1, @Go.Sh.ansW.eq_2, @Go.Sh.resT.eq_1, @Go.Sh.resT.eq_2, @Go.Sh.SRes.get.eq_1, @Go.Sh.SRes.get.eq_2, @List.flatMap_nil.{0, 0}, @List.flatMap_cons.{0, 0}, @List.append_nil.{0}, @List.nil_append.{0}, @Go.Sh.TV.ids3.eq_1, @Go.Sh.TV.ids3.eq_2, @Go.Sh.TV.ids2.eq_1, @Go.Sh.TV.ids2.eq_2, @Go.Sh.TV.ids1.eq_1, @Go.Sh.TV.ids1.eq_2, @Go.Sh.TV.ids0.eq_1, @Go.Sh.TV.ids0.eq_2, @Go.Sh.TV.ids0.eq_3, @Go.Sh.TV.ids0.eq_4, @Go.Sh.TV.ren3.eq_1, @Go.Sh.TV.ren3.eq_2, @Go.Sh.TV.ren2.eq_1, @Go.Sh.TV.ren2.eq_2, @Go.Sh.TV.ren1.eq_1, @Go.Sh.TV.ren1.eq_2, @Go.Sh.TV.ren0.eq_1, @Go.Sh.TV.ren0.eq_2, @Go.Sh.TV.ren0.eq_3, @Go.Sh.TV.ren0.eq_4, @Go.Sh.TV.ren0.eq_5, @Go.Sh.TV.ren0.eq_6, @Go.Sh.bound.eq_1, @Go.Sh.bound.eq_2, @if_true.{1}, @if_false.{1}, @Bool.false_eq_true, @Go.Sh.partsT.eq_1, @Go.Sh.fillT.eq_1, @Go.Sh.fillT.eq_2, @Go.Sh.splice.eq_1, @List.take_zero.{0}, @List.take_succ_cons.{0}, @List.drop_zero.{0}, @List.drop_succ_cons.{0}, @List.length_cons.{0}, @List.length_nil.{0}, @and_self, @and_true, @true_and, @List.cons_append.{0}, @List.getElem?_cons_zero.{0}, @List.getElem?_cons_succ.{0}, @Nat.zero_add, @Bool.not_true, @Bool.not_false, @Go.Value.oneCell'.eq_1, @Go.Value.oneCell'.eq_2, @Go.Value.oneCell'.eq_3, @Go.Mor.str_toList, @Go.Mor.str_size', @Int.toNat_natCast, @decide_true, @decide_false, @beq_self_eq_true.{0}, @Go.Sh.handI.eq_1, @Go.Sh.FS.mo.eq_1, @Go.Sh.MO.ren.eq_1, @Go.Sh.MO.ren.eq_2, @Go.Sh.rhoIn.eq_1, @Go.Sh.pos.eq_1, @Go.Sh.pos.eq_2, @Go.Sh.rhoOut.eq_1, @Go.Sh.outs.eq_1, @Go.Sh.outs.eq_2, @Go.Sh.newId.eq_1, @Go.Sh.dstId.eq_1, @Go.Sh.dstId.eq_2, @Go.Sh.putMem.eq_1, @Go.Sh.putMem.eq_2, @List.lookup.eq_1.{0, 0}, @List.lookup.eq_2.{0, 0}, @Go.Sh.moOk.eq_1, @Go.Sh.moOk.eq_2, @Go.Sh.moOk.eq_3, @Go.Sh.moOk.eq_4, @Nat.le_refl, @Int.natCast_nonneg, @Go.Sh.v_skip, @Go.Sh.v_seq, @Go.Sh.v_exit, @Go.Sh.v_ret, @Go.Sh.v_block, @Go.Sh.v_cond, @Go.Sh.v_reg, @Go.Sh.v_reg2, @Go.Sh.v_nil, @Go.Sh.v_regK, @Go.Sh.v_skipK, @Go.Sh.v_op, @Go.Sh.v_guard, @Go.Sh.gW, @Go.Sh.gW_u, @Go.Sh.PostR.eq_1, @Go.Sh.PostR.eq_2, @Go.Sh.PostR.eq_3, @Go.Sh.PostR.eq_4, @Go.Sh.exitR.eq_1, @Go.Sh.exitF.eq_1, @Go.Sh.idsFrom.eq_1, @Go.Sh.idsFrom.eq_2, @Go.Sh.gW_undef, @Nat.sub_zero, @Go.Sh.gW_i, @Go.Sh.gK_T1, @Go.Sh.gK_T0, @Go.Sh.gK_F1, @Go.Sh.gK_F0, @Go.Sh.gK_d1, @Go.Sh.gK_d0, @Go.Sh.gK_n1, @Go.Sh.gK_n0, @Go.Sh.v_then_n, @Go.Sh.v_then_r, @Go.Sh.v_then_x, @Go.Sh.v_blk_n, @Go.Sh.v_blk_r, @Go.Sh.v_blk_x, @Go.Sh.s_some, @Go.Sh.s_none, @Go.Sh.s_ite, @Go.Sh.s_get, @Go.Sh.bW_T, @Go.Sh.bW_F, @Go.Sh.bW_d, @Go.Sh.bW_n, @Go.Sh.bW_a, @Go.Sh.bW_o, @Go.Sh.bK, @Go.Sh.callIn.eq_1, @Go.Sh.callOut.eq_1, @Go.Sh.callvIn.eq_1, @Go.Sh.TV.callee.eq_1, @Go.Sh.TV.callee.eq_2, @Go.Sh.TV.callee.eq_3, @Go.Sh.TV.callee.eq_4, @Go.Sh.Post0.eq_1, @Go.Sh.Post0.eq_2, @Go.Sh.Post0.eq_3, @Go.Sh.Post0.eq_4, @Go.Sh.Post1.eq_1, @Go.Sh.Post1.eq_2, @Go.Sh.Post1.eq_3, @Go.Sh.Post1.eq_4, @Go.Sh.ansW1.eq_1, @Go.Sh.ansW1.eq_2, @Go.Sh.bin_quoI, @Go.Sh.bin_remI, @Go.Sh.sbin_addI, @Go.Sh.TV.elems.eq_1, @Go.Sh.TV.elems.eq_2, @Go.Sh.TV.elems.eq_3, @Go.Sh.TV.elems.eq_4, @Go.Sh.TV.isNil.eq_1, @Go.Sh.TV.isNil.eq_2, @List.all_cons.{0}, @List.all_nil.{0}, @Bool.and_true, @Bool.true_and, @Bool.and_false, @Bool.false_and, @Bool.and_self, @ne_eq.{1}, @not_false_eq_true, @not_true_eq_false, @false_and, @and_false, @or_false, @or_self, @false_or, @imp_self, @forall_const.{0}, @Option.isNone_none.{0}, @List.getElem?_nil.{0}, @decide_eq_true_eq, @eq_self.{1}, @Go.Mor.str_list, @Go.Mor.str_append, @Go.Mor.str_extract, @List.getElem?_map.{0, 0}, @Option.map_map.{0, 0, 0}, @List.length_map.{0, 0}, @Function.comp_apply.{1, 1, 1}, @List.length_append.{0}, @List.length_set.{0}, @List.set_cons_zero.{0}, @List.set_cons_succ.{0}, @imp_false, @Decidable.not_not, @Go.Sh.e_ssub, @Go.Sh.e_ssub1, @Go.Sh.e_ssub2, @Go.Sh.e_ssub3, @Go.Sh.e_ssub4, @Go.Sh.e_sub, @Go.Sh.e_sub1, @Go.Sh.e_sub2, @Go.Sh.e_sub3, @Go.Sh.e_sub4, @Go.Sh.e_subT1, @Go.Sh.e_subT2, @Go.Sh.e_subT3, @Go.Sh.e_appN, @Go.Sh.e_appN1, @Go.Sh.e_appN2, @Go.Sh.e_appNS, @Go.Sh.e_appNS1, @Go.Sh.e_appNS2, @Go.Sh.e_rng, @Go.Sh.e_rng1, @Go.Sh.e_mks, @Go.Sh.e_mks1, @Go.Sh.e_bslO, @Go.Sh.e_bslO1, @Go.Sh.e_nxt, @Go.Sh.e_nxt1, @Go.Sh.e_nxt2, @Go.Sh.s_ite2, @Go.Sh.reach_nil, @Go.Sh.reach_cons, @Go.Sh.reach_m1, @Go.Sh.reach_m2, @Go.Sh.reach_m3, @Go.Sh.reach_m4, @Option.map_none.{0, 0}, @Option.bind_none.{0, 0}, @Go.Sh.nc_mov, @Go.Sh.nc_pick, @Go.Sh.nc_bin, @Go.Sh.nc_un, @Go.Sh.nc_cvi, @Go.Sh.nc_cvs, @Go.Sh.nc_b2s, @Go.Sh.nc_imm, @Go.Sh.nc_sidx, @Go.Sh.nc_ssub, @Go.Sh.nc_slen, @Go.Sh.nc_new, @Go.Sh.nc_box, @Go.Sh.nc_build, @Go.Sh.nc_bsl, @Go.Sh.nc_bslO, @Go.Sh.nc_fld, @Go.Sh.nc_fldA, @Go.Sh.nc_ld, @Go.Sh.nc_st, @Go.Sh.nc_len, @Go.Sh.nc_idxA, @Go.Sh.nc_sub, @Go.Sh.nc_app, @Go.Sh.nc_appS, @Go.Sh.nc_appN, @Go.Sh.nc_appNS, @Go.Sh.nc_ext, @Go.Sh.nc_nchk, @Go.Sh.nc_mkf, @Go.Sh.nc_rng, @Go.Sh.nc_nxt, @Go.Sh.nc_mks, @Go.Sh.nc_lkp, @Go.Sh.nc_mkI, @Go.Sh.nc_pan, @Go.Sh.e_lkp, @Go.Sh.e_lkp1, @Go.Sh.e_lkp2, @Go.Sh.e_lkp3, @Go.Sh.findKs.eq_1, @Go.Sh.findKs.eq_2, @Go.Sh.kdOf.eq_1, @Go.Sh.zeroT.eq_1, @Go.Sh.zeroT.eq_2, @Go.Sh.v_then_p, @Go.Sh.v_blk_p, @Go.Sh.v_panK, @Go.Sh.sp_some, @Go.Sh.sp_get, @Go.Sh.sp_ite, @Go.Sh.dstOps.eq_1, @List.filterMap_cons.{0, 0}, @List.filterMap_nil.{0, 0}, @Go.Sh.PostP.eq_1, @Go.Sh.PostP.eq_2, @Go.Sh.vp_opE, @Go.Sh.vp_panE, @Go.Sh.panW1, @Go.Sh.np_mov, @Go.Sh.np_pick, @Go.Sh.np_bin, @Go.Sh.np_un, @Go.Sh.np_cvi, @Go.Sh.np_cvs, @Go.Sh.np_b2s, @Go.Sh.np_imm, @Go.Sh.np_sidx, @Go.Sh.np_ssub, @Go.Sh.np_slen, @Go.Sh.np_new, @Go.Sh.np_box, @Go.Sh.np_build, @Go.Sh.np_bsl, @Go.Sh.np_bslO, @Go.Sh.np_fld, @Go.Sh.np_fldA, @Go.Sh.np_ld, @Go.Sh.np_st, @Go.Sh.np_len, @Go.Sh.np_idxA, @Go.Sh.np_sub, @Go.Sh.np_app, @Go.Sh.np_appS, @Go.Sh.np_appN, @Go.Sh.np_appNS, @Go.Sh.np_ext, @Go.Sh.np_nchk, @Go.Sh.np_mkf, @Go.Sh.np_rng, @Go.Sh.np_nxt, @Go.Sh.np_mks, @Go.Sh.np_lkp, @Go.Sh.np_mkI⟩
end Go.Sh
end

section
namespace Go.Proofs.YtmiokadmddjccaaGreatDoor
open Go Go.RowKit Go.Mor Go.Sh Go.Sh.Cd1
set_option maxRecDepth 100000
set_option maxHeartbeats 4000000
theorem e0 : (⟨#[]⟩ : ByteArray) = str [] := rfl
theorem decode_str (l : List UInt8) (p : Nat) : Utf8.decode (str l) p = Lib.decodeL (l.drop p) := by rw [← Lib.decodeL_drop, str_toList]
def B (b : Bool) : TV := .pv (.v (.bool b))
theorem plain_ok (g : Sh.Glob) (r : Nat) : SCalls Tryz.prog g 161 [.pv (.v (.int .i32 (r : Int)))] [] (B (plainR r)) [] := by
 refine call_of0 hmix tf_92 rfl ?_
 have h1 : decide ((32 : Int) ≤ (r : Int)) = decide (32 ≤ r) := by rw [Bool.eq_iff_iff]; simp; omega
 have h2 : decide ((r : Int) = 127) = (r == 127) := by rw [Bool.eq_iff_iff]; simp; omega
 unfold plainR B
 by_cases h : 32 ≤ r
 ·have d1 : (32 : Int) ≤ (r : Int) := by omega
  simp only [vcA, seval, vV, d1, h2, h]
  rfl
 ·have d1 : ¬ (32 : Int) ≤ (r : Int) := by omega
  simp only [vcA, seval, vV, d1, h]
theorem validString_ok (m : Nat) (l : List UInt8) (hl : l.length ≤ 9223372036854775807) : SCalls Tryz.prog (gl0 m) 160 [S (str l)] [] (B (Lib.validD l)) [] := by
 have := prim0_sound m 160 [S (str l)] [] (B (Lib.validD l)) [] (by simp [prim0, S, B, Nat.beq, str_size', hl, str_toList])
 exact this
theorem rightText_ok0 (m : Nat) (l : List UInt8) (hl : l.length ≤ 9223372036854775807) : SCalls Tryz.prog (gl0 m) 91 [S (str l)] [] (B (rightText l)) [] := by
 refine call_of0 hmix tf_94 rfl ?_
 have HV := validString_ok m l hl
 unfold rightText B at *
 by_cases h60 : (l.length : Int) ≤ 60
 ·have d1 : ¬ (60 : Int) < (l.length : Int) := by omega
  have h60' : l.length ≤ 60 := by omega
  simp only [vcA, seval, vV, d1]
  (with_reducible apply v_call); (· simp only [vcA, seval, vV]; with_reducible rfl); (· rfl); (· exact HV); (· first | rfl | (simp only [vcA, seval]; omega)); (· simp only [vcA, seval, vV]; with_reducible rfl)
  cases hv : Lib.validD l
  ·simp only [vcA, seval, vV]
  simp only [vcA, seval, vV]
  refine v_loop (σ := {p : Nat // p ≤ l.length ∧ plainD l = plainD (l.drop p)}) (fun p => ⟨[(14, .it 14)], [], [], [(14, (str l, p.1))]⟩) (fun p => l.length - p.1) ⟨0, Nat.zero_le _, rfl⟩ (lw_eq rfl) ?_
  rintro ⟨p, hp, hd⟩
  by_cases hlt : p < l.length
  ·have hne : l.drop p ≠ [] := by rw [Ne, List.drop_eq_nil_iff]; omega
   rw [plainD_step _ hne] at hd
   have hle := Lib.decodeL_le (l.drop p) hne
   have hw := Lib.decodeL_width (l.drop p)
   rw [List.length_drop] at hle
   have HP := plain_ok (gl0 m) (Lib.decodeL (l.drop p)).1
   unfold B at HP
   simp only [vcA, seval, vV, hlt, decode_str]
   (with_reducible apply v_call); (· simp only [vcA, seval, vV]; with_reducible rfl); (· rfl); (· exact HP); (· first | rfl | (simp only [vcA, seval]; omega)); (· simp only [vcA, seval, vV]; with_reducible rfl)
   cases hr : plainR (Lib.decodeL (l.drop p)).1
   ·rw [hr] at hd
    simp only [vcA, seval, vV]
    simp [hd]
   ·simp only [vcA, seval, vV]
    rw [hr, Bool.true_and, List.drop_drop] at hd
    refine loopK_of ⟨p + (Lib.decodeL (l.drop p)).2, by omega, hd⟩ (by show l.length - (p + _) < l.length - p; omega) ?_
    apply lw_of <;> simp [leL, lk, sv, Nat.beq, I, S, ES.kill, has, drp, nilT]
  ·simp only [vcA, seval, vV, hlt, h60']
   have hnil : l.drop p = [] := List.drop_eq_nil_of_le (by omega)
   rw [hnil] at hd
   rw [hd]; rfl
 ·have d1 : (60 : Int) < (l.length : Int) := by omega
  have h60' : ¬ l.length ≤ 60 := by omega
  simp only [vcA, seval, vV, d1]
  simp [h60']
theorem bare_ok (g : Sh.Glob) (x : V) : SCalls Tryz.prog g 90 [tv x] [] (B (bare x)) [] := by
 refine call_of0 hmix tf_88 rfl ?_
 have h1 : decide ((x.l.length : Int) = 0) = (x.l.length == 0) := by rw [Bool.eq_iff_iff]; simp
 unfold bare B
 cases h : x.s == []
 ·simp only [vcA, seval, vV, e0, h]
 ·simp only [vcA, seval, vV, e0, h, h1]
theorem rightID_ok (g : Sh.Glob) (n : Int) : SCalls Tryz.prog g 92 [I n] [] (B (rightID n)) [] := by
 refine call_of0 hmix tf_93 rfl ?_
 unfold B
 simp only [vcA, seval, vV]
 unfold rightID
 repeat' (first | (apply And.intro) | (intro _))
 all_goals (first | rfl | (simp; omega) | (simp_all; done) | (simp_all; omega))
theorem right1_mk (k n : Int) (s : List UInt8) (l : List V) : right1 (.mk k n s l) = if k = 0 then bare (.mk k n s l) && n == 0
 else if k = 1 then bare (.mk k n s l) && decide (-1000000000000000 ≤ n) && decide (n ≤ 1000000000000000)
 else if k = 2 then n == 0 && l.length == 0 && rightText s
 else if k = 3 ∨ k = 4 then bare (.mk k n s l) && rightID n
 else false := rfl
theorem right1_ok0 (m : Nat) (x : V) (hs : TextsOk x) (h5 : x.k ≠ 5) : SCalls Tryz.prog (gl0 m) 52 [tv x] [] (B (right1 x)) [] := by
 obtain ⟨k, n, s, l⟩ := x
 have HB := bare_ok (gl0 m) (.mk k n s l)
 have HI := rightID_ok (gl0 m) n
 have HT := rightText_ok0 m s hs
 have hln : decide ((l.length : Int) = 0) = (l.length == 0) := by rw [Bool.eq_iff_iff]; simp
 have k5 : ¬ k = 5 := h5
 clear h5 hs
 rw [right1_mk]
 generalize bare (.mk k n s l) = b at HB ⊢
 refine call_of0 hmix tf_87 rfl ?_
 unfold B at *
 by_cases k0 : k = 0
 ·subst k0
  have hn0 : decide (n = 0) = (n == 0) := by rw [Bool.eq_iff_iff]; simp
  simp only [vcA, seval, vV]
  (with_reducible apply v_call); (· simp only [vcA, seval, vV]; with_reducible rfl); (· rfl); (· exact HB); (· first | rfl | (simp only [vcA, seval]; omega)); (· simp only [vcA, seval, vV]; with_reducible rfl)
  cases b <;> simp only [vcA, seval, vV, hn0]
 rw [if_neg k0]
 by_cases k1 : k = 1
 ·subst k1
  simp only [vcA, seval, vV]
  (with_reducible apply v_call); (· simp only [vcA, seval, vV]; with_reducible rfl); (· rfl); (· exact HB); (· first | rfl | (simp only [vcA, seval]; omega)); (· simp only [vcA, seval, vV]; with_reducible rfl)
  cases b
  ·simp only [vcA, seval, vV]
  ·by_cases q1 : -1000000000000000 ≤ n <;> by_cases q2 : n ≤ 1000000000000000 <;> simp only [vcA, seval, vV, q1, q2]
 rw [if_neg k1]
 by_cases k2 : k = 2
 ·subst k2
  by_cases n0 : n = 0
  ·subst n0
   cases hl : l.length == 0
   ·simp only [vcA, seval, vV, hln, hl]
   ·simp only [vcA, seval, vV, hln, hl]
    (with_reducible apply v_call); (· simp only [vcA, seval, vV]; with_reducible rfl); (· rfl); (· exact HT); (· first | rfl | (simp only [vcA, seval]; omega)); (· simp only [vcA, seval, vV]; with_reducible rfl)
    simp only [vcA, seval, vV]
  ·have hn0 : (n == 0) = false := by simpa using n0
   simp only [vcA, seval, vV, n0, hn0]
 rw [if_neg k2]
 by_cases k3 : k = 3
 ·subst k3
  simp only [vcA, seval, vV]
  (with_reducible apply v_call); (· simp only [vcA, seval, vV]; with_reducible rfl); (· rfl); (· exact HB); (· first | rfl | (simp only [vcA, seval]; omega)); (· simp only [vcA, seval, vV]; with_reducible rfl)
  cases b
  ·simp only [vcA, seval, vV]
  ·simp only [vcA, seval, vV]
   (with_reducible apply v_call); (· simp only [vcA, seval, vV]; with_reducible rfl); (· rfl); (· exact HI); (· first | rfl | (simp only [vcA, seval]; omega)); (· simp only [vcA, seval, vV]; with_reducible rfl)
   simp only [vcA, seval, vV]
 by_cases k4 : k = 4
 ·subst k4
  simp only [vcA, seval, vV]
  (with_reducible apply v_call); (· simp only [vcA, seval, vV]; with_reducible rfl); (· rfl); (· exact HB); (· first | rfl | (simp only [vcA, seval]; omega)); (· simp only [vcA, seval, vV]; with_reducible rfl)
  cases b
  ·simp only [vcA, seval, vV]
  ·simp only [vcA, seval, vV]
   (with_reducible apply v_call); (· simp only [vcA, seval, vV]; with_reducible rfl); (· rfl); (· exact HI); (· first | rfl | (simp only [vcA, seval]; omega)); (· simp only [vcA, seval, vV]; with_reducible rfl)
   simp only [vcA, seval, vV]
 simp only [vcA, seval, vV, k0, k1, k2, k3, k4, k5]
theorem noItem_ok0 (m : Nat) (x : V) (hs : TextsOk x) : SCalls Tryz.prog (gl0 m) 94 [tv x] [] (B (noItem x)) [] := by
 refine call_of0 hmix tf_90 rfl ?_
 unfold noItem B
 by_cases k5 : x.k = 5
 ·have h : (x.k == 5) = true := by simp [k5]
  have d : decide (x.k = 5) = true := by simp [k5]
  simp only [vcA, seval, vV, d, h]
  rfl
 ·have HR := right1_ok0 m x hs k5
  have h : (x.k == 5) = false := by simpa using k5
  unfold B at HR
  simp only [vcA, seval, vV, k5, h]
  (with_reducible apply v_call); (· simp only [vcA, seval, vV]; with_reducible rfl); (· rfl); (· exact HR); (· first | rfl | (simp only [vcA, seval]; omega)); (· simp only [vcA, seval, vV]; with_reducible rfl)
  simp only [vcA, seval, vV]
theorem firstAt_drop {α : Type} (p : α → Bool) : ∀ (l : List α) (i : Nat), (∀ j x, j < i → l[j]? = some x → p x = false) → ∀ x, l[i]? = some x → p x = true → firstAt p l = i
 | [], i, _, x, hx, _ => by simp at hx
 | a :: l, 0, _, x, hx, hp => by simp at hx; subst hx; simp [firstAt, List.findIdx?_cons, hp]
 | a :: l, i + 1, h, x, hx, hp => by
  have h0 := h 0 a (by omega) rfl
  have := firstAt_drop p l i (fun j y hj hy => h (j + 1) y (by omega) (by simpa using hy)) x (by simpa using hx) hp
  unfold firstAt at this ⊢
  rw [List.findIdx?_cons, h0]
  cases hf : l.findIdx? p with
  | none => rw [hf] at this; simp only at this; omega
  | some q => rw [hf] at this; simp only at this ⊢; simp; omega
theorem firstAt_none {α : Type} (p : α → Bool) (l : List α) (h : ∀ x ∈ l, p x = false) : firstAt p l = -1 := by
 have : l.findIdx? p = none := List.findIdx?_eq_none_iff.2 h
 unfold firstAt; rw [this]
theorem firstAt_any {α : Type} (p : α → Bool) (l : List α) : decide (0 ≤ firstAt p l) = l.any p := by
 rw [Bool.eq_iff_iff, decide_eq_true_eq, List.any_eq_true]
 constructor
 ·intro h
  by_cases hn : ∀ x ∈ l, p x = false
  ·rw [firstAt_none p l hn] at h; omega
  ·obtain ⟨x, hx⟩ := Classical.not_forall.1 hn
   obtain ⟨hx, hp⟩ := Classical.not_imp.1 hx
   exact ⟨x, hx, by simpa using hp⟩
 ·rintro ⟨x, hx, hp⟩
  unfold firstAt
  cases hf : l.findIdx? p with
  | none => rw [List.findIdx?_eq_none_iff.1 hf x hx] at hp; cases hp
  | some i => simp
theorem indexNo_ok (m : Nat) (l : List V) (hl : l.length ≤ maxLen) (hs : ∀ x ∈ l, TextsOk x) : SCalls Tryz.prog (gl0 m) 162 [.pv (.sl 4 (V.rows l)), .pv (.v (.func (.func 94) #[] #[]))] [] (I (firstAt noItem l)) [] := by
 refine call_of0 hmix tf_82 rfl ?_
 have hm : maxLen = 9223372036854775807 := rfl
 simp only [vcA, seval, vV]
 refine v_loop (σ := {i : Nat // i ≤ l.length ∧ ∀ j x, j < i → l[j]? = some x → noItem x = false}) (fun i => ⟨[(0, .pv (.sl 4 (V.rows l))), (1, .pv (.v (.func (.func 94) #[] #[]))), (7, I (l.length : Int)), (8, I (i.1 : Int))], [], [], []⟩) (fun i => l.length - i.1) ⟨0, Nat.zero_le _, fun j x hj => by omega⟩ (lw_eq (by simp [I])) ?_
 rintro ⟨i, hi, hno⟩
 by_cases hlt : i < l.length
 ·have d1 : (i : Int) < (l.length : Int) := by omega
  obtain ⟨x, ex⟩ : ∃ x, l[i]? = some x := ⟨_, List.getElem?_eq_getElem hlt⟩
  have HN := noItem_ok0 m x (hs x (List.mem_of_getElem? ex))
  have w1 : IntKind.i64.wrap ((i : Int) + 1) = ((i + 1 : Nat) : Int) := by rw [wrap64 (by omega) (by omega)]; omega
  unfold tv B at HN
  simp only [vcA, seval, vV, d1, ex]
  (with_reducible apply v_callv); (· simp only [vcA, seval, vV]; with_reducible rfl); (· exact HN); (· rfl); (· simp only [vcA, seval, vV]; with_reducible rfl)
  cases hp : noItem x
  ·simp only [vcA, seval, vV, w1]
   refine loopK_of ⟨i + 1, by omega, fun j y hj hy => ?_⟩ (by show l.length - (i + 1) < l.length - i; omega) ?_
   ·by_cases hji : j = i
    ·subst hji; rw [ex] at hy; cases hy; exact hp
    ·exact hno j y (by omega) hy
   ·apply lw_of <;> simp [leL, lk, sv, Nat.beq, I, S, ES.kill, has, drp, nilT]
  ·simp only [vcA, seval, vV]
   rw [firstAt_drop noItem l i hno x ex hp]
 ·have d1 : ¬ (i : Int) < (l.length : Int) := by omega
  simp only [vcA, seval, vV, d1]
  rw [firstAt_none noItem l (fun x hx => by
   obtain ⟨j, hj⟩ := List.getElem?_of_mem hx
   exact hno j x (by have := (List.getElem?_eq_some_iff.1 hj).1; omega) hj)]
theorem containsNo_ok (m : Nat) (l : List V) (hl : l.length ≤ maxLen) (hs : ∀ x ∈ l, TextsOk x) : SCalls Tryz.prog (gl0 m) 93 [.pv (.sl 4 (V.rows l)), .pv (.v (.func (.func 94) #[] #[]))] [] (B (l.any noItem)) [] := by
 refine call_of0 hmix tf_80 rfl ?_
 have HI := indexNo_ok m l hl hs
 rw [← firstAt_any]
 unfold B
 simp only [vcA, seval, vV]
 (with_reducible apply v_call); (· simp only [vcA, seval, vV]; with_reducible rfl); (· rfl); (· exact HI); (· first | rfl | (simp only [vcA, seval]; omega)); (· simp only [vcA, seval, vV]; with_reducible rfl)
 simp only [vcA, seval, vV]
theorem rightV_ok0 (m : Nat) (x : V) (hx : VOk x) : SCalls Tryz.prog (gl0 m) 52 [tv x] [] (B (rightV x)) [] := by
 unfold rightV
 by_cases k5 : x.k = 5
 ·rw [if_pos k5]
  obtain ⟨k, n, s, l⟩ := x
  simp only [Vk] at k5
  subst k5
  simp only [Vn, Vs, Vl]
  refine call_of0 hmix tf_87 rfl ?_
  unfold B
  by_cases n0 : n = 0
  ·subst n0
   cases hs : s == []
   ·simp only [vcA, seval, vV, e0, hs]
   ·by_cases h12 : l.length ≤ 12
    ·have d1 : (l.length : Int) ≤ 12 := by omega
     have HC := containsNo_ok m l (by unfold maxLen; omega) (fun y hy => hx.2 y hy)
     unfold B at HC
     simp only [vcA, seval, vV, e0, hs, d1, h12]
     (with_reducible apply v_call); (· simp only [vcA, seval, vV]; with_reducible rfl); (· rfl); (· exact HC); (· first | rfl | (simp only [vcA, seval]; omega)); (· simp only [vcA, seval, vV]; with_reducible rfl)
     simp only [vcA, seval, vV]
    ·have d1 : ¬ (l.length : Int) ≤ 12 := by omega
     simp only [vcA, seval, vV, e0, hs, d1, h12]
  ·have hn0 : (n == 0) = false := by simpa using n0
   simp only [vcA, seval, vV, n0, hn0]
 ·rw [if_neg k5]
  exact right1_ok0 m x hx.1 k5
theorem rightType_ok (g : Sh.Glob) (t : Ty) : SCalls Tryz.prog g 96 [tyT t] [] (B (rightType t)) [] := by
 refine call_of0 hmix tf_95 rfl ?_
 obtain ⟨k, o⟩ := t
 unfold B
 simp only [vcA, seval, vV]
 unfold rightType
 repeat' (first | (apply And.intro) | (intro _))
 all_goals (first | (simp_all; done) | (simp_all; omega))
theorem ofKind_ok (g : Sh.Glob) (x : V) (k : Int) : SCalls Tryz.prog g 97 [tv x, I k] [] (B (ofKind x k)) [] := by
 refine call_of0 hmix tf_91 rfl ?_
 unfold B
 simp only [vcA, seval, vV]
 unfold ofKind
 repeat' (first | (apply And.intro) | (intro _))
 all_goals (first | (simp_all; done) | (simp only [Option.some.injEq, TV.pv.injEq, PV.v.injEq, Value.bool.injEq]; rw [Bool.eq_iff_iff]; simp_all; done) | (simp only [Option.some.injEq, TV.pv.injEq, PV.v.injEq, Value.bool.injEq]; rw [Bool.eq_iff_iff]; simp_all; omega))
theorem fits1_ok (g : Sh.Glob) (x : V) (t : Ty) : SCalls Tryz.prog g 98 [tv x, .ptr 1000 0] [.box [I t.k, I t.o]] (B (!ofKind x t.o)) [.box [I t.k, I t.o]] := by
 refine call_of hmix tf_86 rfl rfl rfl ?_
 have HK := ofKind_ok g x t.o
 unfold B at *
 simp only [vcA, seval, vV]
 (with_reducible apply v_call); (· simp only [vcA, seval, vV]; with_reducible rfl); (· rfl); (· exact HK); (· first | rfl | (simp only [vcA, seval]; omega)); (· simp only [vcA, seval, vV]; with_reducible rfl)
 simp only [vcA, seval, vV]
theorem indexFits_ok (g : Sh.Glob) (l : List V) (t : Ty) (hl : l.length ≤ maxLen) : SCalls Tryz.prog g 162 [.pv (.sl 4 (V.rows l)), .fn (.func 98) [] [.ptr 1000 0]] [.box [I t.k, I t.o]] (I (firstAt (fun y => !ofKind y t.o) l)) [.box [I t.k, I t.o]] := by
 refine call_of hmix tf_82 rfl rfl rfl ?_
 have hm : maxLen = 9223372036854775807 := rfl
 simp only [vcA, seval, vV]
 refine v_loop (σ := {i : Nat // i ≤ l.length ∧ ∀ j x, j < i → l[j]? = some x → (!ofKind x t.o) = false}) (fun i => ⟨[(0, .pv (.sl 4 (V.rows l))), (1, .fn (.func 98) [] [.ptr 1000 0]), (7, I (l.length : Int)), (8, I (i.1 : Int))], [(1000, [I t.k, I t.o])], [], []⟩) (fun i => l.length - i.1) ⟨0, Nat.zero_le _, fun j x hj => by omega⟩ (lw_eq (by simp [I])) ?_
 rintro ⟨i, hi, hno⟩
 by_cases hlt : i < l.length
 ·have d1 : (i : Int) < (l.length : Int) := by omega
  obtain ⟨x, ex⟩ : ∃ x, l[i]? = some x := ⟨_, List.getElem?_eq_getElem hlt⟩
  have HN := fits1_ok g x t
  have w1 : IntKind.i64.wrap ((i : Int) + 1) = ((i + 1 : Nat) : Int) := by rw [wrap64 (by omega) (by omega)]; omega
  unfold tv B at HN
  simp only [vcA, seval, vV, d1, ex]
  (with_reducible apply v_callv); (· simp only [vcA, seval, vV]; with_reducible rfl); (· exact HN); (· rfl); (· simp only [vcA, seval, vV]; with_reducible rfl)
  cases hp : ofKind x t.o
  ·simp only [vcA, seval, vV]
   rw [firstAt_drop (fun y => !ofKind y t.o) l i hno x ex (by simp [hp])]
  ·simp only [vcA, seval, vV, w1]
   refine loopK_of ⟨i + 1, by omega, fun j y hj hy => ?_⟩ (by show l.length - (i + 1) < l.length - i; omega) ?_
   ·by_cases hji : j = i
    ·subst hji; rw [ex] at hy; cases hy; simp [hp]
    ·exact hno j y (by omega) hy
   ·apply lw_of <;> simp [leL, lk, sv, Nat.beq, I, S, ES.kill, has, drp, nilT]
 ·have d1 : ¬ (i : Int) < (l.length : Int) := by omega
  simp only [vcA, seval, vV, d1]
  rw [firstAt_none (fun y => !ofKind y t.o) l (fun x hx => by
   obtain ⟨j, hj⟩ := List.getElem?_of_mem hx
   exact hno j x (by have := (List.getElem?_eq_some_iff.1 hj).1; omega) hj)]
theorem containsFits_ok (g : Sh.Glob) (l : List V) (t : Ty) (hl : l.length ≤ maxLen) : SCalls Tryz.prog g 93 [.pv (.sl 4 (V.rows l)), .fn (.func 98) [] [.ptr 1000 0]] [.box [I t.k, I t.o]] (B (l.any fun y => !ofKind y t.o)) [.box [I t.k, I t.o]] := by
 refine call_of hmix tf_80 rfl rfl rfl ?_
 have HI := indexFits_ok g l t hl
 rw [← firstAt_any]
 unfold B
 simp only [vcA, seval, vV]
 (with_reducible apply v_call); (· simp only [vcA, seval, vV]; with_reducible rfl); (· rfl); (· exact HI); (· first | rfl | (simp only [vcA, seval]; omega)); (· simp only [vcA, seval, vV]; with_reducible rfl)
 simp only [vcA, seval, vV]
theorem fits_ok0 (m : Nat) (x : V) (t : Ty) (hx : VOk x) (hl : x.l.length ≤ maxLen) : SCalls Tryz.prog (gl0 m) 56 [tv x, tyT t] [] (B (fitsV x t)) [] := by
 refine call_of0 hmix tf_85 rfl ?_
 have HR := rightV_ok0 m x hx
 have HT := rightType_ok (gl0 m) t
 have HK := ofKind_ok (gl0 m) x t.k
 have HC := containsFits_ok (gl0 m) x.l t hl
 unfold fitsV B at *
 simp only [vcA, seval, vV]
 (with_reducible apply v_call); (· simp only [vcA, seval, vV]; with_reducible rfl); (· rfl); (· exact HR); (· first | rfl | (simp only [vcA, seval]; omega)); (· simp only [vcA, seval, vV]; with_reducible rfl)
 cases rightV x
 ·simp only [vcA, seval, vV]
 simp only [vcA, seval, vV]
 (with_reducible apply v_call); (· simp only [vcA, seval, vV]; with_reducible rfl); (· rfl); (· exact HT); (· first | rfl | (simp only [vcA, seval]; omega)); (· simp only [vcA, seval, vV]; with_reducible rfl)
 cases rightType t
 ·simp only [vcA, seval, vV]
 simp only [vcA, seval, vV]
 (with_reducible apply v_call); (· simp only [vcA, seval, vV]; with_reducible rfl); (· rfl); (· exact HK); (· first | rfl | (simp only [vcA, seval]; omega)); (· simp only [vcA, seval, vV]; with_reducible rfl)
 cases ofKind x t.k
 ·simp only [vcA, seval, vV]
 simp only [vcA, seval, vV]
 (with_reducible apply v_call); (· simp only [vcA, seval, vV]; with_reducible rfl); (· rfl); (· exact HC); (· first | rfl | (simp only [vcA, seval]; omega)); (· simp only [vcA, seval, vV]; with_reducible rfl)
 simp only [vcA, seval, vV]
end Go.Proofs.YtmiokadmddjccaaGreatDoor
end

section
namespace Go.Mor
def mag (n : Int) : Nat := if n < 0 then (-1 - n).toNat else n.toNat
def sgn (n : Int) : Nat := if n < 0 then 1 else 0
def tailN : Nat → Nat → List UInt8
 | 0, _ => []
 | f + 1, m => if m = 0 then [] else UInt8.ofNat (m % 128) :: tailN f (m / 128)
def groups (n : Int) : List UInt8 := UInt8.ofNat (mag n % 64 * 2 + sgn n) :: tailN 9 (mag n / 64)
def bump (l : List UInt8) : List UInt8 := l.dropLast ++ (l.getLast?.map (· + 128)).toList
def pack (l : List UInt8) : List UInt8 := l.foldl (fun acc g => bump acc ++ [g]) []
def num (n : Int) : List UInt8 := pack (groups n)
abbrev Ix : Type := Fin 1125899906842624
def rdGo : Nat → Nat × Nat → List UInt8 → Except Bool (Nat × Nat × Nat)
 | _, _, [] => .error false
 | k, st, b :: r =>
  if k ≠ 0 ∧ (b.toNat = 0 ∨ k = 9 ∧ 1 < b.toNat) then .error true else
  let g := b.toNat % 128
  let st' := if k = 0 then (g / 2, g % 2) else (st.1 + g * 2 ^ (7 * k - 1), st.2)
  if b.toNat < 128 then .ok (st'.1, st'.2, k + 1) else rdGo (k + 1) st' r
def stepM (st : Nat × Nat) (x : Ix × UInt8) : Nat × Nat :=
 if x.1.val = 0 then (x.2.toNat % 128 / 2, x.2.toNat % 128 % 2) else (st.1 + x.2.toNat % 128 * 2 ^ (7 * x.1.val - 1), st.2)
def stM (pre : List (Ix × UInt8)) : Nat × Nat := pre.foldl stepM (0, 0)
def pairs (s : List UInt8) (a : Nat) : List (Ix × UInt8) := (s.drop a).zipIdx.map fun p => (Fin.ofNat _ p.2, p.1)
theorem pairs_length (s : List UInt8) (a : Nat) : (pairs s a).length = s.length - a := by simp [pairs]
theorem pairs_get (s : List UInt8) (a k : Nat) (h : a + k < s.length) : (pairs s a)[k]? = some (Fin.ofNat _ k, s[a + k]) := by
 simp [pairs, List.getElem?_drop, List.getElem?_eq_getElem h]
def Begs (s : List UInt8) (a : Nat) (pre : List (Ix × UInt8)) : Prop := pre <+: pairs s a
theorem Begs.last {s : List UInt8} {a : Nat} {pre : List (Ix × UInt8)} {x : Ix × UInt8} (h : Begs s a (pre ++ [x])) (hs : s.length < 1125899906842624) :
  Begs s a pre ∧ x.1.val = pre.length ∧ ∃ hl : a + pre.length < s.length, x.2 = s[a + pre.length] := by
 have hg : Begs s a pre := (List.prefix_append pre [x]).trans h
 have hlen := h.length_le
 rw [pairs_length] at hlen
 simp at hlen
 have hl : a + pre.length < s.length := by omega
 have h1 : (pre ++ [x])[pre.length]? = some x := by simp
 have h2 := List.prefix_iff_getElem?.1 h pre.length (by simp)
 rw [pairs_get s a pre.length hl] at h2
 simp at h2
 subst h2
 exact ⟨hg, by simp [Fin.ofNat]; omega, hl, rfl⟩
structure Mid (s : List UInt8) (a : Nat) (pre : List (Ix × UInt8)) (m sg : Int) : Prop where
 m : m = (stM pre).1
 sg : sg = (stM pre).2
 go : rdGo 0 (0, 0) (s.drop a) = rdGo pre.length (stM pre) (s.drop (a + pre.length))
 lt : (stM pre).1 < 2 ^ (7 * pre.length - 1)
 le : pre.length ≤ 9
end Go.Mor
end

section
namespace Go.Mor
open Go
theorem drop_cons {s : List UInt8} {i : Nat} (h : i < s.length) : s.drop i = s[i] :: s.drop (i + 1) := List.drop_eq_getElem_cons h

theorem Mid.at {s : List UInt8} {a : Nat} {pre : List (Ix × UInt8)} {x : Ix × UInt8} {m sg : Int} (hs : s.length < 1125899906842624) (hM : Begs s a pre → Mid s a pre m sg) (hg : Begs s a (pre ++ [x])) :
  Mid s a pre m sg ∧ x.1.val = pre.length ∧ rdGo 0 (0, 0) (s.drop a) = rdGo pre.length (stM pre) (x.2 :: s.drop (a + (pre ++ [x]).length)) := by
 obtain ⟨hg', hx, hl, hb⟩ := hg.last hs
 have hm := hM hg'
 refine ⟨hm, hx, ?_⟩
 rw [hm.go, drop_cons hl, hb]
 simp [Nat.add_assoc]

theorem Mid.ok {s : List UInt8} {a : Nat} {pre : List (Ix × UInt8)} {x : Ix × UInt8} {m sg : Int} (hs : s.length < 1125899906842624) (hM : Begs s a pre → Mid s a pre m sg) (hbad : ¬ (x.1.val ≠ 0 ∧ (x.2.toNat = 0 ∨ x.1.val = 9 ∧ 1 < x.2.toNat)))
  (hlo : x.2.toNat < 128) (hg : Begs s a (pre ++ [x])) : rdGo 0 (0, 0) (s.drop a) = .ok ((stepM (stM pre) x).1, (stepM (stM pre) x).2, x.1.val + 1) := by
 obtain ⟨hm, hx, hr⟩ := Mid.at hs hM hg
 rw [hr, rdGo, if_neg (by rw [← hx]; exact hbad), ← hx]
 simp only [hlo, if_true, stepM]

end Go.Mor
end

section
namespace Go.Mor
def text (s : List UInt8) : List UInt8 := num s.length ++ s
end Go.Mor
end

section
namespace Go.Mor
open Go Go.RowKit
structure Fld where
 n : List UInt8
 t : Ty
 ix : Bool
structure Cls where
 n : List UInt8
 fs : List Fld

def small (b : UInt8) : Bool := decide (97 ≤ b.toNat ∧ b.toNat ≤ 122)
def nameB (b : UInt8) : Bool := small b || decide (48 ≤ b.toNat ∧ b.toNat ≤ 57) || b.toNat == 95
def rightName (s : List UInt8) : Bool := decide (1 ≤ s.length ∧ s.length ≤ 20) && small (s.headD 0) && s.all nameB
def rightField (f : Fld) : Bool := rightName f.n && rightType f.t && (!f.ix || decide (f.t.k ≤ 3))
def fieldAt (c : List Fld) (name : List UInt8) : Int := firstAt (fun f => f.n == name) c
def onceGo (all : List Fld) : Nat → List Fld → Bool
 | _, [] => true
 | k, f :: r => rightField f && fieldAt all f.n == k && onceGo all (k + 1) r
def rightClass (c : Cls) : Bool := rightName c.n && decide (c.fs.length ≤ 8) && onceGo c.fs 0 c.fs
def checkGo : Nat → List Fld → List V → Int × Int
 | _, [], _ => (0, 0)
 | _, _, [] => (0, 0)
 | k, f :: fs, v :: vs => if fitsV v f.t then checkGo (k + 1) fs vs else (k, 42)
def check (c : Cls) (vs : List V) : Int × Int :=
 if !rightClass c then (0, 40) else if vs.length ≠ c.fs.length then ((min vs.length c.fs.length : Nat), 42) else checkGo 0 c.fs vs

def IsF (ok : Nat → Prop) (w : World) (l : List Fld) (c : Value) : Prop :=
 ∃ (b off cap : Nat) (p : Option Addr), c = .slice p l.length cap ∧ l.length ≤ cap ∧ cap ≤ maxLen ∧ (l ≠ [] → p = some ⟨b, off, none⟩ ∧ ok b) ∧
  ∀ (i : Nat) (f : Fld), l[i]? = some f → w.cell? ⟨b, off + i * 4, none⟩ = some (.string (str f.n)) ∧ w.cell? ⟨b, off + i * 4 + 1, none⟩ = some (.int .i64 f.t.k)
   ∧ w.cell? ⟨b, off + i * 4 + 2, none⟩ = some (.int .i64 f.t.o) ∧ w.cell? ⟨b, off + i * 4 + 3, none⟩ = some (.bool f.ix)
theorem IsF.keepBy {ok : Nat → Prop} {w w' : World} {l : List Fld} {c : Value} (h : IsF ok w l c) (hk : ∀ a v, ok a.block → w.cell? a = some v → w'.cell? a = some v) : IsF ok w' l c := by
 obtain ⟨b, off, cap, p, h1, h2, h3, h4, h5⟩ := h
 refine ⟨b, off, cap, p, h1, h2, h3, h4, fun i f hf => ?_⟩
 have hb : ok b := (h4 (by rintro rfl; simp at hf)).2
 obtain ⟨q0, q1, q2, q3⟩ := h5 i f hf
 exact ⟨hk _ _ hb q0, hk _ _ hb q1, hk _ _ hb q2, hk _ _ hb q3⟩
theorem IsF.ext {ok : Nat → Prop} {w w' : World} {l : List Fld} {c : Value} (h : IsF ok w l c) (hb : Below w.heap.size w w') : IsF ok w' l c :=
 h.keepBy fun _ _ _ hv => (hb.cell (cell_lt hv)).trans hv
theorem IsF.keep {ok : Nat → Prop} {w w' : World} {l : List Fld} {c : Value} (h : IsF ok w l c) (hk : ∀ b, ok b → w'.heap[b]? = w.heap[b]?) : IsF ok w' l c :=
 h.keepBy fun a _ ho hv => (World.cell?_of_block (w := w) (hk a.block ho)).trans hv
end Go.Mor
end

section
namespace Go.Mor
open Go
def bindsV (s : List UInt8) : Int :=
 if s = [42] ∨ s = [47] ∨ s = [37] then 4 else if s = [43] ∨ s = [45] then 3 else if s = [38] then 2
 else if s = [61] ∨ s = [60, 62] ∨ s = [60] ∨ s = [60, 61] ∨ s = [62] ∨ s = [62, 61] then 1 else 0
def takesV (s : List UInt8) : Int :=
 if s = [108, 101, 110] ∨ s = [116, 101, 120, 116] ∨ s = [110, 117, 109] then 1
 else if s = [108, 101, 102, 116] ∨ s = [114, 105, 103, 104, 116] ∨ s = [102, 114, 111, 109] ∨ s = [102, 105, 110, 100] ∨ s = [109, 105, 110] ∨ s = [109, 97, 120] then 2
 else if s = [105, 102] then 3 else 0
def nodeE (e : V) : Bool :=
 if e.k ≠ 1 ∧ e.n ≠ 0 then false
 else if e.k = 1 then decide (0 ≤ e.n) && decide (e.n ≤ 1000000000000000) && e.s == [] && e.l.length == 0
 else if e.k = 2 then rightText e.s && e.l.length == 0
 else if e.k = 3 then rightName e.s && e.l.length == 0
 else if e.k = 4 then decide (0 < bindsV e.s) && e.l.length == 2
 else if e.k = 5 then e.s == [45] && e.l.length == 1
 else if e.k = 6 then decide (0 < takesV e.s) && decide ((e.l.length : Int) = takesV e.s)
 else false
def okE : Nat → V → Bool
 | 0, _ => false
 | d + 1, e => nodeE e && e.l.all (okE d)
def szE : Nat → V → Nat
 | 0, _ => 1
 | d + 1, e => 1 + (e.l.map (szE d)).sum
def rightE (e : V) : Bool := okE 8 e && decide (szE 8 e ≤ 40)

def qesc (s : List UInt8) : List UInt8 := s.flatMap fun b => if b = 34 ∨ b = 92 then [92, b] else [b]
structure Pc where
 k : Int
 n : Int
 s : List UInt8
 p : Nat
def digB (b : UInt8) : Bool := decide (48 ≤ b.toNat ∧ b.toNat ≤ 57)
def numG : List UInt8 → Int → Nat → Int × Nat
 | [], n, z => (n, z)
 | b :: r, n, z => if digB b then numG r (min (10 * n + ((b.toNat : Int) - 48)) 1000000000000001) (z + 1) else (n, z)
def nameZ : List UInt8 → Nat
 | [] => 0
 | b :: r => if nameB b then nameZ r + 1 else 0
def quoG : List UInt8 → List UInt8 → Nat → Option (List UInt8 × Nat)
 | [], _, _ => none
 | b :: r, acc, k => if b = 34 then (if rightText acc then some (acc, k + 1) else none)
  else if b = 92 then (match r with
   | [] => none
   | c :: r' => if c = 34 ∨ c = 92 then quoG r' (acc ++ [c]) (k + 2) else none)
  else quoG r (acc ++ [b]) (k + 1)
def signP : List UInt8 → List UInt8
 | [] => []
 | b :: r => if b = 60 then (if r.head? = some 62 then [60, 62] else if r.head? = some 61 then [60, 61] else [60])
  else if b = 62 then (if r.head? = some 61 then [62, 61] else [62])
  else if b = 61 ∨ b = 38 ∨ b = 43 ∨ b = 45 ∨ b = 42 ∨ b = 47 ∨ b = 37 ∨ b = 40 ∨ b = 41 ∨ b = 44 then [b] else []
def readP (l : List UInt8) (at_ : Nat) : Option (Pc × Nat) :=
 match l with
 | [] => none
 | b :: r =>
  if digB b then (if 1000000000000000 < (numG l 0 0).1 then none else some (⟨1, (numG l 0 0).1, [], at_⟩, (numG l 0 0).2))
  else if small b then (if rightName (l.take (nameZ l)) then some (⟨3, 0, l.take (nameZ l), at_⟩, nameZ l) else none)
  else if b = 34 then (match quoG r [] 1 with
   | some (t, k) => some (⟨2, 0, t, at_⟩, k)
   | none => none)
  else if signP l = [] then none else some (⟨4, 0, signP l, at_⟩, (signP l).length)
inductive Lx where
 | ok (L : List Pc)
 | bad (p : Nat)
def lexG : Nat → List UInt8 → Nat → List Pc → Option Lx
 | 0, _, _, _ => none
 | f + 1, l, at_, acc => match l with
  | [] => some (.ok acc)
  | b :: r => if b = 32 then lexG f r (at_ + 1) acc else match readP l at_ with
   | none => some (.bad at_)
   | some (q, z) => lexG f (l.drop z) (at_ + z) (acc ++ [q])
inductive Rs (α : Type) where
 | ok (e : α) (p : Nat)
 | bad (a p : Nat)
def pkP (L : List Pc) (sz p : Nat) : Pc := (L[p]?).getD ⟨0, 0, [], sz⟩
def isSg (q : Pc) (t : List UInt8) : Bool := q.k == 4 && q.s == t
mutual
def pE (L : List Pc) (sz : Nat) : Nat → Int → Nat → Option (Rs V)
 | 0, _, _ => none
 | f + 1, least, p => match pT L sz f p with
  | some (.ok e p') => pL L sz f least e p'
  | some (.bad a p') => some (.bad a p')
  | none => none
def pL (L : List Pc) (sz : Nat) : Nat → Int → V → Nat → Option (Rs V)
 | 0, _, _, _ => none
 | f + 1, least, e, p =>
  if (pkP L sz p).k ≠ 4 ∨ bindsV (pkP L sz p).s < least then some (.ok e p)
  else match pE L sz f (bindsV (pkP L sz p).s + 1) (p + 1) with
   | some (.ok e2 p2) => pL L sz f least (.mk 4 0 (pkP L sz p).s [e, e2]) p2
   | some (.bad a p') => some (.bad a p')
   | none => none
def pT (L : List Pc) (sz : Nat) : Nat → Nat → Option (Rs V)
 | 0, _ => none
 | f + 1, p =>
  if isSg (pkP L sz p) [40] then (match pE L sz f 1 (p + 1) with
   | some (.ok e p') => if isSg (pkP L sz p') [41] then some (.ok e (p' + 1)) else some (.bad (pkP L sz p').p p')
   | some (.bad a p') => some (.bad a p')
   | none => none)
  else if isSg (pkP L sz p) [45] then (match pT L sz f (p + 1) with
   | some (.ok e p') => some (.ok (.mk 5 0 [45] [e]) p')
   | some (.bad a p') => some (.bad a p')
   | none => none)
  else if (pkP L sz p).k = 1 then some (.ok (.mk 1 (pkP L sz p).n [] []) (p + 1))
  else if (pkP L sz p).k = 2 then some (.ok (.mk 2 0 (pkP L sz p).s []) (p + 1))
  else if (pkP L sz p).k = 3 then (if 0 < takesV (pkP L sz p).s ∧ isSg (pkP L sz (p + 1)) [40] = true then (match pH L sz f (takesV (pkP L sz p).s).toNat 0 (p + 2) [] with
    | some (.ok l p') => some (.ok (.mk 6 0 (pkP L sz p).s l) p')
    | some (.bad a p') => some (.bad a p')
    | none => none)
   else some (.ok (.mk 3 0 (pkP L sz p).s []) (p + 1)))
  else some (.bad (pkP L sz p).p (p + 1))
def pH (L : List Pc) (sz : Nat) : Nat → Nat → Nat → Nat → List V → Option (Rs (List V))
 | 0, _, _, _, _ => none
 | f + 1, n, k, p, acc =>
  if k < n then (if 0 < k ∧ isSg (pkP L sz p) [44] = false then some (.bad (pkP L sz p).p p)
   else match pE L sz f 1 (if 0 < k then p + 1 else p) with
    | some (.ok e p') => pH L sz f n (k + 1) p' (acc ++ [e])
    | some (.bad a p') => some (.bad a p')
    | none => none)
  else if isSg (pkP L sz p) [41] then some (.ok acc (p + 1)) else some (.bad (pkP L sz p).p p)
end
def parseV (f : Nat) (l : List UInt8) : Option (V × Int × Int) :=
 if 200 < l.length then some (V.nil, 200, 50)
 else match lexG (l.length + 1) l 0 [] with
  | none => none
  | some (.bad a) => some (V.nil, a, 50)
  | some (.ok L) => match pE L l.length f 1 0 with
   | some (.ok e p) => if p < L.length then some (V.nil, (pkP L l.length p).p, 50) else if rightE e then some (e, 0, 0) else some (V.nil, 0, 51)
   | some (.bad a _) => some (V.nil, a, 50)
   | none => none
end Go.Mor
end

section
namespace Go.Proofs.YtmiokadmddjccaaGreatDoor
open Go Go.RowKit Go.Mor Go.Sh
set_option maxRecDepth 100000
set_option maxHeartbeats 4000000
def bindL : List (List UInt8 × Int) := [([42], 4), ([47], 4), ([37], 4), ([43], 3), ([45], 3), ([38], 2), ([61], 1), ([60, 62], 1), ([60], 1), ([60, 61], 1), ([62], 1), ([62, 61], 1)]
def bindKs : List Value := bindL.map fun p => .string (str p.1)
def bindM : TV := .mp bindKs (bindL.map fun p => I p.2)
theorem bindings_ok (g : Sh.Glob) : SCalls Tryz.prog g 59 [] [] bindM [] := by
 refine ⟨body_of (by kernel_rfl), fun w E us hG hm hX hl hr => ?_⟩
 obtain rfl : us = [] := List.eq_nil_of_length_eq_zero hl.symm
 refine calls_of_wp Tryz.func59 rfl ?_
 refine wp_seq (wp_region ?_)
 show wpOps _ _ _ [0] _ _
 rw [wpOps_cons]
 refine wp_simple rfl rfl (v := .map none) (w' := w) rfl ?_
 show (Code.seq _ _).wp _ _ { tmps := #[.map none, undef, undef], defers := [] } _
 refine wp_seq (wp_region ?_)
 show wpOps _ _ _ (0 :: ([1, 2, 3, 4, 5, 6, 7, 8, 9, 10, 11, 12] ++ [13, 14])) _ _
 rw [wpOps_cons]
 refine wp_simple rfl rfl (v := .map (some w.heap.size)) (w' := w.alloc (.map #[] 0)) rfl ?_
 have hnew : (w.alloc (.map #[] 0)).heap[w.heap.size]? = some (.map #[] 0) := heap_alloc_new w _
 refine wp_insAll (t := 98) (m := 1) (kt := 9) (et := 3) (text := true) (b := w.heap.size) (by kernel_rfl) (by kernel_rfl) rfl _ _ _ _ #[] 0 rfl hnew (by rfl) ?_
 intro es clock w' hturn hb hks hvs
 show wpOps _ _ _ [13, 14] { tmps := #[.map none, .map (some w.heap.size), undef], defers := [] } _
 rw [wpOps_cons]
 refine wp_simple rfl rfl (v := .map (some w.heap.size)) (w' := w') rfl ?_
 rw [wpOps_cons]
 refine wp_simple rfl rfl (v := .map (some w.heap.size)) (w' := w') rfl ?_
 show Code.ret.wp _ _ { tmps := #[.map (some w.heap.size), .map (some w.heap.size), .map (some w.heap.size)], defers := [] } _
 refine wp_ret ?_
 have hbel : Below w.heap.size w w' := by
  refine ⟨hturn.os, hturn.tape, hturn.output, by rw [hturn.size]; exact (((Below.refl w.heap.size w)).alloc (Nat.le_refl _) (.map #[] 0)).size, fun k hk => ?_⟩
  rw [hturn.block k (by omega)]
  exact (((Below.refl w.heap.size w)).alloc (Nat.le_refl _) _).block k hk
 refine ⟨rfl, .map (some w.heap.size), by simp [results, Tryz.results59], .map (some w.heap.size), E, rfl, ?_, ?_, ⟨fun _ _ _ => rfl, fun _ _ _ _ => rfl, fun d e W n hd => by obtain ⟨j, _, hj⟩ := objR_inv hd; simp at hj⟩⟩
 ·exact MSim.ext (s := ⟨fun _ => none, objB [], objR [], fun _ => none⟩) hm hbel E (fun _ _ h => h) (fun _ _ h => .inl h) (fun _ _ => ⟨rfl, rfl⟩) (fun _ _ _ => rfl) (fun _ _ => ⟨rfl, rfl⟩)
 ·have hlen : es.toList.length = 12 := by have := congrArg List.length hks; simpa using this
  refine .mp bindKs _ w.heap.size es clock (fun j => (es.toList.map MapEntry.val).getD j undef) hb hks rfl (fun j e he => by simp [he]) (fun j x hx => ?_)
  rw [hvs]
  have hj : j < 12 := (List.getElem?_eq_some_iff.1 hx).1
  simp only [bindL, List.getElem?_map] at hx
  match j, hj with
  | 0, _ | 1, _ | 2, _ | 3, _ | 4, _ | 5, _ | 6, _ | 7, _ | 8, _ | 9, _ | 10, _ | 11, _ => cases hx; exact .pv (.v _)
theorem bm_m1 (ids : List Nat) : TV.m1 ids bindM = false := rfl
theorem bm_m2 (ids : List Nat) : TV.m2 ids bindM = false := rfl
theorem bm_m3 (ids : List Nat) : TV.m3 ids bindM = false := rfl
theorem bm_ids1 : TV.ids1 bindM = [] := rfl
theorem bm_ids2 : TV.ids2 bindM = [] := rfl
theorem bm_ids3 : TV.ids3 bindM = [] := rfl
theorem bm_ren1 (ρ : Nat → Option Nat) : TV.ren1 ρ bindM = some bindM := rfl
theorem bm_ren2 (ρ : Nat → Option Nat) : TV.ren2 ρ bindM = some bindM := rfl
theorem bm_ren3 (ρ : Nat → Option Nat) : TV.ren3 ρ bindM = some bindM := rfl
theorem bm_cells : TV.cells bindM = some [bindM] := rfl
theorem same_str (a b : List UInt8) : Instr.sameNow (kdOf true) (.string (str a)) (.string (str b)) = some (a == b) := by
 have : (str a == str b) = (a == b) := by
  show (a.toArray == b.toArray) = (a == b)
  simp
 first
  | (simp [Instr.sameNow, kdOf, this]; done)
  | (simp [Instr.sameNow, kdOf]; exact this)
theorem bm_find (s : List UInt8) : ∀ (l : List (List UInt8 × Int)) (i : Nat), findKs (kdOf true) (.string (str s)) (l.map fun p => .string (str p.1)) i = some ((l.findIdx? fun p => s == p.1).map (· + i))
 | [], i => rfl
 | p :: l, i => by
  rw [List.map_cons, findKs, same_str, List.findIdx?_cons]
  cases h : (s == p.1) with
  | true => simp
  | false =>
   simp only [Bool.false_eq_true, if_false, bm_find s l (i + 1), Option.map_map]
   congr 2
   funext j; simp; omega
theorem bm_lk (s : List UInt8) : lkpK true (.int .i64 0) (some bindM) (some (.string (str s))) = some (.pv (.v (.int .i64 (bindsV s))), .no) := by
 show lkpJ _ _ (findKs (kdOf true) (.string (str s)) bindKs 0) = _
 unfold bindKs
 rw [bm_find s bindL 0]
 simp only [bindL, List.findIdx?_cons, List.findIdx?_nil, bindsV]
 by_cases h1 : s = [42]; · subst h1; rfl
 by_cases h2 : s = [47]; · subst h2; rfl
 by_cases h3 : s = [37]; · subst h3; rfl
 by_cases h4 : s = [43]; · subst h4; rfl
 by_cases h5 : s = [45]; · subst h5; rfl
 by_cases h6 : s = [38]; · subst h6; rfl
 by_cases h7 : s = [61]; · subst h7; rfl
 by_cases h8 : s = [60, 62]; · subst h8; rfl
 by_cases h9 : s = [60]; · subst h9; rfl
 by_cases h10 : s = [60, 61]; · subst h10; rfl
 by_cases h11 : s = [62]; · subst h11; rfl
 by_cases h12 : s = [62, 61]; · subst h12; rfl
 simp [h1, h2, h3, h4, h5, h6, h7, h8, h9, h10, h11, h12, lkpJ, zeroT]
theorem bmV : (type_of% @bm_m1) ∧ (type_of% @bm_m2) ∧ (type_of% @bm_m3) ∧ (type_of% @bm_ids1) ∧ (type_of% @bm_ids2) ∧ (type_of% @bm_ids3) ∧ (type_of% @bm_ren1) ∧ (type_of% @bm_ren2) ∧ (type_of% @bm_ren3) ∧ (type_of% @bm_cells) ∧ (type_of% @bm_lk) := ⟨@bm_m1, @bm_m2, @bm_m3, @bm_ids1, @bm_ids2, @bm_ids3, @bm_ren1, @bm_ren2, @bm_ren3, @bm_cells, @bm_lk⟩
end Go.Proofs.YtmiokadmddjccaaGreatDoor
end

section
namespace Go.Sh.Cd5
open Go Go.Sh
set_option maxRecDepth 100000
abbrev c_50_0 : SCode := .reg [([2, 3, 4], [oD 2 (.new [(.int .i64 0), (.int .i64 0), (.string ⟨#[]⟩), (.slice none 0 0)]), oD 3 (.new [(.int .i64 0)]), oD 4 (.new [(.int .i64 0)])])] []
abbrev c_50_1 : SCode := .reg [([], [oM 10 0, oD 11 (.slen (.tmp 10)), oD 12 (.bin .gtr 3 (.tmp 11) (.val (.int .i64 200)))])] [10, 11]
abbrev c_50_2 : SCode := .reg [([], [oD 13 (.build [(.int .i64 0), (.int .i64 0), (.string ⟨#[]⟩), (.slice none 0 0)] []), oN (.st 4 (.tmp 2) (.tmp 13)), oN (.st 1 (.tmp 3) (.val (.int .i64 200))), oN (.st 1 (.tmp 4) (.val (.int .i64 50)))])] [0, 12, 13]
abbrev c_50_3 : SCode := .reg [([2068, 2069, 2070, 2071, 5], [oM 14 0, oD 15 (.slen (.tmp 14)), oD 16 (.build [(.slice none 0 0), (.int .i64 0), (.int .i64 0)] [(2, 1, (.tmp 15))]), oD 17 (.call 59 0 []), oD 18 (.build [(.slice none 0 0), (.int .i64 0), (.int .i64 0), (.map none)] [(0, 3, (.tmp 16)), (3, 1, (.tmp 17))]), oD 5 (.new [(.slice none 0 0), (.int .i64 0), (.int .i64 0), (.map none)]), oN (.st 4 (.tmp 5) (.tmp 18))])] [12, 14, 15, 16, 17, 18]
abbrev c_50_4 : SCode := .reg [([2080, 2081, 2082, 2083], [oM 19 0, oD 20 (.call 61 0 [.tmp 19])])] [0, 19]
abbrev c_50_5 : SCode := .reg [([2148, 2149, 2150, 2151, 7], [oD 37 (.call 62 1 [.tmp 5]), oM 36 37, oD 38 (.ext (.tmp 36) 0), oD 39 (.ext (.tmp 36) 1), oD 40 (.ext (.tmp 36) 2), oD 7 (.new [(.int .i64 0), (.int .i64 0), (.string ⟨#[]⟩), (.slice none 0 0)]), oN (.st 4 (.tmp 7) (.tmp 38)), oM 8 39, oM 9 40])] [5, 20, 36, 37, 38, 39, 40]
abbrev c_50_6 : SCode := .reg [([], [oM 41 9, oD 42 (.un .not (.tmp 41))])] [9, 41]
abbrev c_50_7 : SCode := .reg [([], [oD 43 (.build [(.int .i64 0), (.int .i64 0), (.string ⟨#[]⟩), (.slice none 0 0)] []), oM 44 8, oN (.st 4 (.tmp 2) (.tmp 43)), oN (.st 1 (.tmp 3) (.tmp 44)), oN (.st 1 (.tmp 4) (.val (.int .i64 50)))])] [7, 8, 42, 43, 44]
abbrev c_50_8 : SCode := .reg [([2184, 2185, 2186, 2187], [oL 45 true 4 7, oD 46 (.call 18 0 [.tmp 45]), oD 47 (.un .not (.tmp 46))])] [8, 42, 45, 46]
abbrev c_50_9 : SCode := .reg [([], [oD 48 (.build [(.int .i64 0), (.int .i64 0), (.string ⟨#[]⟩), (.slice none 0 0)] []), oN (.st 4 (.tmp 2) (.tmp 48)), oN (.st 1 (.tmp 3) (.val (.int .i64 0))), oN (.st 1 (.tmp 4) (.val (.int .i64 51)))])] [7, 47, 48]
abbrev c_50_10 : SCode := .reg [([], [oL 49 true 4 7, oN (.st 4 (.tmp 2) (.tmp 49)), oN (.st 1 (.tmp 3) (.val (.int .i64 0))), oN (.st 1 (.tmp 4) (.val (.int .i64 0)))])] [7, 47, 49]
noncomputable abbrev F_50 : SFunc := ⟨50, (.seq c_50_0 (.seq (.seq c_50_1 (.cond (.tmp 12) (.seq c_50_2 .ret) .skip)) (.seq c_50_3 (.seq (.seq c_50_4 (.block 0 (.raw 50 (rawOf Go.Proofs.Tryz.prog 17 0)))) (.seq c_50_5 (.seq (.seq c_50_6 (.cond (.tmp 42) (.seq c_50_7 .ret) .skip)) (.seq (.seq c_50_8 (.cond (.tmp 47) (.seq c_50_9 .ret) .skip)) (.seq c_50_10 .ret)))))))), [.cell true 4 2, .cell false 1 3, .cell false 1 4], false⟩
theorem tf_50 : transFunc Go.Proofs.Tryz.prog 17 (hintT [(17, 0), (20, 0), (32, 0), (37, 1), (46, 0)]) (fpT []) (killT [(1, [10, 11]), (2, [0, 12, 13]), (3, [12, 14, 15, 16, 17, 18]), (4, [0, 19]), (9, [5, 20, 36, 37, 38, 39, 40]), (10, [9, 41]), (11, [7, 8, 42, 43, 44]), (12, [8, 42, 45, 46]), (13, [7, 47, 48]), (14, [7, 47, 49])]) false = some F_50 := by kernel_rfl
abbrev c_51_0 : SCode := .reg [([1], [oD 1 (.box (.tmp 0)), oD 2 (.mov (.val (.bool false)))])] [0, 2]
abbrev c_51_1 : SCode := .reg [([2016, 2017, 2018, 2019, 3], [oD 4 (.call 59 0 []), oD 5 (.build [(.map none), (.int .i64 0)] [(0, 1, (.tmp 4))]), oD 3 (.new [(.map none), (.int .i64 0)]), oN (.st 2 (.tmp 3) (.tmp 5))])] [4, 5]
abbrev c_51_2 : SCode := .reg [([2028, 2029, 2030, 2031], [oL 6 true 4 1, oD 7 (.call 63 1 [.tmp 3, .tmp 6, .val (.int .i64 1)]), oM 2 7])] [1, 3, 6, 7]
abbrev F_51 : SFunc := ⟨8, (.seq c_51_0 (.seq c_51_1 (.seq c_51_2 .ret))), [.tmp 2], false⟩
theorem tf_51 : transFunc Go.Proofs.Tryz.prog 18 (hintT [(4, 0), (7, 1)]) (fpT []) (killT (klN 0 F_51.code.kl)) false = some F_51 := by kernel_rfl
abbrev c_53_0 : SCode := .reg [([1], [oD 1 (.box (.tmp 0)), oD 2 (.mov (.val .nilFunc))])] [0, 2]
abbrev c_53_1 : SCode := .reg [([], [oD 3 (.mkf (.func 107) [] [.tmp 1]), oM 2 3])] [1, 3]
abbrev F_53 : SFunc := ⟨4, (.seq c_53_0 (.seq c_53_1 .ret)), [.tmp 2], false⟩
theorem tf_53 : transFunc Go.Proofs.Tryz.prog 61 (hintT []) (fpT []) (killT (klN 0 F_53.code.kl)) false = some F_53 := by kernel_rfl
abbrev c_3_0 : SCode := .reg [([4], [oD 4 (.box (.tmp 1)), oD 6 (.mov (.val (.bool false)))])] [1, 6]
abbrev c_3_1 : SCode := .reg [([], [oM 9 0, oD 10 (.nchk (.tmp 9)), oD 11 (.fldA 1 (.tmp 10)), oL 12 false 1 11, oD 13 (.bin .add 3 (.tmp 12) (.val (.int .i64 1))), oD 14 (.nchk (.tmp 9)), oD 15 (.fldA 1 (.tmp 14)), oN (.st 1 (.tmp 15) (.tmp 13))])] [9, 10, 11, 12, 13, 14, 15]
abbrev c_3_2 : SCode := .reg [([2112, 2113, 2114, 2115], [oM 16 2, oD 17 (.bin .gtr 3 (.tmp 16) (.val (.int .i64 8))), oM 18 17, oH 19 18 false 0, oG 20 18 false (.nchk (.tmp 19)), oG 21 18 false (.fldA 1 (.tmp 20)), oG 22 18 false (.ld false 1 (.tmp 21)), oG 23 18 false (.bin .gtr 3 (.tmp 22) (.val (.int .i64 40))), oQ 24 18 23 true, oM 25 24, oH 26 25 false 0, oG 27 25 false (.ld true 4 (.tmp 4)), oG 28 25 false (.call 112 1 [.tmp 26, .tmp 27]), oG 29 25 false (.un .not (.tmp 28)), oQ 30 25 29 true])] [16, 17, 18, 19, 20, 21, 22, 23, 24, 25, 26, 27, 28, 29]
abbrev c_3_3 : SCode := .reg [([], [oD 6 (.mov (.val (.bool false)))])] [0, 2, 4, 30]
abbrev c_3_4 : SCode := .reg [([], [oD 31 (.fldA 3 (.tmp 4)), oL 32 false 1 31, oD 33 (.len (.tmp 32)), oD 34 (.mov (.val (.int .i64 0)))])] [4, 6, 30, 31]
abbrev c_3_5 : SCode := .reg [([], [oD 35 (.bin .lss 3 (.tmp 34) (.tmp 33))])] []
abbrev c_3_6 : SCode := .reg [([8], [oD 36 (.idxA 4 (.tmp 32) (.tmp 34)), oL 37 true 4 36, oD 8 (.new [(.int .i64 0), (.int .i64 0), (.string ⟨#[]⟩), (.slice none 0 0)]), oN (.st 4 (.tmp 8) (.tmp 37))])] [35, 36, 37]
abbrev c_3_7 : SCode := .reg [([2168, 2169, 2170, 2171], [oM 38 0, oL 39 true 4 8, oM 40 2, oD 41 (.bin .add 3 (.tmp 40) (.val (.int .i64 1))), oD 42 (.call 63 1 [.tmp 38, .tmp 39, .tmp 41]), oD 43 (.un .not (.tmp 42))])] [8, 38, 39, 40, 41, 42]
abbrev c_3_8 : SCode := .reg [([], [oD 6 (.mov (.val (.bool false)))])] [0, 2, 32, 33, 34, 43]
abbrev c_3_9 : SCode := .reg [([], [oD 44 (.bin .add 3 (.tmp 34) (.val (.int .i64 1))), oM 34 44])] [6, 43, 44]
abbrev c_3_10 : SCode := (.seq c_3_5 (.seq (.cond (.tmp 35) .skip (.exit 0)) (.seq (.block 1 (.seq c_3_6 (.seq c_3_7 (.cond (.tmp 43) (.seq c_3_8 .ret) .skip)))) c_3_9)))
abbrev c_3_11 : SCode := .reg [([], [oD 6 (.mov (.val (.bool true)))])] [0, 2, 32, 33, 34]
abbrev F_3 : SFunc := ⟨45, (.seq c_3_0 (.seq c_3_1 (.seq (.seq c_3_2 (.cond (.tmp 30) (.seq c_3_3 .ret) .skip)) (.seq (.seq c_3_4 (.block 0 (.loop c_3_10))) (.seq c_3_11 .ret))))), [.tmp 6], false⟩
theorem tf_3 : transFunc Go.Proofs.Tryz.prog 63 (hintT [(28, 1), (42, 1)]) (fpT []) (killT (klN 0 F_3.code.kl)) false = some F_3 := by kernel_rfl
abbrev c_expr_pieces_1_0 : SCode := .reg [([], [oD 3 (.mov (.val (.int .i64 0)))])] []
abbrev c_expr_pieces_1_1 : SCode := .reg [([], [oM 6 3, oL 7 false 1 1, oD 8 (.slen (.tmp 7)), oD 9 (.bin .lss 3 (.tmp 6) (.tmp 8)), oM 10 9, oG 11 10 true (.ld false 1 (.tmp 1)), oH 12 10 true 3, oG 13 10 true (.sidx (.tmp 11) (.tmp 12)), oG 14 10 true (.bin .eql 5 (.tmp 13) (.val (.int .u8 32))), oP 15 10 14 false])] [6, 7, 8, 9, 10, 11, 12, 13, 14]
abbrev c_expr_pieces_1_2 : SCode := .reg [([], [oM 16 3, oD 17 (.bin .add 3 (.tmp 16) (.val (.int .i64 1))), oM 3 17])] [15, 16, 17]
abbrev c_expr_pieces_1_3 : SCode := (.seq (.seq c_expr_pieces_1_1 (.cond (.tmp 15) .skip (.exit 2))) (.block 3 c_expr_pieces_1_2))
abbrev c_expr_pieces_1_4 : SCode := .reg [([], [oM 18 3, oL 19 false 1 1, oD 20 (.slen (.tmp 19)), oD 21 (.bin .eql 3 (.tmp 18) (.tmp 20))])] [18, 19, 20]
abbrev c_expr_pieces_1_5 : SCode := .reg [([2104, 2105, 2106, 2107, 4], [oL 23 false 1 1, oM 24 3, oD 25 (.ssub (.tmp 23) (some (.tmp 24)) none), oD 26 (.call 108 0 [.tmp 25]), oM 22 26, oD 27 (.ext (.tmp 22) 0), oD 28 (.ext (.tmp 22) 1), oD 4 (.new [(.int .i64 0), (.int .i64 0), (.string ⟨#[]⟩), (.int .i64 0)]), oN (.st 4 (.tmp 4) (.tmp 27)), oM 5 28])] [21, 22, 23, 24, 25, 26, 27, 28]
abbrev c_expr_pieces_1_6 : SCode := .reg [([], [oM 29 3, oD 30 (.fldA 3 (.tmp 4)), oN (.st 1 (.tmp 30) (.tmp 29))])] [29, 30]
abbrev c_expr_pieces_1_8 : SCode := .reg [([], [oM 39 3, oM 40 5, oD 41 (.bin .add 3 (.tmp 39) (.tmp 40)), oM 3 41])] [5, 38, 39, 40, 41]
abbrev c_54_0 : SCode := .reg [([2], [oD 2 (.new [(.int .i64 0), (.int .i64 0), (.string ⟨#[]⟩), (.int .i64 0)]), oD 3 (.mov (.val (.int .i64 0)))])] [3]
abbrev c_54_1 : SCode := .reg [([], [oM 6 0, oD 7 (.sidx (.tmp 6) (.val (.int .i64 0))), oM 4 7])] [6, 7]
abbrev c_54_2 : SCode := .reg [([], [oM 9 4, oD 10 (.bin .geq 5 (.tmp 9) (.val (.int .u8 48))), oM 11 10, oH 12 11 true 4, oG 13 11 true (.bin .leq 5 (.tmp 12) (.val (.int .u8 57))), oP 14 11 13 false, oM 8 14])] [9, 10, 11, 12, 13, 14]
abbrev c_54_3 : SCode := .reg [([2064, 2065, 2066, 2067], [oM 15 0, oD 16 (.call 170 0 [.tmp 15]), oD 17 (.ext (.tmp 16) 0), oD 18 (.ext (.tmp 16) 1), oN (.st 4 (.tmp 2) (.tmp 17)), oM 3 18])] [0, 4, 8, 15, 16, 17, 18]
abbrev c_54_4 : SCode := .reg [([], [oM 20 4, oD 21 (.bin .geq 5 (.tmp 20) (.val (.int .u8 97))), oM 22 21, oH 23 22 true 4, oG 24 22 true (.bin .leq 5 (.tmp 23) (.val (.int .u8 122))), oP 25 22 24 false, oM 19 25])] [8, 20, 21, 22, 23, 24, 25]
abbrev c_54_5 : SCode := .reg [([2108, 2109, 2110, 2111], [oM 26 0, oD 27 (.call 171 0 [.tmp 26]), oD 28 (.ext (.tmp 27) 0), oD 29 (.ext (.tmp 27) 1), oN (.st 4 (.tmp 2) (.tmp 28)), oM 3 29])] [0, 4, 19, 26, 27, 28, 29]
abbrev c_54_6 : SCode := .reg [([], [oM 31 4, oD 32 (.bin .eql 5 (.tmp 31) (.val (.int .u8 34))), oM 30 32])] [4, 19, 31, 32]
abbrev c_54_7 : SCode := .reg [([2136, 2137, 2138, 2139], [oM 33 0, oD 34 (.call 172 0 [.tmp 33]), oD 35 (.ext (.tmp 34) 0), oD 36 (.ext (.tmp 34) 1), oN (.st 4 (.tmp 2) (.tmp 35)), oM 3 36])] [0, 30, 33, 34, 35, 36]
abbrev c_54_8 : SCode := .reg [([2156, 2157, 2158, 2159], [oM 37 0, oD 38 (.bsl 1 [.val (.string ⟨#[61]⟩), .val (.string ⟨#[60, 62]⟩), .val (.string ⟨#[60]⟩), .val (.string ⟨#[60, 61]⟩), .val (.string ⟨#[62]⟩), .val (.string ⟨#[62, 61]⟩), .val (.string ⟨#[38]⟩), .val (.string ⟨#[43]⟩), .val (.string ⟨#[45]⟩), .val (.string ⟨#[42]⟩), .val (.string ⟨#[47]⟩), .val (.string ⟨#[37]⟩), .val (.string ⟨#[40]⟩), .val (.string ⟨#[41]⟩), .val (.string ⟨#[44]⟩)]), oD 39 (.call 173 0 [.tmp 37, .tmp 38]), oM 5 39])] [0, 3, 30, 37, 38, 39]
abbrev c_54_9 : SCode := .reg [([], [oM 40 5, oD 41 (.bin .eql 9 (.tmp 40) (.val (.string ⟨#[]⟩)))])] [40]
abbrev c_54_10 : SCode := .reg [([], [oD 42 (.build [(.int .i64 0), (.int .i64 0), (.string ⟨#[]⟩), (.int .i64 0)] []), oN (.st 4 (.tmp 2) (.tmp 42)), oD 3 (.mov (.val (.int .i64 0)))])] [5, 41, 42]
abbrev c_54_11 : SCode := .reg [([], [oM 43 5, oD 44 (.build [(.int .i64 0), (.int .i64 0), (.string ⟨#[]⟩), (.int .i64 0)] [(0, 1, (.val (.int .i64 4))), (2, 1, (.tmp 43))]), oM 45 5, oD 46 (.slen (.tmp 45)), oN (.st 4 (.tmp 2) (.tmp 44)), oM 3 46])] [5, 41, 43, 44, 45, 46]
abbrev F_54 : SFunc := ⟨47, (.seq c_54_0 (.seq (.seq c_54_1 (.block 0 (.seq c_54_2 (.cond (.tmp 8) (.seq c_54_3 .ret) (.seq c_54_4 (.cond (.tmp 19) (.seq c_54_5 .ret) (.seq c_54_6 (.cond (.tmp 30) (.seq c_54_7 .ret) .skip)))))))) (.seq c_54_8 (.seq (.seq c_54_9 (.cond (.tmp 41) (.seq c_54_10 .ret) .skip)) (.seq c_54_11 .ret))))), [.cell true 4 2, .tmp 3], false⟩
theorem tf_54 : transFunc Go.Proofs.Tryz.prog 108 (hintT [(16, 0), (27, 0), (34, 0), (38, 0), (39, 0)]) (fpT []) (killT (klN 0 F_54.code.kl)) false = some F_54 := by kernel_rfl
abbrev c_4_0 : SCode := .reg [([4], [oD 4 (.new [(.int .i64 0), (.int .i64 0), (.string ⟨#[]⟩), (.slice none 0 0)])])] []
abbrev c_4_1 : SCode := .regq [([2036, 2037, 2038, 2039, 5], [oM 8 0, oD 9 (.call 174 3 [.tmp 8]), oD 5 (.new [(.int .i64 0), (.int .i64 0), (.string ⟨#[]⟩), (.slice none 0 0)]), oN (.st 4 (.tmp 5) (.tmp 9))])] [8, 9, 9999]
abbrev c_4_2 : SCode := .reg [([2052, 2053, 2054, 2055, 6], [oM 10 0, oD 11 (.nchk (.tmp 10)), oD 12 (.fldA 0 (.tmp 11)), oD 13 (.call 111 1 [.tmp 12]), oD 6 (.new [(.int .i64 0), (.int .i64 0), (.string ⟨#[]⟩), (.int .i64 0)]), oN (.st 4 (.tmp 6) (.tmp 13))])] [10, 11, 12, 13]
abbrev c_4_3 : SCode := .reg [([], [oM 14 0, oD 15 (.nchk (.tmp 14)), oD 16 (.fldA 3 (.tmp 15)), oL 17 false 1 16, oD 18 (.fldA 2 (.tmp 6)), oL 19 false 1 18, oD 20 (.lkp true (.int .i64 0) (.tmp 17) (.tmp 19)), oM 7 20])] [14, 15, 16, 17, 18, 19, 20]
abbrev c_4_4 : SCode := .reg [([], [oD 21 (.fldA 0 (.tmp 6)), oL 22 false 1 21, oD 23 (.bin .neq 3 (.tmp 22) (.val (.int .i64 4))), oM 24 23, oH 25 24 false 7, oH 26 24 false 1, oG 27 24 false (.bin .lss 3 (.tmp 25) (.tmp 26)), oQ 28 24 27 true])] [21, 22, 23, 24, 25, 26, 27]
abbrev c_4_5 : SCode := .reg [([], [oL 29 true 4 5, oN (.st 4 (.tmp 4) (.tmp 29))])] [0, 1, 5, 6, 7, 28, 29]
abbrev c_4_6 : SCode := .reg [([], [oM 30 0, oD 31 (.nchk (.tmp 30)), oD 32 (.fldA 0 (.tmp 31)), oD 33 (.fldA 1 (.tmp 32)), oL 34 false 1 33, oD 35 (.bin .add 3 (.tmp 34) (.val (.int .i64 1))), oD 36 (.nchk (.tmp 30)), oD 37 (.fldA 0 (.tmp 36)), oD 38 (.fldA 1 (.tmp 37)), oN (.st 1 (.tmp 38) (.tmp 35))])] [28, 30, 31, 32, 33, 34, 35, 36, 37, 38]
abbrev c_4_7 : SCode := .regq [([2180, 2181, 2182, 2183], [oD 39 (.fldA 2 (.tmp 6)), ⟨(some 40), none, (some 6), .ld false 1 (.tmp 39)⟩, ⟨(some 41), none, (some 5), .ld true 4 (.tmp 5)⟩, oM 42 0, oM 43 7, oD 44 (.bin .add 3 (.tmp 43) (.val (.int .i64 1))), ⟨(some 45), none, (some 1000), .call 110 3 [.tmp 42, .tmp 44]⟩, oD 46 (.bsl 4 [.tmp 41, .tmp 45]), oD 47 (.build [(.int .i64 0), (.int .i64 0), (.string ⟨#[]⟩), (.slice none 0 0)] [(0, 1, (.val (.int .i64 4))), (2, 1, (.tmp 40)), (3, 1, (.tmp 46))]), ⟨none, none, (some 5), .st 4 (.tmp 5) (.tmp 47)⟩])] [6, 7, 39, 40, 41, 42, 43, 44, 45, 46, 47, 9999]
abbrev c_4_8 : SCode := (.block 1 (.seq c_4_2 (.seq c_4_3 (.seq (.seq c_4_4 (.cond (.tmp 28) (.seq c_4_5 .ret) .skip)) (.seq c_4_6 c_4_7)))))
abbrev F_4 : SFunc := ⟨48, (.seq c_4_0 (.seq c_4_1 (.block 0 (.loop c_4_8)))), [.cell true 4 4], false⟩
theorem tf_4 : transFunc Go.Proofs.Tryz.prog 110 (hintT [(9, 3), (13, 1), (45, 3), (46, 0)]) (fpT [(7, [[(1, 6), (2, 5), (9, 5), (6, 1000)]])]) (killT (klN 0 F_4.code.kl)) false = some F_4 := by kernel_rfl
abbrev c_8_0 : SCode := .reg [([2], [oD 2 (.new [(.int .i64 0), (.int .i64 0), (.string ⟨#[]⟩), (.int .i64 0)])])] []
abbrev c_8_1 : SCode := .reg [([], [oM 3 0, oD 4 (.nchk (.tmp 3)), oD 5 (.fldA 1 (.tmp 4)), oL 6 false 1 5, oM 7 0, oD 8 (.nchk (.tmp 7)), oD 9 (.fldA 0 (.tmp 8)), oL 10 false 1 9, oD 11 (.len (.tmp 10)), oD 12 (.bin .lss 3 (.tmp 6) (.tmp 11))])] [3, 4, 5, 6, 7, 8, 9, 10, 11]
abbrev c_8_2 : SCode := .reg [([], [oM 13 0, oD 14 (.nchk (.tmp 13)), oD 15 (.fldA 0 (.tmp 14)), oL 16 false 1 15, oM 17 0, oD 18 (.nchk (.tmp 17)), oD 19 (.fldA 1 (.tmp 18)), oL 20 false 1 19, oD 21 (.idxA 4 (.tmp 16) (.tmp 20)), oL 22 true 4 21, oN (.st 4 (.tmp 2) (.tmp 22))])] [0, 12, 13, 14, 15, 16, 17, 18, 19, 20, 21, 22]
abbrev c_8_3 : SCode := .reg [([], [oM 23 0, oD 24 (.nchk (.tmp 23)), oD 25 (.fldA 2 (.tmp 24)), oL 26 false 1 25, oD 27 (.build [(.int .i64 0), (.int .i64 0), (.string ⟨#[]⟩), (.int .i64 0)] [(3, 1, (.tmp 26))]), oN (.st 4 (.tmp 2) (.tmp 27))])] [0, 12, 23, 24, 25, 26, 27]
abbrev F_8 : SFunc := ⟨28, (.seq c_8_0 (.seq (.seq c_8_1 (.cond (.tmp 12) (.seq c_8_2 .ret) .skip)) (.seq c_8_3 .ret))), [.cell true 4 2], false⟩
theorem tf_8 : transFunc Go.Proofs.Tryz.prog 111 (hintT []) (fpT []) (killT (klN 0 F_8.code.kl)) false = some F_8 := by kernel_rfl
abbrev c_2_0 : SCode := .reg [([3], [oD 3 (.box (.tmp 1)), oD 4 (.mov (.val (.bool false)))])] [1, 4]
abbrev c_2_1 : SCode := .reg [([], [oD 5 (.fldA 0 (.tmp 3)), oL 6 false 1 5, oD 7 (.bin .neq 3 (.tmp 6) (.val (.int .i64 1))), oM 8 7, oG 9 8 true (.fldA 1 (.tmp 3)), oG 10 8 true (.ld false 1 (.tmp 9)), oG 11 8 true (.bin .neq 3 (.tmp 10) (.val (.int .i64 0))), oP 12 8 11 false])] [5, 6, 7, 8, 9, 10, 11]
abbrev c_2_2 : SCode := .reg [([], [oD 4 (.mov (.val (.bool false)))])] [0, 3, 12]
abbrev c_2_3 : SCode := .reg [([], [oD 13 (.fldA 0 (.tmp 3)), oL 14 false 1 13])] [4, 12, 13]
abbrev c_2_4 : SCode := .reg [([], [oD 16 (.bin .eql 3 (.tmp 14) (.val (.int .i64 1))), oM 15 16])] [16]
abbrev c_2_5 : SCode := .reg [([], [oD 17 (.fldA 1 (.tmp 3)), oL 18 false 1 17, oD 19 (.bin .geq 3 (.tmp 18) (.val (.int .i64 0))), oM 20 19, oG 21 20 true (.fldA 1 (.tmp 3)), oG 22 20 true (.ld false 1 (.tmp 21)), oG 23 20 true (.bin .leq 3 (.tmp 22) (.val (.int .i64 1000000000000000))), oP 24 20 23 false, oM 25 24, oG 26 25 true (.fldA 2 (.tmp 3)), oG 27 25 true (.ld false 1 (.tmp 26)), oG 28 25 true (.bin .eql 9 (.tmp 27) (.val (.string ⟨#[]⟩))), oP 29 25 28 false, oM 30 29, oG 31 30 true (.fldA 3 (.tmp 3)), oG 32 30 true (.ld false 1 (.tmp 31)), oG 33 30 true (.len (.tmp 32)), oG 34 30 true (.bin .eql 3 (.tmp 33) (.val (.int .i64 0))), oP 35 30 34 false, oM 4 35])] [0, 3, 14, 15, 17, 18, 19, 20, 21, 22, 23, 24, 25, 26, 27, 28, 29, 30, 31, 32, 33, 34, 35]
abbrev c_2_6 : SCode := .reg [([], [oD 37 (.bin .eql 3 (.tmp 14) (.val (.int .i64 2))), oM 36 37])] [15, 37]
abbrev c_2_7 : SCode := .reg [([2160, 2161, 2162, 2163], [oD 38 (.fldA 2 (.tmp 3)), oL 39 false 1 38, oD 40 (.call 175 0 [.tmp 39]), oM 41 40, oG 42 41 true (.fldA 3 (.tmp 3)), oG 43 41 true (.ld false 1 (.tmp 42)), oG 44 41 true (.len (.tmp 43)), oG 45 41 true (.bin .eql 3 (.tmp 44) (.val (.int .i64 0))), oP 46 41 45 false, oM 4 46])] [0, 3, 14, 36, 38, 39, 40, 41, 42, 43, 44, 45, 46]
abbrev c_2_8 : SCode := .reg [([], [oD 48 (.bin .eql 3 (.tmp 14) (.val (.int .i64 3))), oM 47 48])] [36, 48]
abbrev c_2_9 : SCode := .reg [([2204, 2205, 2206, 2207], [oD 49 (.fldA 2 (.tmp 3)), oL 50 false 1 49, oD 51 (.call 176 0 [.tmp 50]), oM 52 51, oG 53 52 true (.fldA 3 (.tmp 3)), oG 54 52 true (.ld false 1 (.tmp 53)), oG 55 52 true (.len (.tmp 54)), oG 56 52 true (.bin .eql 3 (.tmp 55) (.val (.int .i64 0))), oP 57 52 56 false, oM 4 57])] [0, 3, 14, 47, 49, 50, 51, 52, 53, 54, 55, 56, 57]
abbrev c_2_10 : SCode := .reg [([], [oD 59 (.bin .eql 3 (.tmp 14) (.val (.int .i64 4))), oM 58 59])] [47, 59]
abbrev c_2_11 : SCode := .reg [([], [oM 60 0, oD 61 (.nchk (.tmp 60)), oD 62 (.fldA 0 (.tmp 61)), oL 63 false 1 62, oD 64 (.fldA 2 (.tmp 3)), oL 65 false 1 64, oD 66 (.lkp true (.int .i64 0) (.tmp 63) (.tmp 65)), oD 67 (.bin .gtr 3 (.tmp 66) (.val (.int .i64 0))), oM 68 67, oG 69 68 true (.fldA 3 (.tmp 3)), oG 70 68 true (.ld false 1 (.tmp 69)), oG 71 68 true (.len (.tmp 70)), oG 72 68 true (.bin .eql 3 (.tmp 71) (.val (.int .i64 2))), oP 73 68 72 false, oM 4 73])] [0, 3, 14, 58, 60, 61, 62, 63, 64, 65, 66, 67, 68, 69, 70, 71, 72, 73]
abbrev c_2_12 : SCode := .reg [([], [oD 75 (.bin .eql 3 (.tmp 14) (.val (.int .i64 5))), oM 74 75])] [0, 58, 75]
abbrev c_2_13 : SCode := .reg [([], [oD 76 (.fldA 2 (.tmp 3)), oL 77 false 1 76, oD 78 (.bin .eql 9 (.tmp 77) (.val (.string ⟨#[45]⟩))), oM 79 78, oG 80 79 true (.fldA 3 (.tmp 3)), oG 81 79 true (.ld false 1 (.tmp 80)), oG 82 79 true (.len (.tmp 81)), oG 83 79 true (.bin .eql 3 (.tmp 82) (.val (.int .i64 1))), oP 84 79 83 false, oM 4 84])] [3, 14, 74, 76, 77, 78, 79, 80, 81, 82, 83, 84]
abbrev c_2_14 : SCode := .reg [([], [oD 86 (.bin .eql 3 (.tmp 14) (.val (.int .i64 6))), oM 85 86])] [14, 74, 86]
abbrev c_2_15 : SCode := .reg [([2356, 2357, 2358, 2359, 2388, 2389, 2390, 2391], [oD 87 (.fldA 2 (.tmp 3)), oL 88 false 1 87, oD 89 (.call 177 0 [.tmp 88]), oD 90 (.bin .gtr 3 (.tmp 89) (.val (.int .i64 0))), oM 91 90, oG 92 91 true (.fldA 3 (.tmp 3)), oG 93 91 true (.ld false 1 (.tmp 92)), oG 94 91 true (.len (.tmp 93)), oG 95 91 true (.fldA 2 (.tmp 3)), oG 96 91 true (.ld false 1 (.tmp 95)), oG 97 91 true (.call 177 0 [.tmp 96]), oG 98 91 true (.bin .eql 3 (.tmp 94) (.tmp 97)), oP 99 91 98 false, oM 4 99])] [3, 85, 87, 88, 89, 90, 91, 92, 93, 94, 95, 96, 97, 98, 99]
abbrev c_2_16 : SCode := .reg [([], [oD 4 (.mov (.val (.bool false)))])] [3, 85]
abbrev F_2 : SFunc := ⟨100, (.seq c_2_0 (.seq (.seq c_2_1 (.cond (.tmp 12) (.seq c_2_2 .ret) .skip)) (.seq (.seq c_2_3 (.block 0 (.seq c_2_4 (.cond (.tmp 15) (.seq c_2_5 .ret) (.seq c_2_6 (.cond (.tmp 36) (.seq c_2_7 .ret) (.seq c_2_8 (.cond (.tmp 47) (.seq c_2_9 .ret) (.seq c_2_10 (.cond (.tmp 58) (.seq c_2_11 .ret) (.seq c_2_12 (.cond (.tmp 74) (.seq c_2_13 .ret) (.seq c_2_14 (.cond (.tmp 85) (.seq c_2_15 .ret) .skip)))))))))))))) (.seq c_2_16 .ret)))), [.tmp 4], false⟩
theorem tf_2 : transFunc Go.Proofs.Tryz.prog 112 (hintT [(40, 0), (51, 0), (89, 0), (97, 0)]) (fpT []) (killT (klN 0 F_2.code.kl)) false = some F_2 := by kernel_rfl
abbrev c_56_0 : SCode := .reg [([2], [oD 2 (.new [(.int .i64 0), (.int .i64 0), (.string ⟨#[]⟩), (.int .i64 0)]), oD 3 (.mov (.val (.int .i64 0)))])] [3]
abbrev c_56_1 : SCode := .reg [([], [oD 4 (.mov (.val (.int .i64 0))), oD 5 (.mov (.val (.int .i64 0)))])] []
abbrev c_56_2 : SCode := .reg [([], [oM 6 5, oM 7 0, oD 8 (.slen (.tmp 7)), oD 9 (.bin .lss 3 (.tmp 6) (.tmp 8)), oM 10 9, oH 11 10 true 0, oH 12 10 true 5, oG 13 10 true (.sidx (.tmp 11) (.tmp 12)), oG 14 10 true (.bin .geq 5 (.tmp 13) (.val (.int .u8 48))), oP 15 10 14 false, oM 16 15, oH 17 16 true 0, oH 18 16 true 5, oG 19 16 true (.sidx (.tmp 17) (.tmp 18)), oG 20 16 true (.bin .leq 5 (.tmp 19) (.val (.int .u8 57))), oP 21 16 20 false])] [6, 7, 8, 9, 10, 11, 12, 13, 14, 15, 16, 17, 18, 19, 20]
abbrev c_56_3 : SCode := .reg [([], [oM 22 4, oD 23 (.bin .mul 3 (.val (.int .i64 10)) (.tmp 22)), oM 24 0, oM 25 5, oD 26 (.sidx (.tmp 24) (.tmp 25)), oD 27 (.bin .sub 5 (.tmp 26) (.val (.int .u8 48))), oD 28 (.cvi .i64 (.tmp 27)), oD 29 (.bin .add 3 (.tmp 23) (.tmp 28)), oD 30 (.imm false (.tmp 29) (.val (.int .i64 1000000000000001))), oM 4 30])] [21, 22, 23, 24, 25, 26, 27, 28, 29, 30]
abbrev c_56_4 : SCode := .reg [([], [oM 31 5, oD 32 (.bin .add 3 (.tmp 31) (.val (.int .i64 1))), oM 5 32])] [31, 32]
abbrev c_56_5 : SCode := (.seq (.seq c_56_2 (.cond (.tmp 21) .skip (.exit 0))) (.block 1 (.seq c_56_3 c_56_4)))
abbrev c_56_6 : SCode := .reg [([], [oM 33 4, oD 34 (.bin .gtr 3 (.tmp 33) (.val (.int .i64 1000000000000000)))])] [0, 33]
abbrev c_56_7 : SCode := .reg [([], [oD 35 (.build [(.int .i64 0), (.int .i64 0), (.string ⟨#[]⟩), (.int .i64 0)] []), oN (.st 4 (.tmp 2) (.tmp 35)), oD 3 (.mov (.val (.int .i64 0)))])] [4, 5, 34, 35]
abbrev c_56_8 : SCode := .reg [([], [oM 36 4, oD 37 (.build [(.int .i64 0), (.int .i64 0), (.string ⟨#[]⟩), (.int .i64 0)] [(0, 1, (.val (.int .i64 1))), (1, 1, (.tmp 36))]), oM 38 5, oN (.st 4 (.tmp 2) (.tmp 37)), oM 3 38])] [4, 5, 34, 36, 37, 38]
abbrev F_56 : SFunc := ⟨39, (.seq c_56_0 (.seq c_56_1 (.seq (.block 0 (.loop c_56_5)) (.seq (.seq c_56_6 (.cond (.tmp 34) (.seq c_56_7 .ret) .skip)) (.seq c_56_8 .ret))))), [.cell true 4 2, .tmp 3], false⟩
theorem tf_56 : transFunc Go.Proofs.Tryz.prog 170 (hintT []) (fpT []) (killT (klN 0 F_56.code.kl)) false = some F_56 := by kernel_rfl
abbrev c_55_0 : SCode := .reg [([2], [oD 2 (.new [(.int .i64 0), (.int .i64 0), (.string ⟨#[]⟩), (.int .i64 0)]), oD 3 (.mov (.val (.int .i64 0)))])] [3]
abbrev c_55_1 : SCode := .reg [([], [oD 4 (.mov (.val (.int .i64 0)))])] []
abbrev c_55_2 : SCode := .reg [([], [oM 5 4, oM 6 0, oD 7 (.slen (.tmp 6)), oD 8 (.bin .lss 3 (.tmp 5) (.tmp 7)), oM 9 8, oH 10 9 true 0, oH 11 9 true 4, oG 12 9 true (.sidx (.tmp 10) (.tmp 11)), oG 13 9 true (.bin .geq 5 (.tmp 12) (.val (.int .u8 97))), oH 14 9 true 13, oH 15 14 true 0, oH 16 14 true 4, oG 17 14 true (.sidx (.tmp 15) (.tmp 16)), oG 18 14 true (.bin .leq 5 (.tmp 17) (.val (.int .u8 122))), oG 19 9 true (.pick (.tmp 14) (.tmp 18) (.val (.bool false))), oH 20 9 true 19, oH 21 20 false 0, oH 22 20 false 4, oG 23 20 false (.sidx (.tmp 21) (.tmp 22)), oG 24 20 false (.bin .geq 5 (.tmp 23) (.val (.int .u8 48))), oH 25 20 false 24, oH 26 25 true 0, oH 27 25 true 4, oG 28 25 true (.sidx (.tmp 26) (.tmp 27)), oG 29 25 true (.bin .leq 5 (.tmp 28) (.val (.int .u8 57))), oG 30 20 false (.pick (.tmp 25) (.tmp 29) (.val (.bool false))), oG 31 9 true (.pick (.tmp 20) (.val (.bool true)) (.tmp 30)), oH 32 9 true 31, oH 33 32 false 0, oH 34 32 false 4, oG 35 32 false (.sidx (.tmp 33) (.tmp 34)), oG 36 32 false (.bin .eql 5 (.tmp 35) (.val (.int .u8 95))), oG 37 9 true (.pick (.tmp 32) (.val (.bool true)) (.tmp 36)), oP 38 9 37 false])] [5, 6, 7, 8, 9, 10, 11, 12, 13, 14, 15, 16, 17, 18, 19, 20, 21, 22, 23, 24, 25, 26, 27, 28, 29, 30, 31, 32, 33, 34, 35, 36, 37]
abbrev c_55_3 : SCode := .reg [([], [oM 39 4, oD 40 (.bin .add 3 (.tmp 39) (.val (.int .i64 1))), oM 4 40])] [38, 39, 40]
abbrev c_55_4 : SCode := (.seq (.seq c_55_2 (.cond (.tmp 38) .skip (.exit 0))) (.block 1 c_55_3))
abbrev c_55_5 : SCode := .reg [([2176, 2177, 2178, 2179], [oM 41 0, oM 42 4, oD 43 (.ssub (.tmp 41) none (some (.tmp 42))), oD 44 (.call 176 0 [.tmp 43]), oD 45 (.un .not (.tmp 44))])] [41, 42, 43, 44]
abbrev c_55_6 : SCode := .reg [([], [oD 46 (.build [(.int .i64 0), (.int .i64 0), (.string ⟨#[]⟩), (.int .i64 0)] []), oN (.st 4 (.tmp 2) (.tmp 46)), oD 3 (.mov (.val (.int .i64 0)))])] [0, 4, 45, 46]
abbrev c_55_7 : SCode := .reg [([], [oM 47 0, oM 48 4, oD 49 (.ssub (.tmp 47) none (some (.tmp 48))), oD 50 (.build [(.int .i64 0), (.int .i64 0), (.string ⟨#[]⟩), (.int .i64 0)] [(0, 1, (.val (.int .i64 3))), (2, 1, (.tmp 49))]), oM 51 4, oN (.st 4 (.tmp 2) (.tmp 50)), oM 3 51])] [0, 4, 45, 47, 48, 49, 50, 51]
abbrev F_55 : SFunc := ⟨52, (.seq c_55_0 (.seq c_55_1 (.seq (.block 0 (.loop c_55_4)) (.seq (.seq c_55_5 (.cond (.tmp 45) (.seq c_55_6 .ret) .skip)) (.seq c_55_7 .ret))))), [.cell true 4 2, .tmp 3], false⟩
theorem tf_55 : transFunc Go.Proofs.Tryz.prog 171 (hintT [(44, 0)]) (fpT []) (killT (klN 0 F_55.code.kl)) false = some F_55 := by kernel_rfl
abbrev c_57_0 : SCode := .reg [([2], [oD 2 (.new [(.int .i64 0), (.int .i64 0), (.string ⟨#[]⟩), (.int .i64 0)]), oD 3 (.mov (.val (.int .i64 0)))])] [3]
abbrev c_57_1 : SCode := .reg [([], [oD 4 (.mov (.val (.slice none 0 0)))])] []
abbrev c_57_2 : SCode := .reg [([], [oD 5 (.mov (.val (.int .i64 1)))])] []
abbrev c_57_3 : SCode := .reg [([], [oM 6 5, oM 7 0, oD 8 (.slen (.tmp 7)), oD 9 (.bin .lss 3 (.tmp 6) (.tmp 8))])] [6, 7, 8]
abbrev c_57_4 : SCode := .reg [([], [oM 12 0, oM 13 5, oD 14 (.sidx (.tmp 12) (.tmp 13))])] [9, 12, 13]
abbrev c_57_5 : SCode := .reg [([], [oD 16 (.bin .eql 5 (.tmp 14) (.val (.int .u8 34))), oM 15 16])] [16]
abbrev c_57_6 : SCode := .reg [([2076, 2077, 2078, 2079], [oM 17 4, oD 18 (.b2s (.tmp 17)), oD 19 (.call 175 0 [.tmp 18]), oD 20 (.un .not (.tmp 19))])] [0, 14, 15, 17, 18, 19]
abbrev c_57_7 : SCode := .reg [([], [oD 21 (.build [(.int .i64 0), (.int .i64 0), (.string ⟨#[]⟩), (.int .i64 0)] []), oN (.st 4 (.tmp 2) (.tmp 21)), oD 3 (.mov (.val (.int .i64 0)))])] [4, 5, 20, 21]
abbrev c_57_8 : SCode := .reg [([], [oM 22 4, oD 23 (.b2s (.tmp 22)), oD 24 (.build [(.int .i64 0), (.int .i64 0), (.string ⟨#[]⟩), (.int .i64 0)] [(0, 1, (.val (.int .i64 2))), (2, 1, (.tmp 23))]), oM 25 5, oD 26 (.bin .add 3 (.tmp 25) (.val (.int .i64 1))), oN (.st 4 (.tmp 2) (.tmp 24)), oM 3 26])] [4, 5, 20, 22, 23, 24, 25, 26]
abbrev c_57_9 : SCode := .reg [([], [oD 28 (.bin .eql 5 (.tmp 14) (.val (.int .u8 92))), oM 27 28])] [14, 15, 28]
abbrev c_57_10 : SCode := .reg [([], [oM 29 5, oD 30 (.bin .add 3 (.tmp 29) (.val (.int .i64 1))), oM 5 30])] [27, 29, 30]
abbrev c_57_11 : SCode := .reg [([], [oM 31 5, oM 32 0, oD 33 (.slen (.tmp 32)), oD 34 (.bin .eql 3 (.tmp 31) (.tmp 33)), oM 35 34, oH 36 35 false 0, oH 37 35 false 5, oG 38 35 false (.sidx (.tmp 36) (.tmp 37)), oG 39 35 false (.bin .neq 5 (.tmp 38) (.val (.int .u8 34))), oH 40 35 false 39, oH 41 40 true 0, oH 42 40 true 5, oG 43 40 true (.sidx (.tmp 41) (.tmp 42)), oG 44 40 true (.bin .neq 5 (.tmp 43) (.val (.int .u8 92))), oG 45 35 false (.pick (.tmp 40) (.tmp 44) (.val (.bool false))), oQ 46 35 45 true])] [31, 32, 33, 34, 35, 36, 37, 38, 39, 40, 41, 42, 43, 44, 45]
abbrev c_57_12 : SCode := .reg [([], [oD 47 (.build [(.int .i64 0), (.int .i64 0), (.string ⟨#[]⟩), (.int .i64 0)] []), oN (.st 4 (.tmp 2) (.tmp 47)), oD 3 (.mov (.val (.int .i64 0)))])] [0, 4, 5, 46, 47]
abbrev c_57_13 : SCode := .reg [([], [oM 48 4, oM 49 0, oM 50 5, oD 51 (.sidx (.tmp 49) (.tmp 50)), oD 52 (.bsl 1 [.tmp 51]), oD 53 (.app 5 1 1 (.tmp 48) (.tmp 52)), oM 4 53]), ([53], [oM 48 4, oM 49 0, oM 50 5, oD 51 (.sidx (.tmp 49) (.tmp 50)), oD 52 (.bsl 1 [.tmp 51]), oD 53 (.appN 5 1 1 (.tmp 48) (.tmp 52)), oM 4 53])] [3, 27, 46, 48, 49, 50, 51, 52, 53]
abbrev c_57_14 : SCode := .reg [([], [oM 10 5, oD 11 (.bin .add 3 (.tmp 10) (.val (.int .i64 1))), oM 5 11])] [10, 11]
abbrev c_57_15 : SCode := (.seq (.seq c_57_3 (.cond (.tmp 9) .skip (.exit 0))) (.seq (.block 1 (.seq (.seq c_57_4 (.block 2 (.seq c_57_5 (.cond (.tmp 15) (.seq (.seq c_57_6 (.cond (.tmp 20) (.seq c_57_7 .ret) .skip)) (.seq c_57_8 .ret)) (.seq c_57_9 (.cond (.tmp 27) (.seq c_57_10 (.seq c_57_11 (.cond (.tmp 46) (.seq c_57_12 .ret) .skip))) .skip)))))) c_57_13)) c_57_14))
abbrev c_57_16 : SCode := .reg [([], [oD 54 (.build [(.int .i64 0), (.int .i64 0), (.string ⟨#[]⟩), (.int .i64 0)] []), oN (.st 4 (.tmp 2) (.tmp 54)), oD 3 (.mov (.val (.int .i64 0)))])] [0, 4, 5, 54]
abbrev F_57 : SFunc := ⟨55, (.seq c_57_0 (.seq c_57_1 (.seq (.seq c_57_2 (.block 0 (.loop c_57_15))) (.seq c_57_16 .ret)))), [.cell true 4 2, .tmp 3], false⟩
theorem tf_57 : transFunc Go.Proofs.Tryz.prog 172 (hintT [(19, 0), (52, 0)]) (fpT []) (killT [(0, [3]), (3, [6, 7, 8]), (5, [9, 12, 13]), (6, [16]), (7, [0, 14, 15, 17, 18, 19]), (8, [4, 5, 20, 21]), (9, [4, 5, 20, 22, 23, 24, 25, 26]), (10, [14, 15, 28]), (11, [27, 29, 30]), (12, [31, 32, 33, 34, 35, 36, 37, 38, 39, 40, 41, 42, 43, 44, 45]), (13, [0, 4, 5, 46, 47]), (14, [3, 27, 46, 48, 49, 50, 51, 52, 53]), (4, [10, 11]), (15, [0, 4, 5, 54])]) false = some F_57 := by kernel_rfl
abbrev c_52_0 : SCode := .reg [([], [oD 4 (.mov (.val (.string ⟨#[]⟩)))])] [4]
abbrev c_52_1 : SCode := .reg [([], [oD 5 (.mov (.val (.string ⟨#[]⟩)))])] []
abbrev c_52_2 : SCode := .reg [([], [oM 8 1, oD 9 (.len (.tmp 8)), oD 10 (.mov (.val (.int .i64 0)))])] [1]
abbrev c_52_3 : SCode := .reg [([], [oD 11 (.bin .lss 3 (.tmp 10) (.tmp 9))])] []
abbrev c_52_4 : SCode := .reg [([], [oD 12 (.idxA 1 (.tmp 8) (.tmp 10)), oL 13 false 1 12, oM 7 13])] [11, 12, 13]
abbrev c_52_5 : SCode := .reg [([2064, 2065, 2066, 2067], [oM 14 0, oM 15 7, oD 16 (.call 203 0 [.tmp 14, .tmp 15]), oM 17 16, oH 18 17 true 7, oG 19 17 true (.slen (.tmp 18)), oH 20 17 true 5, oG 21 17 true (.slen (.tmp 20)), oG 22 17 true (.bin .gtr 3 (.tmp 19) (.tmp 21)), oP 23 17 22 false])] [14, 15, 16, 17, 18, 19, 20, 21, 22]
abbrev c_52_6 : SCode := .reg [([], [oM 24 7, oM 5 24])] [7, 23, 24]
abbrev c_52_7 : SCode := .reg [([], [oD 25 (.bin .add 3 (.tmp 10) (.val (.int .i64 1))), oM 10 25])] [7, 23, 25]
abbrev c_52_8 : SCode := (.seq c_52_3 (.seq (.cond (.tmp 11) .skip (.exit 0)) (.seq (.block 1 (.seq c_52_4 (.seq c_52_5 (.cond (.tmp 23) c_52_6 .skip)))) c_52_7)))
abbrev c_52_9 : SCode := .reg [([], [oM 26 5, oM 4 26])] [0, 5, 8, 9, 10, 26]
abbrev F_52 : SFunc := ⟨27, (.seq c_52_0 (.seq c_52_1 (.seq (.seq c_52_2 (.block 0 (.loop c_52_8))) (.seq c_52_9 .ret)))), [.tmp 4], false⟩
theorem tf_52 : transFunc Go.Proofs.Tryz.prog 173 (hintT [(16, 0)]) (fpT []) (killT (klN 0 F_52.code.kl)) false = some F_52 := by kernel_rfl
abbrev c_6_0 : SCode := .reg [([2], [oD 2 (.new [(.int .i64 0), (.int .i64 0), (.string ⟨#[]⟩), (.slice none 0 0)])])] []
abbrev c_6_1 : SCode := .reg [([2036, 2037, 2038, 2039], [oM 6 0, oD 7 (.nchk (.tmp 6)), oD 8 (.fldA 0 (.tmp 7)), oD 9 (.call 204 1 [.tmp 8, .val (.string ⟨#[40]⟩)])])] [6, 7, 8]
abbrev c_6_2 : SCode := .regq [([2044, 2045, 2046, 2047, 3], [oM 10 0, oD 11 (.call 110 3 [.tmp 10, .val (.int .i64 1)]), oD 3 (.new [(.int .i64 0), (.int .i64 0), (.string ⟨#[]⟩), (.slice none 0 0)]), oN (.st 4 (.tmp 3) (.tmp 11))])] [9, 10, 11, 9999]
abbrev c_6_3 : SCode := .regq [([2060, 2061, 2062, 2063], [oM 12 0, oD 13 (.nchk (.tmp 12)), oD 14 (.fldA 0 (.tmp 13)), oD 15 (.call 205 3 [.tmp 14, .val (.string ⟨#[41]⟩)])])] [0, 12, 13, 14, 15, 9999]
abbrev c_6_4 : SCode := .reg [([], [oL 16 true 4 3, oN (.st 4 (.tmp 2) (.tmp 16))])] [3, 16]
abbrev c_6_5 : SCode := .reg [([2080, 2081, 2082, 2083], [oM 17 0, oD 18 (.nchk (.tmp 17)), oD 19 (.fldA 0 (.tmp 18)), oD 20 (.call 204 1 [.tmp 19, .val (.string ⟨#[45]⟩)])])] [9, 17, 18, 19]
abbrev c_6_6 : SCode := .regq [([2088, 2089, 2090, 2091], [oM 21 0, oD 22 (.call 174 3 [.tmp 21]), oD 23 (.bsl 4 [.tmp 22]), oD 24 (.build [(.int .i64 0), (.int .i64 0), (.string ⟨#[]⟩), (.slice none 0 0)] [(0, 1, (.val (.int .i64 5))), (2, 1, (.val (.string ⟨#[45]⟩))), (3, 1, (.tmp 23))]), oN (.st 4 (.tmp 2) (.tmp 24))])] [0, 20, 21, 22, 23, 24, 9999]
abbrev c_6_7 : SCode := .reg [([2112, 2113, 2114, 2115, 4], [oM 25 0, oD 26 (.nchk (.tmp 25)), oD 27 (.fldA 0 (.tmp 26)), oD 28 (.call 111 1 [.tmp 27]), oD 4 (.new [(.int .i64 0), (.int .i64 0), (.string ⟨#[]⟩), (.int .i64 0)]), oN (.st 4 (.tmp 4) (.tmp 28))])] [20, 25, 26, 27, 28]
abbrev c_6_8 : SCode := .reg [([], [oM 29 0, oD 30 (.nchk (.tmp 29)), oD 31 (.fldA 0 (.tmp 30)), oD 32 (.fldA 1 (.tmp 31)), oL 33 false 1 32, oD 34 (.bin .add 3 (.tmp 33) (.val (.int .i64 1))), oD 35 (.nchk (.tmp 29)), oD 36 (.fldA 0 (.tmp 35)), oD 37 (.fldA 1 (.tmp 36)), oN (.st 1 (.tmp 37) (.tmp 34))])] [29, 30, 31, 32, 33, 34, 35, 36, 37]
abbrev c_6_9 : SCode := .reg [([], [oD 38 (.fldA 0 (.tmp 4)), oL 39 false 1 38])] [38]
abbrev c_6_10 : SCode := .reg [([], [oD 41 (.bin .eql 3 (.tmp 39) (.val (.int .i64 1))), oM 40 41])] [41]
abbrev c_6_11 : SCode := .reg [([], [oD 42 (.fldA 1 (.tmp 4)), oL 43 false 1 42, oD 44 (.build [(.int .i64 0), (.int .i64 0), (.string ⟨#[]⟩), (.slice none 0 0)] [(0, 1, (.val (.int .i64 1))), (1, 1, (.tmp 43))]), oN (.st 4 (.tmp 2) (.tmp 44))])] [0, 4, 39, 40, 42, 43, 44]
abbrev c_6_12 : SCode := .reg [([], [oD 46 (.bin .eql 3 (.tmp 39) (.val (.int .i64 2))), oM 45 46])] [40, 46]
abbrev c_6_13 : SCode := .reg [([], [oD 47 (.fldA 2 (.tmp 4)), oL 48 false 1 47, oD 49 (.build [(.int .i64 0), (.int .i64 0), (.string ⟨#[]⟩), (.slice none 0 0)] [(0, 1, (.val (.int .i64 2))), (2, 1, (.tmp 48))]), oN (.st 4 (.tmp 2) (.tmp 49))])] [0, 4, 39, 45, 47, 48, 49]
abbrev c_6_14 : SCode := .reg [([], [oD 51 (.bin .eql 3 (.tmp 39) (.val (.int .i64 3))), oM 50 51])] [39, 45, 51]
abbrev c_6_15 : SCode := .reg [([2216, 2217, 2218, 2219], [oD 52 (.fldA 2 (.tmp 4)), oL 53 false 1 52, oD 54 (.call 177 0 [.tmp 53]), oM 5 54])] [50, 52, 53, 54]
abbrev c_6_16 : SCode := .reg [([2244, 2245, 2246, 2247], [oM 55 5, oD 56 (.bin .gtr 3 (.tmp 55) (.val (.int .i64 0))), oM 57 56, oH 58 57 true 0, oG 59 57 true (.nchk (.tmp 58)), oG 60 57 true (.fldA 0 (.tmp 59)), oG 61 57 true (.call 204 1 [.tmp 60, .val (.string ⟨#[40]⟩)]), oP 62 57 61 false])] [55, 56, 57, 58, 59, 60, 61]
abbrev c_6_17 : SCode := .regq [([2268, 2269, 2270, 2271], [oD 63 (.fldA 2 (.tmp 4)), ⟨(some 64), none, (some 4), .ld false 1 (.tmp 63)⟩, oM 65 0, oM 66 5, ⟨(some 67), none, (some 1000), .call 206 3 [.tmp 65, .tmp 66]⟩, oD 68 (.build [(.int .i64 0), (.int .i64 0), (.string ⟨#[]⟩), (.slice none 0 0)] [(0, 1, (.val (.int .i64 6))), (2, 1, (.tmp 64)), (3, 1, (.tmp 67))]), ⟨none, none, (some 2), .st 4 (.tmp 2) (.tmp 68)⟩])] [0, 4, 5, 62, 63, 64, 65, 66, 67, 68, 9999]
abbrev c_6_18 : SCode := .reg [([], [oD 69 (.fldA 2 (.tmp 4)), oL 70 false 1 69, oD 71 (.build [(.int .i64 0), (.int .i64 0), (.string ⟨#[]⟩), (.slice none 0 0)] [(0, 1, (.val (.int .i64 3))), (2, 1, (.tmp 70))]), oN (.st 4 (.tmp 2) (.tmp 71))])] [0, 4, 5, 62, 69, 70, 71]
abbrev c_6_19 : SCode := .regq [([], [oD 72 (.fldA 3 (.tmp 4)), oL 73 false 1 72, oD 74 (.mkI 168 (.tmp 73)), oN (.pan (.tmp 74))])] [0, 4, 50, 72, 73, 74, 9999]
abbrev F_6 : SFunc := ⟨75, (.seq c_6_0 (.seq (.seq c_6_1 (.cond (.tmp 9) (.seq c_6_2 (.seq c_6_3 (.seq c_6_4 .ret))) .skip)) (.seq (.seq c_6_5 (.cond (.tmp 20) (.seq c_6_6 .ret) .skip)) (.seq c_6_7 (.seq c_6_8 (.seq (.seq c_6_9 (.block 0 (.seq c_6_10 (.cond (.tmp 40) (.seq c_6_11 .ret) (.seq c_6_12 (.cond (.tmp 45) (.seq c_6_13 .ret) (.seq c_6_14 (.cond (.tmp 50) (.seq (.seq c_6_15 (.seq c_6_16 (.cond (.tmp 62) (.seq c_6_17 .ret) .skip))) (.seq c_6_18 .ret)) .skip)))))))) c_6_19)))))), [.cell true 4 2], false⟩
theorem tf_6 : transFunc Go.Proofs.Tryz.prog 174 (hintT [(9, 1), (11, 3), (15, 3), (20, 1), (22, 3), (23, 0), (28, 1), (54, 0), (61, 1), (67, 3)]) (fpT [(17, [[(1, 4), (6, 2), (4, 1000)]])]) (killT (klN 0 F_6.code.kl)) false = some F_6 := by kernel_rfl
abbrev c_59_0 : SCode := .reg [([], [oD 2 (.mov (.val (.bool false)))])] [2]
abbrev c_59_1 : SCode := .reg [([2020, 2021, 2022, 2023], [oM 3 0, oD 4 (.build [(.int .i64 0), (.int .i64 0), (.string ⟨#[]⟩), (.slice none 0 0)] [(0, 1, (.val (.int .i64 2))), (2, 1, (.tmp 3))]), oD 5 (.call 52 0 [.tmp 4]), oM 2 5])] [0, 3, 4, 5]
abbrev F_59 : SFunc := ⟨6, (.seq c_59_0 (.seq c_59_1 .ret)), [.tmp 2], false⟩
theorem tf_59 : transFunc Go.Proofs.Tryz.prog 175 (hintT [(5, 0)]) (fpT []) (killT (klN 0 F_59.code.kl)) false = some F_59 := by kernel_rfl
abbrev c_58_0 : SCode := .reg [([], [oD 2 (.mov (.val (.bool false)))])] [2]
abbrev c_58_1 : SCode := .reg [([2020, 2021, 2022, 2023], [oM 3 0, oD 4 (.build [(.string ⟨#[]⟩), (.slice none 0 0)] [(0, 1, (.tmp 3))]), oD 5 (.call 69 0 [.tmp 4]), oM 2 5])] [0, 3, 4, 5]
abbrev F_58 : SFunc := ⟨6, (.seq c_58_0 (.seq c_58_1 .ret)), [.tmp 2], false⟩
theorem tf_58 : transFunc Go.Proofs.Tryz.prog 176 (hintT [(5, 0)]) (fpT []) (killT (klN 0 F_58.code.kl)) false = some F_58 := by kernel_rfl
abbrev c_60_0 : SCode := .reg [([], [oD 2 (.mov (.val (.int .i64 0)))])] [2]
abbrev c_60_1 : SCode := .reg [([], [oM 3 0])] [0]
abbrev c_60_2 : SCode := .reg [([], [oD 5 (.bin .eql 9 (.tmp 3) (.val (.string ⟨#[108, 101, 110]⟩))), oM 4 5])] [5]
abbrev c_60_3 : SCode := .reg [([], [oD 6 (.bin .eql 9 (.tmp 3) (.val (.string ⟨#[116, 101, 120, 116]⟩))), oM 4 6])] [6]
abbrev c_60_4 : SCode := .reg [([], [oD 7 (.bin .eql 9 (.tmp 3) (.val (.string ⟨#[110, 117, 109]⟩))), oM 4 7])] [7]
abbrev c_60_5 : SCode := .reg [([], [oD 2 (.mov (.val (.int .i64 1)))])] [3, 4]
abbrev c_60_6 : SCode := .reg [([], [oD 9 (.bin .eql 9 (.tmp 3) (.val (.string ⟨#[108, 101, 102, 116]⟩))), oM 8 9])] [4, 9]
abbrev c_60_7 : SCode := .reg [([], [oD 10 (.bin .eql 9 (.tmp 3) (.val (.string ⟨#[114, 105, 103, 104, 116]⟩))), oM 8 10])] [10]
abbrev c_60_8 : SCode := .reg [([], [oD 11 (.bin .eql 9 (.tmp 3) (.val (.string ⟨#[102, 114, 111, 109]⟩))), oM 8 11])] [11]
abbrev c_60_9 : SCode := .reg [([], [oD 12 (.bin .eql 9 (.tmp 3) (.val (.string ⟨#[102, 105, 110, 100]⟩))), oM 8 12])] [12]
abbrev c_60_10 : SCode := .reg [([], [oD 13 (.bin .eql 9 (.tmp 3) (.val (.string ⟨#[109, 105, 110]⟩))), oM 8 13])] [13]
abbrev c_60_11 : SCode := .reg [([], [oD 14 (.bin .eql 9 (.tmp 3) (.val (.string ⟨#[109, 97, 120]⟩))), oM 8 14])] [14]
abbrev c_60_12 : SCode := .reg [([], [oD 2 (.mov (.val (.int .i64 2)))])] [3, 8]
abbrev c_60_13 : SCode := .reg [([], [oD 16 (.bin .eql 9 (.tmp 3) (.val (.string ⟨#[105, 102]⟩))), oM 15 16])] [3, 8, 16]
abbrev c_60_14 : SCode := .reg [([], [oD 2 (.mov (.val (.int .i64 3)))])] [15]
abbrev c_60_15 : SCode := .reg [([], [oD 2 (.mov (.val (.int .i64 0)))])] [15]
abbrev F_60 : SFunc := ⟨17, (.seq c_60_0 (.seq (.seq c_60_1 (.block 0 (.seq (.seq c_60_2 (.cond (.tmp 4) .skip (.seq c_60_3 (.cond (.tmp 4) .skip c_60_4)))) (.cond (.tmp 4) (.seq c_60_5 .ret) (.seq (.seq c_60_6 (.cond (.tmp 8) .skip (.seq c_60_7 (.cond (.tmp 8) .skip (.seq c_60_8 (.cond (.tmp 8) .skip (.seq c_60_9 (.cond (.tmp 8) .skip (.seq c_60_10 (.cond (.tmp 8) .skip c_60_11)))))))))) (.cond (.tmp 8) (.seq c_60_12 .ret) (.seq c_60_13 (.cond (.tmp 15) (.seq c_60_14 .ret) .skip)))))))) (.seq c_60_15 .ret))), [.tmp 2], false⟩
theorem tf_60 : transFunc Go.Proofs.Tryz.prog 177 (hintT []) (fpT []) (killT (klN 0 F_60.code.kl)) false = some F_60 := by kernel_rfl
abbrev c_83_0 : SCode := .reg [([], [oD 4 (.mov (.val (.bool false)))])] [4]
abbrev c_83_1 : SCode := .reg [([2028, 2029, 2030, 2031], [oM 5 0, oM 6 1, oD 7 (.call 223 0 [.tmp 5, .tmp 6]), oM 4 7])] [0, 1, 5, 6, 7]
abbrev F_83 : SFunc := ⟨8, (.seq c_83_0 (.seq c_83_1 .ret)), [.tmp 4], false⟩
theorem tf_83 : transFunc Go.Proofs.Tryz.prog 203 (hintT [(7, 0)]) (fpT []) (killT (klN 0 F_83.code.kl)) false = some F_83 := by kernel_rfl
abbrev c_9_0 : SCode := .reg [([], [oD 4 (.mov (.val (.bool false)))])] [4]
abbrev c_9_1 : SCode := .reg [([2028, 2029, 2030, 2031, 5], [oM 6 0, oD 7 (.call 111 1 [.tmp 6]), oD 5 (.new [(.int .i64 0), (.int .i64 0), (.string ⟨#[]⟩), (.int .i64 0)]), oN (.st 4 (.tmp 5) (.tmp 7))])] [6, 7]
abbrev c_9_2 : SCode := .reg [([], [oD 8 (.fldA 0 (.tmp 5)), oL 9 false 1 8, oD 10 (.bin .neq 3 (.tmp 9) (.val (.int .i64 4))), oM 11 10, oG 12 11 false (.fldA 2 (.tmp 5)), oG 13 11 false (.ld false 1 (.tmp 12)), oH 14 11 false 1, oG 15 11 false (.bin .neq 9 (.tmp 13) (.tmp 14)), oQ 16 11 15 true])] [1, 5, 8, 9, 10, 11, 12, 13, 14, 15]
abbrev c_9_3 : SCode := .reg [([], [oD 4 (.mov (.val (.bool false)))])] [0, 16]
abbrev c_9_4 : SCode := .reg [([], [oM 17 0, oD 18 (.nchk (.tmp 17)), oD 19 (.fldA 1 (.tmp 18)), oL 20 false 1 19, oD 21 (.bin .add 3 (.tmp 20) (.val (.int .i64 1))), oD 22 (.nchk (.tmp 17)), oD 23 (.fldA 1 (.tmp 22)), oN (.st 1 (.tmp 23) (.tmp 21))])] [0, 4, 16, 17, 18, 19, 20, 21, 22, 23]
abbrev c_9_5 : SCode := .reg [([], [oD 4 (.mov (.val (.bool true)))])] []
abbrev F_9 : SFunc := ⟨24, (.seq c_9_0 (.seq (.seq c_9_1 (.seq c_9_2 (.cond (.tmp 16) (.seq c_9_3 .ret) .skip))) (.seq c_9_4 (.seq c_9_5 .ret)))), [.tmp 4], false⟩
theorem tf_9 : transFunc Go.Proofs.Tryz.prog 204 (hintT [(7, 1)]) (fpT []) (killT (klN 0 F_9.code.kl)) false = some F_9 := by kernel_rfl
abbrev c_7_0 : SCode := .reg [([2024, 2025, 2026, 2027], [oM 4 0, oM 5 1, oD 6 (.call 204 1 [.tmp 4, .tmp 5]), oD 7 (.un .not (.tmp 6))])] [1, 4, 5, 6]
abbrev c_7_1 : SCode := .regq [([2036, 2037, 2038, 2039], [oM 8 0, oD 9 (.call 111 1 [.tmp 8]), oD 10 (.fld false 3 1 (.tmp 9)), oD 11 (.mkI 168 (.tmp 10)), oN (.pan (.tmp 11))])] [0, 7, 8, 9, 10, 11, 9999]
abbrev F_7 : SFunc := ⟨12, (.seq c_7_0 (.cond (.tmp 7) c_7_1 .skip)), [], false⟩
theorem tf_7 : transFunc Go.Proofs.Tryz.prog 205 (hintT [(6, 1), (9, 1)]) (fpT []) (killT (klN 0 F_7.code.kl)) false = some F_7 := by kernel_rfl
abbrev c_5_0 : SCode := .reg [([], [oD 4 (.mov (.val (.slice none 0 0)))])] [4]
abbrev c_5_1 : SCode := .reg [([], [oD 5 (.mov (.val (.slice none 0 0)))])] []
abbrev c_5_2 : SCode := .reg [([], [oM 7 1, oD 8 (.mov (.val (.int .i64 0)))])] [1]
abbrev c_5_3 : SCode := .reg [([], [oD 9 (.bin .lss 3 (.tmp 8) (.tmp 7))])] []
abbrev c_5_4 : SCode := .reg [([], [oM 10 8, oM 6 10])] [9, 10]
abbrev c_5_5 : SCode := .reg [([], [oM 11 6, oD 12 (.bin .gtr 3 (.tmp 11) (.val (.int .i64 0)))])] [6, 11]
abbrev c_5_6 : SCode := .regq [([2064, 2065, 2066, 2067], [oM 13 0, oD 14 (.nchk (.tmp 13)), oD 15 (.fldA 0 (.tmp 14)), oD 16 (.call 205 3 [.tmp 15, .val (.string ⟨#[44]⟩)])])] [12, 13, 14, 15, 16, 9999]
abbrev c_5_7 : SCode := .regq [([2076, 2077, 2078, 2079], [oM 17 5, oM 18 0, oD 19 (.call 110 3 [.tmp 18, .val (.int .i64 1)]), oD 20 (.bsl 4 [.tmp 19]), oD 21 (.app 26 4 56 (.tmp 17) (.tmp 20)), oM 5 21]), ([2076, 2077, 2078, 2079, 21], [oM 17 5, oM 18 0, oD 19 (.call 110 3 [.tmp 18, .val (.int .i64 1)]), oD 20 (.bsl 4 [.tmp 19]), oD 21 (.appN 26 4 56 (.tmp 17) (.tmp 20)), oM 5 21])] [12, 17, 18, 19, 20, 21, 9999]
abbrev c_5_8 : SCode := .reg [([], [oD 22 (.bin .add 3 (.tmp 8) (.val (.int .i64 1))), oM 8 22])] [22]
abbrev c_5_9 : SCode := (.seq c_5_3 (.seq (.cond (.tmp 9) .skip (.exit 0)) (.seq (.block 1 (.seq c_5_4 (.seq (.seq c_5_5 (.cond (.tmp 12) c_5_6 .skip)) c_5_7))) c_5_8)))
abbrev c_5_10 : SCode := .regq [([2104, 2105, 2106, 2107], [oM 23 0, oD 24 (.nchk (.tmp 23)), oD 25 (.fldA 0 (.tmp 24)), oD 26 (.call 205 3 [.tmp 25, .val (.string ⟨#[41]⟩)])])] [0, 7, 8, 23, 24, 25, 26, 9999]
abbrev c_5_11 : SCode := .reg [([], [oM 27 5, oM 4 27])] [5, 27]
abbrev F_5 : SFunc := ⟨28, (.seq c_5_0 (.seq c_5_1 (.seq (.seq c_5_2 (.block 0 (.loop c_5_9))) (.seq c_5_10 (.seq c_5_11 .ret))))), [.tmp 4], false⟩
theorem tf_5 : transFunc Go.Proofs.Tryz.prog 206 (hintT [(16, 3), (19, 3), (20, 0), (26, 3)]) (fpT []) (killT (klN 0 F_5.code.kl)) false = some F_5 := by kernel_rfl
abbrev c_61_0 : SCode := .reg [([], [oD 4 (.mov (.val (.bool false)))])] [4]
abbrev c_61_1 : SCode := .reg [([], [oM 5 0, oD 6 (.slen (.tmp 5)), oM 7 1, oD 8 (.slen (.tmp 7)), oD 9 (.bin .geq 3 (.tmp 6) (.tmp 8)), oM 10 9, oH 11 10 true 0, oH 12 10 true 1, oG 13 10 true (.slen (.tmp 12)), oG 14 10 true (.ssub (.tmp 11) none (some (.tmp 13))), oH 15 10 true 1, oG 16 10 true (.bin .eql 9 (.tmp 14) (.tmp 15)), oP 17 10 16 false, oM 4 17])] [0, 1, 5, 6, 7, 8, 9, 10, 11, 12, 13, 14, 15, 16, 17]
abbrev F_61 : SFunc := ⟨18, (.seq c_61_0 (.seq c_61_1 .ret)), [.tmp 4], false⟩
theorem tf_61 : transFunc Go.Proofs.Tryz.prog 223 (hintT []) (fpT []) (killT (klN 0 F_61.code.kl)) false = some F_61 := by kernel_rfl
end Go.Sh.Cd5
end

section
namespace Go.Mor
open Go
set_option maxHeartbeats 2000000
abbrev T3 := Int × Int × List UInt8
def er (q : Pc) : T3 := (q.k, q.n, q.s)
def sg (s : List UInt8) : T3 := (4, 0, s)
def LexP (t : List UInt8) (ts : List T3) (post : List UInt8) : Prop :=
 ∀ (f a : Nat) (acc : List Pc), t.length + post.length < f → ∃ f' L, post.length < f' ∧ L.map er = ts ∧ lexG f (t ++ post) a acc = lexG f' post (a + t.length) (acc ++ L)
theorem LexP.nil (post : List UInt8) : LexP [] [] post := fun f a acc h => ⟨f, [], by simpa using h, rfl, by simp⟩
theorem LexP.app {t1 t2 : List UInt8} {ts1 ts2 : List T3} {post : List UInt8} (h1 : LexP t1 ts1 (t2 ++ post)) (h2 : LexP t2 ts2 post) : LexP (t1 ++ t2) (ts1 ++ ts2) post := by
 intro f a acc hf
 obtain ⟨f1, L1, a1, a2, a3⟩ := h1 f a acc (by simp only [List.length_append] at hf ⊢; omega)
 obtain ⟨f2, L2, b1, b2, b3⟩ := h2 f1 (a + t1.length) (acc ++ L1) (by simpa using a1)
 refine ⟨f2, L1 ++ L2, b1, by rw [List.map_append, a2, b2], ?_⟩
 rw [List.append_assoc, a3, b3, List.append_assoc, List.length_append, Nat.add_assoc]
theorem LexP.one {t : List UInt8} {q : T3} {post : List UInt8} {b : UInt8} {r : List UInt8} (ht : t = b :: r) (hb : b ≠ 32) (h : ∀ a, ∃ p, readP (t ++ post) a = some (p, t.length) ∧ er p = q) : LexP t [q] post := by
 intro f a acc hf
 obtain ⟨f, rfl⟩ : ∃ g, f = g + 1 := ⟨f - 1, by omega⟩
 obtain ⟨p, h1, h2⟩ := h a
 refine ⟨f, [p], by subst ht; simp at hf; omega, by simp [h2], ?_⟩
 subst ht
 rw [List.cons_append] at h1 ⊢
 rw [lexG]
 simp only [if_neg hb, h1]
 congr 1
 rw [← List.cons_append, List.drop_left' rfl]
def NoWord (l : List UInt8) : Prop := ∀ c r, l = c :: r → nameB c = false
theorem digB_name {b : UInt8} (h : digB b = true) : nameB b = true := by
 unfold digB at h; unfold nameB
 simp only [decide_eq_true_eq] at h
 simp [h]
theorem numG_end {l : List UInt8} (h : NoWord l) (n : Int) (z : Nat) : numG l n z = (n, z) := by
 cases l with
 | nil => rfl
 | cons c r =>
  have hc := h c r rfl
  rw [numG]
  cases hd : digB c with
  | false => simp
  | true => rw [digB_name hd] at hc; cases hc
theorem digC (d : Nat) (hd : d < 10) : (UInt8.ofNat (48 + d)).toNat = 48 + d := by rw [UInt8.toNat_ofNat']; omega
theorem numG_digits : ∀ (m : Nat), m ≤ 1000000000000000 → ∀ (r : List UInt8) (z : Nat), numG (Lib.decDigits m ++ r) 0 z = numG r m (z + (Lib.decDigits m).length) := by
 have step : ∀ (n d : Nat), d < 10 → 10 * n + d ≤ 1000000000000000 → ∀ r z, numG (UInt8.ofNat (48 + d) :: r) n z = numG r ((10 * n + d : Nat) : Int) (z + 1) := by
  intro n d hd hn r z
  rw [numG, if_pos (by unfold digB; rw [digC d hd]; simp; omega), digC d hd]
  congr 1
  omega
 intro m
 induction m using Nat.strongRecOn with
 | _ m ih =>
  intro h1 r z
  by_cases hm : m < 10
  ·rw [Lib.decDigits_one hm]
   have := step 0 m hm (by omega) r z
   simpa using this
  ·have e0 : Lib.decDigits m = Lib.decDigits (m / 10) ++ [UInt8.ofNat (48 + m % 10)] := by rw [Lib.decDigits, dif_neg hm]
   have e1 := ih (m / 10) (by omega) (by omega) (UInt8.ofNat (48 + m % 10) :: r) z
   have e2 := step (m / 10) (m % 10) (by omega) (by omega) r (z + (Lib.decDigits (m / 10)).length)
   have e3 : 10 * (m / 10) + m % 10 = m := by omega
   rw [e3] at e2
   rw [e0, List.append_assoc, List.singleton_append, e1, e2]
   congr 1
   simp; omega
theorem decDigits_cons (m : Nat) : ∃ c r, Lib.decDigits m = c :: r ∧ digB c = true := by
 induction m using Nat.strongRecOn with
 | _ m ih =>
  by_cases hm : m < 10
  ·exact ⟨UInt8.ofNat (48 + m), [], Lib.decDigits_one hm, by unfold digB; rw [digC m hm]; simp; omega⟩
  ·obtain ⟨c, r, h1, h2⟩ := ih (m / 10) (by omega)
   exact ⟨c, r ++ [UInt8.ofNat (48 + m % 10)], by rw [Lib.decDigits, dif_neg hm, h1]; rfl, h2⟩
theorem lex_num {n : Int} (h0 : 0 ≤ n) (h1 : n ≤ 1000000000000000) {post : List UInt8} (hp : NoWord post) : LexP (Lib.itoa n) [(1, n, [])] post := by
 obtain ⟨m, rfl⟩ := Int.eq_ofNat_of_zero_le h0
 have hi : Lib.itoa (m : Int) = Lib.decDigits m := by unfold Lib.itoa; simp
 rw [hi]
 obtain ⟨c, r, e1, e2⟩ := decDigits_cons m
 refine LexP.one e1 (by rintro rfl; revert e2; decide) (fun a => ⟨⟨1, m, [], a⟩, ?_, rfl⟩)
 have hg : numG (Lib.decDigits m ++ post) 0 0 = ((m : Int), (Lib.decDigits m).length) := by
  rw [numG_digits m (by omega), numG_end hp, Nat.zero_add]
 rw [e1] at hg ⊢
 rw [List.cons_append] at hg ⊢
 unfold readP
 simp only [e2, if_true, hg]
 rw [if_neg (by omega)]
theorem quoG_34 (post acc : List UInt8) (k : Nat) : quoG (34 :: post) acc k = if rightText acc then some (acc, k + 1) else none := by
 rw [quoG.eq_def]; rfl
theorem quoG_92 (c : UInt8) (r acc : List UInt8) (k : Nat) : quoG (92 :: c :: r) acc k = if c = 34 ∨ c = 92 then quoG r (acc ++ [c]) (k + 2) else none := by
 rw [quoG.eq_def]; rfl
theorem quoG_c {b : UInt8} (h1 : b ≠ 34) (h2 : b ≠ 92) (r acc : List UInt8) (k : Nat) : quoG (b :: r) acc k = quoG r (acc ++ [b]) (k + 1) := by
 rw [quoG.eq_def]; simp only [if_neg h1, if_neg h2]
theorem quoG_esc : ∀ (s acc : List UInt8) (k : Nat) (post : List UInt8), rightText (acc ++ s) = true → quoG (qesc s ++ 34 :: post) acc k = some (acc ++ s, k + (qesc s).length + 1)
 | [], acc, k, post, h => by
  rw [List.append_nil] at h
  simp [qesc, quoG_34, h]
 | b :: s, acc, k, post, h => by
  have e1 : acc ++ b :: s = (acc ++ [b]) ++ s := by simp
  rw [e1] at h
  by_cases hb : b = 34 ∨ b = 92
  ·have e2 : qesc (b :: s) = 92 :: b :: qesc s := by simp [qesc, hb]
   rw [e2, List.cons_append, List.cons_append, quoG_92, if_pos hb, quoG_esc s _ _ _ h, e1]
   simp only [List.length_cons]
   congr 2; omega
  ·have e2 : qesc (b :: s) = b :: qesc s := by simp [qesc, hb]
   rw [not_or] at hb
   rw [e2, List.cons_append, quoG_c hb.1 hb.2, quoG_esc s _ _ _ h, e1]
   simp only [List.length_cons]
   congr 2; omega
theorem lex_text {s : List UInt8} (h : rightText s = true) (post : List UInt8) : LexP (34 :: (qesc s ++ [34])) [(2, 0, s)] post := by
 refine LexP.one rfl (by decide) (fun a => ⟨⟨2, 0, s, a⟩, ?_, rfl⟩)
 have hq := quoG_esc s [] 1 post (by simpa using h)
 rw [List.nil_append] at hq
 rw [List.cons_append, List.append_assoc, List.singleton_append]
 unfold readP
 simp only [show digB 34 = false by decide, show small 34 = false by decide, Bool.false_eq_true, if_false, if_true, hq]
 congr 2
 simp; omega
theorem binds_cases {s : List UInt8} (h : 0 < bindsV s) : s = [42] ∨ s = [47] ∨ s = [37] ∨ s = [43] ∨ s = [45] ∨ s = [38] ∨ s = [61] ∨ s = [60, 62] ∨ s = [60] ∨ s = [60, 61] ∨ s = [62] ∨ s = [62, 61] := by
 unfold bindsV at h
 split at h
 ·rename_i h1; rcases h1 with h1 | h1 | h1 <;> simp [h1]
 split at h
 ·rename_i h1; rcases h1 with h1 | h1 <;> simp [h1]
 split at h
 ·rename_i h1; simp [h1]
 split at h
 ·rename_i h1; rcases h1 with h1 | h1 | h1 | h1 | h1 | h1 <;> simp [h1]
 ·omega
def StopT (l : List UInt8) : Prop := ∀ c r, l = c :: r → c = 32 ∨ c = 41 ∨ c = 44
theorem StopT.word {l : List UInt8} (h : StopT l) : NoWord l := by
 intro c r e
 rcases h c r e with rfl | rfl | rfl <;> decide
theorem stop0 : StopT [] := by intro c r e; cases e
theorem ok_kids {d : Nat} {e : V} (h : okE (d + 1) e = true) : nodeE e = true ∧ ∀ x ∈ e.l, okE d x = true := by
 rw [okE, Bool.and_eq_true] at h
 exact ⟨h.1, fun x hx => List.all_eq_true.1 h.2 x hx⟩
theorem node1 {e : V} (h : nodeE e = true) (hk : e.k = 1) : 0 ≤ e.n ∧ e.n ≤ 1000000000000000 ∧ e.s = [] ∧ e.l = [] := by
 unfold nodeE at h
 rw [if_neg (by simp [hk]), if_pos hk] at h
 simp only [Bool.and_eq_true, decide_eq_true_eq, beq_iff_eq, List.length_eq_zero_iff] at h
 exact ⟨h.1.1.1, h.1.1.2, h.1.2, h.2⟩
theorem node0 {e : V} (h : nodeE e = true) (hk : e.k ≠ 1) : e.n = 0 := by
 unfold nodeE at h
 split at h
 ·cases h
 ·rename_i hh; simpa [hk] using hh
theorem node2 {e : V} (h : nodeE e = true) (hk : e.k = 2) : e.n = 0 ∧ rightText e.s = true ∧ e.l = [] := by
 have h0 := node0 h (by omega)
 unfold nodeE at h
 rw [if_neg (by simp [h0]), if_neg (by omega), if_pos hk] at h
 simp only [Bool.and_eq_true, beq_iff_eq, List.length_eq_zero_iff] at h
 exact ⟨h0, h⟩
theorem node3 {e : V} (h : nodeE e = true) (hk : e.k = 3) : e.n = 0 ∧ rightName e.s = true ∧ e.l = [] := by
 have h0 := node0 h (by omega)
 unfold nodeE at h
 rw [if_neg (by simp [h0]), if_neg (by omega), if_neg (by omega), if_pos hk] at h
 simp only [Bool.and_eq_true, beq_iff_eq, List.length_eq_zero_iff] at h
 exact ⟨h0, h⟩
theorem node4 {e : V} (h : nodeE e = true) (hk : e.k = 4) : e.n = 0 ∧ 0 < bindsV e.s ∧ ∃ a b, e.l = [a, b] := by
 have h0 := node0 h (by omega)
 unfold nodeE at h
 rw [if_neg (by simp [h0]), if_neg (by omega), if_neg (by omega), if_neg (by omega), if_pos hk] at h
 simp only [Bool.and_eq_true, decide_eq_true_eq, beq_iff_eq] at h
 refine ⟨h0, h.1, ?_⟩
 match hl : e.l, h.2 with
 | [a, b], _ => exact ⟨a, b, rfl⟩
theorem node5 {e : V} (h : nodeE e = true) (hk : e.k = 5) : e.n = 0 ∧ e.s = [45] ∧ ∃ a, e.l = [a] := by
 have h0 := node0 h (by omega)
 unfold nodeE at h
 rw [if_neg (by simp [h0]), if_neg (by omega), if_neg (by omega), if_neg (by omega), if_neg (by omega), if_pos hk] at h
 simp only [Bool.and_eq_true, beq_iff_eq] at h
 refine ⟨h0, h.1, ?_⟩
 match hl : e.l, h.2 with
 | [a], _ => exact ⟨a, rfl⟩
theorem node6 {e : V} (h : nodeE e = true) (hk : e.k = 6) : e.n = 0 ∧ 0 < takesV e.s ∧ (e.l.length : Int) = takesV e.s := by
 have h0 := node0 h (by omega)
 unfold nodeE at h
 rw [if_neg (by simp [h0]), if_neg (by omega), if_neg (by omega), if_neg (by omega), if_neg (by omega), if_neg (by omega), if_pos hk] at h
 simp only [Bool.and_eq_true, decide_eq_true_eq] at h
 exact ⟨h0, h⟩
theorem node_kind {e : V} (h : nodeE e = true) : e.k = 1 ∨ e.k = 2 ∨ e.k = 3 ∨ e.k = 4 ∨ e.k = 5 ∨ e.k = 6 := by
 unfold nodeE at h
 split at h
 ·cases h
 repeat (split at h; · simp [*])
 cases h
end Go.Mor
end

section
namespace Go.Proofs.YtmiokadmddjccaaGreatDoor
open Go Go.RowKit Go.Mor Go.Sh Go.Sh.Cd1 Go.Sh.Cd5
set_option maxRecDepth 100000
set_option maxHeartbeats 4000000
def pcR (q : Pc) : List PV := [.v (.int .i64 q.k), .v (.int .i64 q.n), .v (.string (str q.s)), .v (.int .i64 (q.p : Int))]
def pcT (q : Pc) : TV := .agg [I q.k, I q.n, S (str q.s), I (q.p : Int)]
def pcs (L : List Pc) : TV := .pv (.sl 4 (L.map pcR))
def pB (L : List Pc) (p sz : Nat) : List TV := [pcs L, I (p : Int), I (sz : Int), bindM]
theorem peek_ok (g : Sh.Glob) (L : List Pc) (p sz : Nat) (hL : L.length ≤ maxLen) : SCalls Tryz.prog g 111 [.ptr 1000 0] [.box (pB L p sz)] (pcT (pkP L sz p)) [.box (pB L p sz)] := by
 refine call_of hmix tf_8 rfl rfl rfl ?_
 unfold pB pcs pcT
 by_cases hlt : p < L.length
 ·have d1 : (p : Int) < (L.length : Int) := by omega
  obtain ⟨q, eq⟩ : ∃ q, L[p]? = some q := ⟨_, List.getElem?_eq_getElem hlt⟩
  have hq : pkP L sz p = q := by simp [pkP, eq]
  rw [hq]
  simp only [vcA, seval, vV, d1, eq, pcR, bmV]
 ·have d1 : ¬ (p : Int) < (L.length : Int) := by omega
  have hq : pkP L sz p = ⟨0, 0, [], sz⟩ := by simp [pkP, List.getElem?_eq_none (Nat.le_of_not_lt hlt)]
  rw [hq]
  simp only [vcA, seval, vV, d1, bmV]
  rfl
theorem take_ok (g : Sh.Glob) (L : List Pc) (p sz : Nat) (t : List UInt8) (hL : L.length ≤ maxLen) (hp : p < maxLen) : SCalls Tryz.prog g 204 [.ptr 1000 0, S (str t)] [.box (pB L p sz)] (B (isSg (pkP L sz p) t)) [.box (pB L (if isSg (pkP L sz p) t then p + 1 else p) sz)] := by
 refine call_of hmix tf_9 rfl rfl rfl ?_
 have HP := peek_ok g L p sz hL
 have w1 : IntKind.i64.wrap ((p : Int) + 1) = ((p + 1 : Nat) : Int) := by unfold maxLen at hp; rw [wrap64 (by omega) (by omega)]; omega
 unfold isSg at *
 generalize pkP L sz p = q at *
 unfold pB pcs pcT B at *
 by_cases hk : q.k = 4
 ·have hb : (q.k == 4) = true := by simp [hk]
  cases ht : q.s == t
  ·simp only [vcA, seval, vV]
   (with_reducible apply v_call); (· simp only [vcA, seval, vV, bmV]; with_reducible rfl); (· rfl); (· exact HP); (· first | rfl | (simp only [vcA, seval]; omega)); (· simp only [vcA, seval, vV, bmV]; with_reducible rfl)
   simp only [vcA, seval, vV, bmV, hk, hb, ht]
  ·simp only [vcA, seval, vV]
   (with_reducible apply v_call); (· simp only [vcA, seval, vV, bmV]; with_reducible rfl); (· rfl); (· exact HP); (· first | rfl | (simp only [vcA, seval]; omega)); (· simp only [vcA, seval, vV, bmV]; with_reducible rfl)
   simp only [vcA, seval, vV, bmV, hk, hb, ht, w1]
 ·have hb : (q.k == 4) = false := by simp [hk]
  simp only [vcA, seval, vV]
  (with_reducible apply v_call); (· simp only [vcA, seval, vV, bmV]; with_reducible rfl); (· rfl); (· exact HP); (· first | rfl | (simp only [vcA, seval]; omega)); (· simp only [vcA, seval, vV, bmV]; with_reducible rfl)
  simp only [vcA, seval, vV, bmV, hk, hb]
def wrongV (a : Nat) : Value := .iface 168 (.int .i64 (a : Int))
theorem need_ok (g : Sh.Glob) (L : List Pc) (p sz : Nat) (t : List UInt8) (hL : L.length ≤ maxLen) (hp : p < maxLen) (h : isSg (pkP L sz p) t = true) : SCalls Tryz.prog g 205 [.ptr 1000 0, S (str t)] [.box (pB L p sz)] (.tuple []) [.box (pB L (p + 1) sz)] := by
 refine call_of hmix tf_7 rfl rfl rfl ?_
 have HT := take_ok g L p sz t hL hp
 rw [h, if_pos rfl] at HT
 unfold pB pcs B at *
 simp only [vcA, seval, vV]
 (with_reducible apply v_call); (· simp only [vcA, seval, vV, bmV]; with_reducible rfl); (· rfl); (· exact HT); (· first | rfl | (simp only [vcA, seval]; omega)); (· simp only [vcA, seval, vV, bmV]; with_reducible rfl)
 simp only [vcA, seval, vV, bmV]
theorem need_pan (g : Sh.Glob) (L : List Pc) (p sz : Nat) (t : List UInt8) (hL : L.length ≤ maxLen) (hp : p < maxLen) (h : isSg (pkP L sz p) t = false) : SPan Tryz.prog g 205 [.ptr 1000 0, S (str t)] [.box (pB L p sz)] (wrongV (pkP L sz p).p) [.box (pB L p sz)] := by
 refine pan_of hmix tf_7 rfl rfl rfl ?_
 have HT := take_ok g L p sz t hL hp
 have HP := peek_ok g L p sz hL
 rw [h, if_neg (by simp)] at HT
 unfold pB pcs B pcT wrongV at *
 simp only [vcA, seval, vV]
 (with_reducible apply v_call); (· simp only [vcA, seval, vV, bmV]; with_reducible rfl); (· rfl); (· exact HT); (· first | rfl | (simp only [vcA, seval]; omega)); (· simp only [vcA, seval, vV, bmV]; with_reducible rfl)
 simp only [vcA, seval, vV, bmV]
 (with_reducible apply vq_p)
 simp only [vcA, seval, vV]
 (with_reducible apply vp_ret); (· simp only [vcA, seval, vV, bmV]; with_reducible rfl); (· rfl); (· exact HP); (· first | rfl | (simp only [vcA, seval]; omega)); (· simp only [vcA, seval, vV, bmV]; with_reducible rfl); simp only [vcA, seval, vV, bmV]
theorem takes_ok (g : Sh.Glob) (s : List UInt8) : SCalls Tryz.prog g 177 [S (str s)] [] (I (takesV s)) [] := by
 refine call_of0 hmix tf_60 rfl ?_
 have q1 : (⟨#[108, 101, 110]⟩ : ByteArray) = str [108, 101, 110] := rfl
 have q2 : (⟨#[116, 101, 120, 116]⟩ : ByteArray) = str [116, 101, 120, 116] := rfl
 have q3 : (⟨#[110, 117, 109]⟩ : ByteArray) = str [110, 117, 109] := rfl
 have q4 : (⟨#[108, 101, 102, 116]⟩ : ByteArray) = str [108, 101, 102, 116] := rfl
 have q5 : (⟨#[114, 105, 103, 104, 116]⟩ : ByteArray) = str [114, 105, 103, 104, 116] := rfl
 have q6 : (⟨#[102, 114, 111, 109]⟩ : ByteArray) = str [102, 114, 111, 109] := rfl
 have q7 : (⟨#[102, 105, 110, 100]⟩ : ByteArray) = str [102, 105, 110, 100] := rfl
 have q8 : (⟨#[109, 105, 110]⟩ : ByteArray) = str [109, 105, 110] := rfl
 have q9 : (⟨#[109, 97, 120]⟩ : ByteArray) = str [109, 97, 120] := rfl
 have q10 : (⟨#[105, 102]⟩ : ByteArray) = str [105, 102] := rfl
 have hb : ∀ t : List UInt8, (s == t) = decide (s = t) := fun t => by rw [Bool.eq_iff_iff]; simp
 unfold takesV
 simp only [vcA, seval, vV, q1, q2, q3, q4, q5, q6, q7, q8, q9, q10, hb]
 repeat' (first | (apply And.intro) | (intro _))
 all_goals simp_all
section
variable (g : Sh.Glob) (L : List Pc) (sz : Nat)
def EOk (f : Nat) : Prop := ∀ (least : Int) (p : Nat) (e : V) (p' : Nat), 0 ≤ least → least ≤ 5 → p ≤ L.length → pE L sz f least p = some (.ok e p') → SCalls Tryz.prog g 110 [.ptr 1000 0, I least] [.box (pB L p sz)] (tv e) [.box (pB L p' sz)]
def EBad (f : Nat) : Prop := ∀ (least : Int) (p a p' : Nat), 0 ≤ least → least ≤ 5 → p ≤ L.length → pE L sz f least p = some (.bad a p') → SPan Tryz.prog g 110 [.ptr 1000 0, I least] [.box (pB L p sz)] (wrongV a) [.box (pB L p' sz)]
def TOk (f : Nat) : Prop := ∀ (p : Nat) (e : V) (p' : Nat), p ≤ L.length → pT L sz f p = some (.ok e p') → SCalls Tryz.prog g 174 [.ptr 1000 0] [.box (pB L p sz)] (tv e) [.box (pB L p' sz)]
def TBad (f : Nat) : Prop := ∀ (p a p' : Nat), p ≤ L.length → pT L sz f p = some (.bad a p') → SPan Tryz.prog g 174 [.ptr 1000 0] [.box (pB L p sz)] (wrongV a) [.box (pB L p' sz)]
theorem pk_in {q : Pc} {p : Nat} (h : pkP L sz p = q) (hk : q.k ≠ 0) : p < L.length := by
 rcases Nat.lt_or_ge p L.length with h1 | h1
 ·exact h1
 ·rw [pkP, List.getElem?_eq_none h1] at h; subst h; exact absurd rfl hk
theorem isSg_in {p : Nat} {t : List UInt8} (h : isSg (pkP L sz p) t = true) : p < L.length := by
 refine pk_in L sz rfl ?_
 unfold isSg at h
 simp only [Bool.and_eq_true, beq_iff_eq] at h
 rw [h.1]; decide
theorem binds_rng (s : List UInt8) : 0 ≤ bindsV s ∧ bindsV s ≤ 4 := by
 unfold bindsV
 repeat' split
 all_goals omega
theorem takes_rng (s : List UInt8) : 0 ≤ takesV s ∧ takesV s ≤ 3 := by
 unfold takesV
 repeat' split
 all_goals omega
theorem p_le : ∀ f, (∀ least p e p', p ≤ L.length → pE L sz f least p = some (.ok e p') → p' ≤ L.length) ∧ (∀ least e0 p e p', p ≤ L.length → pL L sz f least e0 p = some (.ok e p') → p' ≤ L.length) ∧
  (∀ p e p', p ≤ L.length → pT L sz f p = some (.ok e p') → p' ≤ L.length) ∧ (∀ n k p acc l p', p ≤ L.length → pH L sz f n k p acc = some (.ok l p') → p' ≤ L.length)
 | 0 => ⟨fun _ _ _ _ _ h => by simp [pE] at h, fun _ _ _ _ _ _ h => by simp [pL] at h, fun _ _ _ _ h => by simp [pT] at h, fun _ _ _ _ _ _ _ h => by simp [pH] at h⟩
 | f + 1 => by
  obtain ⟨h1, h2, h3, h4⟩ := p_le f
  refine ⟨fun least p e p' hp h => ?_, fun least e0 p e p' hp h => ?_, fun p e p' hp h => ?_, fun n k p acc l p' hp h => ?_⟩
  ·rw [pE] at h
   split at h
   ·rename_i e1 p1 ht; exact h2 _ _ _ _ _ (h3 _ _ _ hp ht) h
   ·cases h
   ·cases h
  ·rw [pL] at h
   split at h
   ·cases h; exact hp
   ·rename_i hk
    rw [not_or] at hk
    have hlt := pk_in L sz (p := p) rfl (by have := hk.1; simp only [ne_eq, Decidable.not_not] at this; rw [this]; decide)
    split at h
    ·rename_i e2 p2 he; exact h2 _ _ _ _ _ (h1 _ _ _ _ hlt he) h
    ·cases h
    ·cases h
  ·rw [pT] at h
   split at h
   ·rename_i hs
    have hlt := isSg_in L sz hs
    split at h
    ·rename_i e1 p1 he
     split at h
     ·rename_i hs2; cases h; exact isSg_in L sz hs2
     ·cases h
    ·cases h
    ·cases h
   split at h
   ·rename_i hs
    have hlt := isSg_in L sz hs
    split at h
    ·rename_i e1 p1 he; cases h; exact h3 _ _ _ hlt he
    ·cases h
    ·cases h
   split at h
   ·rename_i hk; cases h; exact pk_in L sz rfl (by rw [hk]; decide)
   split at h
   ·rename_i hk; cases h; exact pk_in L sz rfl (by rw [hk]; decide)
   split at h
   ·rename_i hk
    have hlt := pk_in L sz (p := p) rfl (by rw [hk]; decide)
    split at h
    ·rename_i ht
     have hlt2 := isSg_in L sz ht.2
     split at h
     ·rename_i l p1 he; cases h; exact h4 _ _ _ _ _ _ hlt2 he
     ·cases h
     ·cases h
    ·cases h; exact hlt
   ·cases h
  ·rw [pH] at h
   split at h
   ·split at h
    ·cases h
    ·rename_i hk hs
     have hp2 : (if 0 < k then p + 1 else p) ≤ L.length := by
      split
      ·rename_i h0
       refine isSg_in L sz (t := [44]) ?_
       cases hh : isSg (pkP L sz p) [44] with
       | true => rfl
       | false => exact absurd ⟨h0, hh⟩ hs
      ·exact hp
     split at h
     ·rename_i e1 p1 he; exact h4 _ _ _ _ _ _ (h1 _ _ _ _ hp2 he) h
     ·cases h
     ·cases h
   ·split at h
    ·rename_i hs; cases h; exact isSg_in L sz hs
    ·cases h
variable {g L sz}
theorem expr_ok_of {f : Nat} (hL : L.length ≤ 4611686018427387904) (ih : ∀ f', f' < f → EOk g L sz f' ∧ EBad g L sz f' ∧ TOk g L sz f' ∧ TBad g L sz f') : EOk g L sz f := by
 intro least p e p' h0 h5 hp h
 cases f with
 | zero => simp [pE] at h
 | succ f =>
 rw [pE] at h
 cases ht : pT L sz f p with
 | none => rw [ht] at h; cases h
 | some r =>
 cases r with
 | bad a q => rw [ht] at h; cases h
 | ok e1 p1 =>
 rw [ht] at h
 simp only at h
 have HT := (ih f (Nat.lt_succ_self f)).2.2.1 p e1 p1 hp ht
 have hp1 := (p_le L sz f).2.2.1 p e1 p1 hp ht
 refine call_of hmix tf_4 rfl rfl rfl ?_
 have hml : L.length ≤ maxLen := by unfold maxLen; omega
 unfold pB pcs at HT ⊢
 simp only [vcA, seval, vV, bmV]
 (with_reducible apply vq_n)
 simp only [vcA, seval, vV, bmV]
 (with_reducible apply v_call); (· simp only [vcA, seval, vV, bmV]; with_reducible rfl); (· rfl); (· exact HT); (· first | rfl | (simp only [vcA, seval]; omega)); (· simp only [vcA, seval, vV, bmV]; with_reducible rfl)
 simp only [vcA, seval, vV, bmV]
 refine v_loop (σ := {x : Nat × V × Nat // x.1 ≤ f ∧ x.2.2 ≤ L.length ∧ pL L sz x.1 least x.2.1 x.2.2 = some (.ok e p')})
  (fun x => ⟨[(0, .ptr 1000 0), (1, I least), (4, .ptr 4 0), (5, .ptr 5 0)], [(1000, [.pv (.sl 4 (L.map pcR)), I (x.1.2.2 : Int), I (sz : Int), bindM]), (4, [I 0, I 0, S ⟨#[]⟩, .pv (.v (.slice none 0 0))]),
   (5, [I x.1.2.1.k, I x.1.2.1.n, S (str x.1.2.1.s), .pv (.sl 4 (V.rows x.1.2.1.l))])], [], []⟩) (fun x => x.1.1) ⟨(f, e1, p1), Nat.le_refl _, hp1, h⟩ (lw_eq rfl) ?_
 rintro ⟨⟨f1, e2, p2⟩, hf1, hp2, hl⟩
 simp only at hf1 hp2 hl
 cases f1 with
 | zero => simp [pL] at hl
 | succ f1 =>
 have HP := peek_ok g L p2 sz hml
 rw [pL] at hl
 generalize hq : pkP L sz p2 = q at HP hl
 obtain ⟨b0, b4⟩ := binds_rng q.s
 unfold pB pcs pcT at HP
 simp only [vcA, seval, vV, bmV]
 (with_reducible apply v_call); (· simp only [vcA, seval, vV, bmV]; with_reducible rfl); (· rfl); (· exact HP); (· first | rfl | (simp only [vcA, seval]; omega)); (· simp only [vcA, seval, vV, bmV]; with_reducible rfl)
 by_cases hk : q.k = 4
 ·by_cases hb : bindsV q.s < least
  ·rw [if_pos (.inr hb)] at hl
   cases hl
   simp only [vcA, seval, vV, bmV, hk, hb]
  ·rw [if_neg (by rw [not_or]; exact ⟨by simpa using hk, hb⟩)] at hl
   have hlt := pk_in L sz hq (by rw [hk]; decide)
   cases he : pE L sz f1 (bindsV q.s + 1) (p2 + 1) with
   | none => rw [he] at hl; cases hl
   | some r =>
   cases r with
   | bad a q' => rw [he] at hl; cases hl
   | ok e3 p3 =>
   rw [he] at hl
   simp only at hl
   have HE := (ih f1 (by omega)).1 (bindsV q.s + 1) (p2 + 1) e3 p3 (by omega) (by omega) hlt he
   have hp3 := (p_le L sz f1).1 _ _ _ _ hlt he
   have w1 : IntKind.i64.wrap ((p2 : Int) + 1) = ((p2 + 1 : Nat) : Int) := by rw [wrap64 (by omega) (by omega)]; omega
   have w2 : IntKind.i64.wrap (bindsV q.s + 1) = bindsV q.s + 1 := wrap64 (by omega) (by omega)
   unfold pB pcs at HE
   simp only [vcA, seval, vV, bmV, hk, hb, w1]
   (with_reducible apply vq_n)
   simp only [vcA, seval, vV, bmV, w2]
   (with_reducible apply v_call); (· simp only [vcA, seval, vV, bmV, w2]; with_reducible rfl); (· rfl); (· exact HE); (· first | rfl | (simp only [vcA, seval]; omega)); (· simp only [vcA, seval, vV, bmV, w2]; with_reducible rfl)
   simp only [vcA, seval, vV, bmV]
   refine loopK_of ⟨(f1, .mk 4 0 q.s [e2, e3], p3), by omega, hp3, hl⟩ (Nat.lt_succ_self f1) ?_
   apply lw_of <;> simp [leL, lk, sv, Nat.beq, I, S, ES.kill, has, drp, nilT, bmV]
   exact ⟨rfl, rfl, rfl, by rw [Vl, show V.rows [e2, e3] = [V.row e2, V.row e3] from rfl, row4, row4]⟩
 ·rw [if_pos (.inl hk)] at hl
  cases hl
  simp only [vcA, seval, vV, bmV, hk]
theorem expr_bad_of {f : Nat} (hL : L.length ≤ 4611686018427387904) (ih : ∀ f', f' < f → EOk g L sz f' ∧ EBad g L sz f' ∧ TOk g L sz f' ∧ TBad g L sz f') : EBad g L sz f := by
 intro least p a p' h0 h5 hp h
 cases f with
 | zero => simp [pE] at h
 | succ f =>
 have hml : L.length ≤ maxLen := by unfold maxLen; omega
 rw [pE] at h
 cases ht : pT L sz f p with
 | none => rw [ht] at h; cases h
 | some r =>
 cases r with
 | bad a q =>
  rw [ht] at h; cases h
  have HT := (ih f (Nat.lt_succ_self f)).2.2.2 p a p' hp ht
  refine pan_of hmix tf_4 rfl rfl rfl ?_
  unfold pB pcs at HT ⊢
  unfold wrongV at *
  simp only [vcA, seval, vV, bmV]
  (with_reducible apply vq_p)
  simp only [vcA, seval, vV, bmV]
  (with_reducible apply vp_call); (· rfl); (· simp only [vcA, seval, vV, bmV]; with_reducible rfl); (· exact HT); (· first | rfl | (simp only [vcA, seval]; omega)); (· simp only [vcA, seval, vV, bmV]; with_reducible rfl); simp only [vcA, seval, vV, bmV]
 | ok e1 p1 =>
 rw [ht] at h
 simp only at h
 have HT := (ih f (Nat.lt_succ_self f)).2.2.1 p e1 p1 hp ht
 have hp1 := (p_le L sz f).2.2.1 p e1 p1 hp ht
 refine pan_of hmix tf_4 rfl rfl rfl ?_
 unfold pB pcs at HT ⊢
 unfold wrongV
 simp only [vcA, seval, vV, bmV]
 (with_reducible apply vq_n)
 simp only [vcA, seval, vV, bmV]
 (with_reducible apply v_call); (· simp only [vcA, seval, vV, bmV]; with_reducible rfl); (· rfl); (· exact HT); (· first | rfl | (simp only [vcA, seval]; omega)); (· simp only [vcA, seval, vV, bmV]; with_reducible rfl)
 simp only [vcA, seval, vV, bmV]
 refine v_loop (σ := {x : Nat × V × Nat // x.1 ≤ f ∧ x.2.2 ≤ L.length ∧ pL L sz x.1 least x.2.1 x.2.2 = some (.bad a p')})
  (fun x => ⟨[(0, .ptr 1000 0), (1, I least), (4, .ptr 4 0), (5, .ptr 5 0)], [(1000, [.pv (.sl 4 (L.map pcR)), I (x.1.2.2 : Int), I (sz : Int), bindM]), (4, [I 0, I 0, S ⟨#[]⟩, .pv (.v (.slice none 0 0))]),
   (5, [I x.1.2.1.k, I x.1.2.1.n, S (str x.1.2.1.s), .pv (.sl 4 (V.rows x.1.2.1.l))])], [], []⟩) (fun x => x.1.1) ⟨(f, e1, p1), Nat.le_refl _, hp1, h⟩ (lw_eq rfl) ?_
 rintro ⟨⟨f1, e2, p2⟩, hf1, hp2, hl⟩
 simp only at hf1 hp2 hl
 cases f1 with
 | zero => simp [pL] at hl
 | succ f1 =>
 have HP := peek_ok g L p2 sz hml
 rw [pL] at hl
 generalize hq : pkP L sz p2 = q at HP hl
 obtain ⟨b0, b4⟩ := binds_rng q.s
 unfold pB pcs pcT at HP
 simp only [vcA, seval, vV, bmV]
 (with_reducible apply v_call); (· simp only [vcA, seval, vV, bmV]; with_reducible rfl); (· rfl); (· exact HP); (· first | rfl | (simp only [vcA, seval]; omega)); (· simp only [vcA, seval, vV, bmV]; with_reducible rfl)
 by_cases hk : q.k = 4
 ·by_cases hb : bindsV q.s < least
  ·rw [if_pos (.inr hb)] at hl
   cases hl
  ·rw [if_neg (by rw [not_or]; exact ⟨by simpa using hk, hb⟩)] at hl
   have hlt := pk_in L sz hq (by rw [hk]; decide)
   have w1 : IntKind.i64.wrap ((p2 : Int) + 1) = ((p2 + 1 : Nat) : Int) := by rw [wrap64 (by omega) (by omega)]; omega
   have w2 : IntKind.i64.wrap (bindsV q.s + 1) = bindsV q.s + 1 := wrap64 (by omega) (by omega)
   cases he : pE L sz f1 (bindsV q.s + 1) (p2 + 1) with
   | none => rw [he] at hl; cases hl
   | some r =>
   cases r with
   | bad a2 q' =>
    rw [he] at hl; cases hl
    have HE := (ih f1 (by omega)).2.1 (bindsV q.s + 1) (p2 + 1) a p' (by omega) (by omega) hlt he
    unfold pB pcs wrongV at HE
    simp only [vcA, seval, vV, bmV, hk, hb, w1]
    (with_reducible apply vq_p)
    simp only [vcA, seval, vV, bmV, w2]
    (with_reducible apply vp_call); (· rfl); (· simp only [vcA, seval, vV, bmV, w2]; with_reducible rfl); (· exact HE); (· first | rfl | (simp only [vcA, seval]; omega)); (· simp only [vcA, seval, vV, bmV, w2]; with_reducible rfl); simp only [vcA, seval, vV, bmV, w2]
   | ok e3 p3 =>
   rw [he] at hl
   simp only at hl
   have HE := (ih f1 (by omega)).1 (bindsV q.s + 1) (p2 + 1) e3 p3 (by omega) (by omega) hlt he
   have hp3 := (p_le L sz f1).1 _ _ _ _ hlt he
   unfold pB pcs at HE
   simp only [vcA, seval, vV, bmV, hk, hb, w1]
   (with_reducible apply vq_n)
   simp only [vcA, seval, vV, bmV, w2]
   (with_reducible apply v_call); (· simp only [vcA, seval, vV, bmV, w2]; with_reducible rfl); (· rfl); (· exact HE); (· first | rfl | (simp only [vcA, seval]; omega)); (· simp only [vcA, seval, vV, bmV, w2]; with_reducible rfl)
   simp only [vcA, seval, vV, bmV]
   refine loopK_of ⟨(f1, .mk 4 0 q.s [e2, e3], p3), by omega, hp3, hl⟩ (Nat.lt_succ_self f1) ?_
   apply lw_of <;> simp [leL, lk, sv, Nat.beq, I, S, ES.kill, has, drp, nilT, bmV]
   exact ⟨rfl, rfl, rfl, by rw [Vl, show V.rows [e2, e3] = [V.row e2, V.row e3] from rfl, row4, row4]⟩
 ·rw [if_pos (.inl hk)] at hl
  cases hl
theorem rows_snoc (l : List V) (x : V) : V.rows (l ++ [x]) = V.rows l ++ [[.v (.int .i64 x.k), .v (.int .i64 x.n), .v (.string (str x.s)), .sl 4 (V.rows x.l)]] := by rw [rows_eq, rows_eq, List.map_append, List.map_cons, List.map_nil, row4]
theorem things_ok_of {f : Nat} (hL : L.length ≤ 4611686018427387904) (ih : ∀ f', f' < f → EOk g L sz f') (n p : Nat) (l : List V) (p' : Nat) (hn0 : 0 < n) (hn : n ≤ 3) (hp : p ≤ L.length) (h : pH L sz f n 0 p [] = some (.ok l p')) :
  SCalls Tryz.prog g 206 [.ptr 1000 0, I (n : Int)] [.box (pB L p sz)] (.pv (.sl 4 (V.rows l))) [.box (pB L p' sz)] := by
 have hml : L.length < maxLen := by unfold maxLen; omega
 refine call_of hmix tf_5 rfl rfl rfl ?_
 unfold pB pcs at *
 simp only [vcA, seval, vV, bmV]
 refine v_loop (σ := {x : Nat × Nat × Nat × List V // x.1 ≤ f ∧ x.2.1 ≤ n ∧ x.2.2.1 ≤ L.length ∧ x.2.2.2.length = x.2.1 ∧ pH L sz x.1 n x.2.1 x.2.2.1 x.2.2.2 = some (.ok l p')})
  (fun x => ⟨[(0, .ptr 1000 0), (5, .own 3000 4 (V.rows x.1.2.2.2)), (7, I (n : Int)), (8, I (x.1.2.1 : Int))], [(1000, [.pv (.sl 4 (L.map pcR)), I (x.1.2.2.1 : Int), I (sz : Int), bindM])], [(3000, (26, 4, x.1.2.1))], []⟩) (fun x => x.1.1) ⟨(f, 0, p, []), Nat.le_refl _, Nat.zero_le _, hp, rfl, h⟩ ?_ ?_
 ·refine ES.Lw.trans ?_ (adT_lw (k := 5) (d := 3000) (e := 26) (W := 4) (.inr (by decide)) rfl)
  exact lw_eq rfl
 rintro ⟨⟨f1, k, p1, acc⟩, hf1, hk, hp1, hacc, hl⟩
 simp only at hf1 hk hp1 hacc hl
 cases f1 with
 | zero => simp [pH] at hl
 | succ f1 =>
 rw [pH] at hl
 by_cases hkn : k < n
 ·rw [if_pos hkn] at hl
  have d1 : (k : Int) < (n : Int) := by omega
  split at hl
  ·cases hl
  rename_i hcom
  cases he : pE L sz f1 1 (if 0 < k then p1 + 1 else p1) with
  | none => rw [he] at hl; cases hl
  | some r =>
  cases r with
  | bad a q' => rw [he] at hl; cases hl
  | ok e3 p3 =>
  rw [he] at hl
  simp only at hl
  have wk : IntKind.i64.wrap ((k : Int) + 1) = ((k + 1 : Nat) : Int) := by rw [wrap64 (by omega) (by omega)]; omega
  have hacc' : (V.rows acc).length = k := by rw [rowsLen, hacc]
  by_cases h0 : 0 < k
  ·rw [if_pos h0] at he
   have hs : isSg (pkP L sz p1) [44] = true := by
    cases hh : isSg (pkP L sz p1) [44] with
    | true => rfl
    | false => exact absurd ⟨h0, hh⟩ hcom
   have hlt := isSg_in L sz hs
   have HN := need_ok g L p1 sz [44] (by omega) (by omega) hs
   have HE := ih f1 (by omega) 1 (p1 + 1) e3 p3 (by omega) (by omega) hlt he
   have hp3 := (p_le L sz f1).1 _ _ _ _ hlt he
   have d0 : (0 : Int) < (k : Int) := by omega
   have q44 : (⟨#[44]⟩ : ByteArray) = str [44] := rfl
   unfold pB pcs at HN HE
   simp only [vcA, seval, vV, bmV, d1, d0]
   (with_reducible apply vq_n)
   simp only [vcA, seval, vV, bmV, q44]
   (with_reducible apply v_call); (· simp only [vcA, seval, vV, bmV]; with_reducible rfl); (· rfl); (· exact HN); (· first | rfl | (simp only [vcA, seval]; omega)); (· simp only [vcA, seval, vV, bmV]; with_reducible rfl)
   simp only [vcA, seval, vV, bmV]
   (with_reducible apply vq_n)
   simp only [vcA, seval, vV, bmV]
   (with_reducible apply v_call); (· simp only [vcA, seval, vV, bmV]; with_reducible rfl); (· rfl); (· exact HE); (· first | rfl | (simp only [vcA, seval]; omega)); (· simp only [vcA, seval, vV, bmV]; with_reducible rfl)
   simp only [vcA, seval, vV, bmV, hacc', wk]
   refine ⟨⟨by omega, by unfold maxLen; omega⟩, loopK_of ⟨(f1, k + 1, p3, acc ++ [e3]), by omega, hkn, hp3, by simp [hacc], hl⟩ (Nat.lt_succ_self f1) ?_⟩
   refine lw_eq ?_
   simp only [rows_snoc, I]
  ·rw [if_neg h0] at he
   obtain rfl : k = 0 := by omega
   have HE := ih f1 (by omega) 1 p1 e3 p3 (by omega) (by omega) hp1 he
   have hp3 := (p_le L sz f1).1 _ _ _ _ hp1 he
   have d2 : (0 : Int) < (n : Int) := by omega
   have w01 : IntKind.i64.wrap 1 = 1 := by decide
   unfold pB pcs at HE
   simp only [vcA, seval, vV, bmV, d2]
   (with_reducible apply vq_n)
   simp only [vcA, seval, vV, bmV]
   (with_reducible apply v_call); (· simp only [vcA, seval, vV, bmV]; with_reducible rfl); (· rfl); (· exact HE); (· first | rfl | (simp only [vcA, seval]; omega)); (· simp only [vcA, seval, vV, bmV]; with_reducible rfl)
   simp only [vcA, seval, vV, bmV, hacc', w01]
   refine ⟨by unfold maxLen; omega, loopK_of ⟨(f1, 1, p3, acc ++ [e3]), by omega, hkn, hp3, by simp [hacc], hl⟩ (Nat.lt_succ_self f1) ?_⟩
   refine lw_eq ?_
   simp only [rows_snoc, I]; rfl
 ·rw [if_neg hkn] at hl
  have d1 : ¬ (k : Int) < (n : Int) := by omega
  split at hl
  ·rename_i hs
   cases hl
   have hlt := isSg_in L sz hs
   have HN := need_ok g L p1 sz [41] (by omega) (by omega) hs
   have q41 : (⟨#[41]⟩ : ByteArray) = str [41] := rfl
   unfold pB pcs at HN
   simp only [vcA, seval, vV, bmV, d1]
   (with_reducible apply vq_n)
   simp only [vcA, seval, vV, bmV, q41]
   (with_reducible apply v_call); (· simp only [vcA, seval, vV, bmV]; with_reducible rfl); (· rfl); (· exact HN); (· first | rfl | (simp only [vcA, seval]; omega)); (· simp only [vcA, seval, vV, bmV]; with_reducible rfl)
   simp only [vcA, seval, vV, bmV]
  ·cases hl
theorem things_bad_of {f : Nat} (hL : L.length ≤ 4611686018427387904) (ih : ∀ f', f' < f → EOk g L sz f') (ihb : ∀ f', f' < f → EBad g L sz f') (n p a p' : Nat) (hn0 : 0 < n) (hn : n ≤ 3) (hp : p ≤ L.length) (h : pH L sz f n 0 p [] = some (.bad a p')) :
  SPan Tryz.prog g 206 [.ptr 1000 0, I (n : Int)] [.box (pB L p sz)] (wrongV a) [.box (pB L p' sz)] := by
 have hml : L.length < maxLen := by unfold maxLen; omega
 refine pan_of hmix tf_5 rfl rfl rfl ?_
 unfold pB pcs wrongV at *
 simp only [vcA, seval, vV, bmV]
 refine v_loop (σ := {x : Nat × Nat × Nat × List V // x.1 ≤ f ∧ x.2.1 ≤ n ∧ x.2.2.1 ≤ L.length ∧ x.2.2.2.length = x.2.1 ∧ pH L sz x.1 n x.2.1 x.2.2.1 x.2.2.2 = some (.bad a p')})
  (fun x => ⟨[(0, .ptr 1000 0), (5, .own 3000 4 (V.rows x.1.2.2.2)), (7, I (n : Int)), (8, I (x.1.2.1 : Int))], [(1000, [.pv (.sl 4 (L.map pcR)), I (x.1.2.2.1 : Int), I (sz : Int), bindM])], [(3000, (26, 4, x.1.2.1))], []⟩) (fun x => x.1.1) ⟨(f, 0, p, []), Nat.le_refl _, Nat.zero_le _, hp, rfl, h⟩ ?_ ?_
 ·refine ES.Lw.trans ?_ (adT_lw (k := 5) (d := 3000) (e := 26) (W := 4) (.inr (by decide)) rfl)
  exact lw_eq rfl
 rintro ⟨⟨f1, k, p1, acc⟩, hf1, hk, hp1, hacc, hl⟩
 simp only at hf1 hk hp1 hacc hl
 cases f1 with
 | zero => simp [pH] at hl
 | succ f1 =>
 rw [pH] at hl
 by_cases hkn : k < n
 ·rw [if_pos hkn] at hl
  have d1 : (k : Int) < (n : Int) := by omega
  by_cases hcom : 0 < k ∧ isSg (pkP L sz p1) [44] = false
  ·rw [if_pos hcom] at hl
   cases hl
   have HN := need_pan g L p' sz [44] (by omega) (by omega) hcom.2
   have d0 : (0 : Int) < (k : Int) := by omega
   have q44 : (⟨#[44]⟩ : ByteArray) = str [44] := rfl
   unfold pB pcs wrongV at HN
   simp only [vcA, seval, vV, bmV, d1, d0]
   (with_reducible apply vq_p)
   simp only [vcA, seval, vV, bmV, q44]
   (with_reducible apply vp_call); (· rfl); (· simp only [vcA, seval, vV, bmV]; with_reducible rfl); (· exact HN); (· first | rfl | (simp only [vcA, seval]; omega)); (· simp only [vcA, seval, vV, bmV]; with_reducible rfl); simp only [vcA, seval, vV, bmV]
  rw [if_neg hcom] at hl
  have wk : IntKind.i64.wrap ((k : Int) + 1) = ((k + 1 : Nat) : Int) := by rw [wrap64 (by omega) (by omega)]; omega
  have hacc' : (V.rows acc).length = k := by rw [rowsLen, hacc]
  by_cases h0 : 0 < k
  ·rw [if_pos h0] at hl
   have hs : isSg (pkP L sz p1) [44] = true := by
    cases hh : isSg (pkP L sz p1) [44] with
    | true => rfl
    | false => exact absurd ⟨h0, hh⟩ hcom
   have hlt := isSg_in L sz hs
   have HN := need_ok g L p1 sz [44] (by omega) (by omega) hs
   have d0 : (0 : Int) < (k : Int) := by omega
   have q44 : (⟨#[44]⟩ : ByteArray) = str [44] := rfl
   unfold pB pcs at HN
   simp only [vcA, seval, vV, bmV, d1, d0]
   (with_reducible apply vq_n)
   simp only [vcA, seval, vV, bmV, q44]
   (with_reducible apply v_call); (· simp only [vcA, seval, vV, bmV]; with_reducible rfl); (· rfl); (· exact HN); (· first | rfl | (simp only [vcA, seval]; omega)); (· simp only [vcA, seval, vV, bmV]; with_reducible rfl)
   simp only [vcA, seval, vV, bmV]
   cases he : pE L sz f1 1 (p1 + 1) with
   | none => rw [he] at hl; cases hl
   | some r =>
   cases r with
   | bad a2 q' =>
    rw [he] at hl; cases hl
    have HE := ihb f1 (by omega) 1 (p1 + 1) a p' (by omega) (by omega) hlt he
    unfold pB pcs wrongV at HE
    (with_reducible apply vq_p)
    simp only [vcA, seval, vV, bmV]
    (with_reducible apply vp_call); (· rfl); (· simp only [vcA, seval, vV, bmV]; with_reducible rfl); (· exact HE); (· first | rfl | (simp only [vcA, seval]; omega)); (· simp only [vcA, seval, vV, bmV]; with_reducible rfl); simp only [vcA, seval, vV, bmV]
   | ok e3 p3 =>
   rw [he] at hl
   simp only at hl
   have HE := ih f1 (by omega) 1 (p1 + 1) e3 p3 (by omega) (by omega) hlt he
   have hp3 := (p_le L sz f1).1 _ _ _ _ hlt he
   unfold pB pcs at HE
   (with_reducible apply vq_n)
   simp only [vcA, seval, vV, bmV]
   (with_reducible apply v_call); (· simp only [vcA, seval, vV, bmV]; with_reducible rfl); (· rfl); (· exact HE); (· first | rfl | (simp only [vcA, seval]; omega)); (· simp only [vcA, seval, vV, bmV]; with_reducible rfl)
   simp only [vcA, seval, vV, bmV, hacc', wk]
   refine ⟨⟨by omega, by unfold maxLen; omega⟩, loopK_of ⟨(f1, k + 1, p3, acc ++ [e3]), by omega, hkn, hp3, by simp [hacc], hl⟩ (Nat.lt_succ_self f1) ?_⟩
   refine lw_eq ?_
   simp only [rows_snoc, I]
  ·rw [if_neg h0] at hl
   obtain rfl : k = 0 := by omega
   have d2 : (0 : Int) < (n : Int) := by omega
   have w01 : IntKind.i64.wrap 1 = 1 := by decide
   simp only [vcA, seval, vV, bmV, d2]
   cases he : pE L sz f1 1 p1 with
   | none => rw [he] at hl; cases hl
   | some r =>
   cases r with
   | bad a2 q' =>
    rw [he] at hl; cases hl
    have HE := ihb f1 (by omega) 1 p1 a p' (by omega) (by omega) hp1 he
    unfold pB pcs wrongV at HE
    (with_reducible apply vq_p)
    simp only [vcA, seval, vV, bmV]
    (with_reducible apply vp_call); (· rfl); (· simp only [vcA, seval, vV, bmV]; with_reducible rfl); (· exact HE); (· first | rfl | (simp only [vcA, seval]; omega)); (· simp only [vcA, seval, vV, bmV]; with_reducible rfl); simp only [vcA, seval, vV, bmV]
   | ok e3 p3 =>
   rw [he] at hl
   simp only at hl
   have HE := ih f1 (by omega) 1 p1 e3 p3 (by omega) (by omega) hp1 he
   have hp3 := (p_le L sz f1).1 _ _ _ _ hp1 he
   unfold pB pcs at HE
   (with_reducible apply vq_n)
   simp only [vcA, seval, vV, bmV]
   (with_reducible apply v_call); (· simp only [vcA, seval, vV, bmV]; with_reducible rfl); (· rfl); (· exact HE); (· first | rfl | (simp only [vcA, seval]; omega)); (· simp only [vcA, seval, vV, bmV]; with_reducible rfl)
   simp only [vcA, seval, vV, bmV, hacc', w01]
   refine ⟨by unfold maxLen; omega, loopK_of ⟨(f1, 1, p3, acc ++ [e3]), by omega, hkn, hp3, by simp [hacc], hl⟩ (Nat.lt_succ_self f1) ?_⟩
   refine lw_eq ?_
   simp only [rows_snoc, I]; rfl
 ·rw [if_neg hkn] at hl
  have d1 : ¬ (k : Int) < (n : Int) := by omega
  split at hl
  ·cases hl
  ·rename_i hs
   cases hl
   have HN := need_pan g L p' sz [41] (by omega) (by omega) (by simpa using hs)
   have q41 : (⟨#[41]⟩ : ByteArray) = str [41] := rfl
   unfold pB pcs wrongV at HN
   simp only [vcA, seval, vV, bmV, d1]
   (with_reducible apply vq_p)
   simp only [vcA, seval, vV, bmV, q41]
   (with_reducible apply vp_call); (· rfl); (· simp only [vcA, seval, vV, bmV]; with_reducible rfl); (· exact HN); (· first | rfl | (simp only [vcA, seval]; omega)); (· simp only [vcA, seval, vV, bmV]; with_reducible rfl); simp only [vcA, seval, vV, bmV]
theorem nv_out (k n : Int) (t : List UInt8) : Wk (nv (.mk k n t [])) (tv (.mk k n t [])) := nv_tv rfl
theorem tight_ok_of {f : Nat} (hL : L.length ≤ 4611686018427387904) (ih : ∀ f', f' < f → EOk g L sz f' ∧ EBad g L sz f' ∧ TOk g L sz f' ∧ TBad g L sz f') : TOk g L sz f := by
 intro p e p' hp h
 have hml : L.length < maxLen := by unfold maxLen; omega
 cases f with
 | zero => simp [pT] at h
 | succ f =>
 have T40 := take_ok g L p sz [40] (by omega) (by omega)
 have T45 := take_ok g L p sz [45] (by omega) (by omega)
 have q40 : (⟨#[40]⟩ : ByteArray) = str [40] := rfl
 have q41 : (⟨#[41]⟩ : ByteArray) = str [41] := rfl
 have q45 : (⟨#[45]⟩ : ByteArray) = str [45] := rfl
 rw [pT] at h
 by_cases h40 : isSg (pkP L sz p) [40] = true
 ·rw [if_pos h40] at h
  rw [h40, if_pos rfl] at T40
  have hlt := isSg_in L sz h40
  cases he : pE L sz f 1 (p + 1) with
  | none => rw [he] at h; cases h
  | some r =>
  cases r with
  | bad a q' => rw [he] at h; cases h
  | ok e1 p1 =>
  rw [he] at h
  simp only at h
  split at h
  ·rename_i h41
   cases h
   have HE := (ih f (Nat.lt_succ_self f)).1 1 (p + 1) e p1 (by omega) (by omega) hlt he
   have hp1 := (p_le L sz f).1 _ _ _ _ hlt he
   have HN := need_ok g L p1 sz [41] (by omega) (by omega) h41
   refine call_of hmix tf_6 rfl rfl rfl ?_
   unfold pB pcs B at *
   simp only [vcA, seval, vV, bmV, q40]
   (with_reducible apply v_call); (· simp only [vcA, seval, vV, bmV]; with_reducible rfl); (· rfl); (· exact T40); (· first | rfl | (simp only [vcA, seval]; omega)); (· simp only [vcA, seval, vV, bmV]; with_reducible rfl)
   simp only [vcA, seval, vV, bmV]
   (with_reducible apply vq_n)
   simp only [vcA, seval, vV, bmV]
   (with_reducible apply v_call); (· simp only [vcA, seval, vV, bmV]; with_reducible rfl); (· rfl); (· exact HE); (· first | rfl | (simp only [vcA, seval]; omega)); (· simp only [vcA, seval, vV, bmV]; with_reducible rfl)
   simp only [vcA, seval, vV, bmV]
   (with_reducible apply vq_n)
   simp only [vcA, seval, vV, bmV, q41]
   (with_reducible apply v_call); (· simp only [vcA, seval, vV, bmV]; with_reducible rfl); (· rfl); (· exact HN); (· first | rfl | (simp only [vcA, seval]; omega)); (· simp only [vcA, seval, vV, bmV]; with_reducible rfl)
   simp only [vcA, seval, vV, bmV]
  ·cases h
 have h40 : isSg (pkP L sz p) [40] = false := by simpa using h40
 rw [h40, if_neg (by simp)] at T40
 rw [if_neg (by simp [h40])] at h
 by_cases h45 : isSg (pkP L sz p) [45] = true
 ·rw [if_pos h45] at h
  rw [h45, if_pos rfl] at T45
  have hlt := isSg_in L sz h45
  cases he : pT L sz f (p + 1) with
  | none => rw [he] at h; cases h
  | some r =>
  cases r with
  | bad a q' => rw [he] at h; cases h
  | ok e1 p1 =>
  rw [he] at h
  cases h
  have HE := (ih f (Nat.lt_succ_self f)).2.2.1 (p + 1) e1 p' hlt he
  refine call_of hmix tf_6 rfl rfl rfl ?_
  unfold pB pcs B at *
  simp only [vcA, seval, vV, bmV, q40]
  (with_reducible apply v_call); (· simp only [vcA, seval, vV, bmV]; with_reducible rfl); (· rfl); (· exact T40); (· first | rfl | (simp only [vcA, seval]; omega)); (· simp only [vcA, seval, vV, bmV]; with_reducible rfl)
  simp only [vcA, seval, vV, bmV, q45]
  (with_reducible apply v_call); (· simp only [vcA, seval, vV, bmV]; with_reducible rfl); (· rfl); (· exact T45); (· first | rfl | (simp only [vcA, seval]; omega)); (· simp only [vcA, seval, vV, bmV]; with_reducible rfl)
  simp only [vcA, seval, vV, bmV]
  (with_reducible apply vq_n)
  simp only [vcA, seval, vV, bmV]
  (with_reducible apply v_call); (· simp only [vcA, seval, vV, bmV]; with_reducible rfl); (· rfl); (· exact HE); (· first | rfl | (simp only [vcA, seval]; omega)); (· simp only [vcA, seval, vV, bmV]; with_reducible rfl)
  simp only [vcA, seval, vV, bmV, q45]
  rw [show V.rows [e1] = [V.row e1] from rfl, row4]
 have h45 : isSg (pkP L sz p) [45] = false := by simpa using h45
 rw [h45, if_neg (by simp)] at T45
 rw [if_neg (by simp [h45])] at h
 have HP := peek_ok g L p sz (by omega)
 have w1 : IntKind.i64.wrap ((p : Int) + 1) = ((p + 1 : Nat) : Int) := by unfold maxLen at hml; rw [wrap64 (by omega) (by omega)]; omega
 have hin := fun hk => pk_in L sz (p := p) rfl hk
 generalize hq : pkP L sz p = q at *
 by_cases k1 : q.k = 1
 ·rw [if_pos k1] at h
  cases h
  refine SCalls.out ?_ (nv_out 1 q.n [])
  refine call_of hmix tf_6 rfl rfl rfl ?_
  unfold pB pcs B pcT at *
  simp only [vcA, seval, vV, bmV, q40]
  (with_reducible apply v_call); (· simp only [vcA, seval, vV, bmV]; with_reducible rfl); (· rfl); (· exact T40); (· first | rfl | (simp only [vcA, seval]; omega)); (· simp only [vcA, seval, vV, bmV]; with_reducible rfl)
  simp only [vcA, seval, vV, bmV, q45]
  (with_reducible apply v_call); (· simp only [vcA, seval, vV, bmV]; with_reducible rfl); (· rfl); (· exact T45); (· first | rfl | (simp only [vcA, seval]; omega)); (· simp only [vcA, seval, vV, bmV]; with_reducible rfl)
  simp only [vcA, seval, vV, bmV]
  (with_reducible apply v_call); (· simp only [vcA, seval, vV, bmV]; with_reducible rfl); (· rfl); (· exact HP); (· first | rfl | (simp only [vcA, seval]; omega)); (· simp only [vcA, seval, vV, bmV]; with_reducible rfl)
  simp only [vcA, seval, vV, bmV, k1, w1]
  rfl
 rw [if_neg k1] at h
 by_cases k2 : q.k = 2
 ·rw [if_pos k2] at h
  cases h
  refine SCalls.out ?_ (nv_out 2 0 q.s)
  refine call_of hmix tf_6 rfl rfl rfl ?_
  unfold pB pcs B pcT at *
  simp only [vcA, seval, vV, bmV, q40]
  (with_reducible apply v_call); (· simp only [vcA, seval, vV, bmV]; with_reducible rfl); (· rfl); (· exact T40); (· first | rfl | (simp only [vcA, seval]; omega)); (· simp only [vcA, seval, vV, bmV]; with_reducible rfl)
  simp only [vcA, seval, vV, bmV, q45]
  (with_reducible apply v_call); (· simp only [vcA, seval, vV, bmV]; with_reducible rfl); (· rfl); (· exact T45); (· first | rfl | (simp only [vcA, seval]; omega)); (· simp only [vcA, seval, vV, bmV]; with_reducible rfl)
  simp only [vcA, seval, vV, bmV]
  (with_reducible apply v_call); (· simp only [vcA, seval, vV, bmV]; with_reducible rfl); (· rfl); (· exact HP); (· first | rfl | (simp only [vcA, seval]; omega)); (· simp only [vcA, seval, vV, bmV]; with_reducible rfl)
  simp only [vcA, seval, vV, bmV, k2, w1]
 rw [if_neg k2] at h
 by_cases k3 : q.k = 3
 ·rw [if_pos k3] at h
  have hlt := hin (by rw [k3]; decide)
  have HK := takes_ok g q.s
  obtain ⟨t0, t3⟩ := takes_rng q.s
  have T2 := take_ok g L (p + 1) sz [40] (by omega) (by omega)
  have hin2 : isSg (pkP L sz (p + 1)) [40] = true → p + 1 < L.length := fun h => isSg_in L sz h
  generalize isSg (pkP L sz (p + 1)) [40] = b at *
  generalize ht : takesV q.s = t at *
  by_cases hc : 0 < t ∧ b = true
  ·rw [if_pos hc] at h
   obtain ⟨hc1, rfl⟩ := hc
   rw [if_pos rfl] at T2
   cases he : pH L sz f t.toNat 0 (p + 2) [] with
   | none => rw [he] at h; cases h
   | some r =>
   cases r with
   | bad a q' => rw [he] at h; cases h
   | ok l p1 =>
   rw [he] at h
   cases h
   have HH := things_ok_of hL (fun f' hf' => (ih f' (by omega)).1) t.toNat (p + 2) l p' (by omega) (by omega) (hin2 rfl) he
   have ht2 : ((t.toNat : Nat) : Int) = t := by omega
   rw [ht2] at HH
   refine call_of hmix tf_6 rfl rfl rfl ?_
   unfold pB pcs B pcT at *
   simp only [vcA, seval, vV, bmV, q40]
   (with_reducible apply v_call); (· simp only [vcA, seval, vV, bmV]; with_reducible rfl); (· rfl); (· exact T40); (· first | rfl | (simp only [vcA, seval]; omega)); (· simp only [vcA, seval, vV, bmV]; with_reducible rfl)
   simp only [vcA, seval, vV, bmV, q45]
   (with_reducible apply v_call); (· simp only [vcA, seval, vV, bmV]; with_reducible rfl); (· rfl); (· exact T45); (· first | rfl | (simp only [vcA, seval]; omega)); (· simp only [vcA, seval, vV, bmV]; with_reducible rfl)
   simp only [vcA, seval, vV, bmV]
   (with_reducible apply v_call); (· simp only [vcA, seval, vV, bmV]; with_reducible rfl); (· rfl); (· exact HP); (· first | rfl | (simp only [vcA, seval]; omega)); (· simp only [vcA, seval, vV, bmV]; with_reducible rfl)
   simp only [vcA, seval, vV, bmV, k3, w1]
   (with_reducible apply v_call); (· simp only [vcA, seval, vV]; with_reducible rfl); (· rfl); (· exact HK); (· first | rfl | (simp only [vcA, seval]; omega)); (· simp only [vcA, seval, vV]; with_reducible rfl)
   simp only [vcA, seval, vV, bmV, hc1, q40]
   (with_reducible apply v_call); (· simp only [vcA, seval, vV, bmV]; with_reducible rfl); (· rfl); (· exact T2); (· first | rfl | (simp only [vcA, seval]; omega)); (· simp only [vcA, seval, vV, bmV]; with_reducible rfl)
   simp only [vcA, seval, vV, bmV]
   (with_reducible apply vq_n)
   simp only [vcA, seval, vV, bmV]
   (with_reducible apply v_call); (· simp only [vcA, seval, vV, bmV]; with_reducible rfl); (· rfl); (· exact HH); (· first | rfl | (simp only [vcA, seval]; omega)); (· simp only [vcA, seval, vV, bmV]; with_reducible rfl)
   simp only [vcA, seval, vV, bmV]
  ·rw [if_neg hc] at h
   cases h
   refine SCalls.out ?_ (nv_out 3 0 q.s)
   refine call_of hmix tf_6 rfl rfl rfl ?_
   unfold pB pcs B pcT at *
   simp only [vcA, seval, vV, bmV, q40]
   (with_reducible apply v_call); (· simp only [vcA, seval, vV, bmV]; with_reducible rfl); (· rfl); (· exact T40); (· first | rfl | (simp only [vcA, seval]; omega)); (· simp only [vcA, seval, vV, bmV]; with_reducible rfl)
   simp only [vcA, seval, vV, bmV, q45]
   (with_reducible apply v_call); (· simp only [vcA, seval, vV, bmV]; with_reducible rfl); (· rfl); (· exact T45); (· first | rfl | (simp only [vcA, seval]; omega)); (· simp only [vcA, seval, vV, bmV]; with_reducible rfl)
   simp only [vcA, seval, vV, bmV]
   (with_reducible apply v_call); (· simp only [vcA, seval, vV, bmV]; with_reducible rfl); (· rfl); (· exact HP); (· first | rfl | (simp only [vcA, seval]; omega)); (· simp only [vcA, seval, vV, bmV]; with_reducible rfl)
   simp only [vcA, seval, vV, bmV, k3, w1]
   (with_reducible apply v_call); (· simp only [vcA, seval, vV]; with_reducible rfl); (· rfl); (· exact HK); (· first | rfl | (simp only [vcA, seval]; omega)); (· simp only [vcA, seval, vV]; with_reducible rfl)
   by_cases hc1 : 0 < t
   ·have hb : b = false := by simpa [hc1] using hc
    rw [hb, if_neg (by simp)] at T2
    simp only [vcA, seval, vV, bmV, hc1, q40]
    (with_reducible apply v_call); (· simp only [vcA, seval, vV, bmV]; with_reducible rfl); (· rfl); (· exact T2); (· first | rfl | (simp only [vcA, seval]; omega)); (· simp only [vcA, seval, vV, bmV]; with_reducible rfl)
    simp only [vcA, seval, vV, bmV]
   ·simp only [vcA, seval, vV, bmV, hc1]
 rw [if_neg k3] at h
 cases h
theorem tight_bad_of {f : Nat} (hL : L.length ≤ 4611686018427387904) (ih : ∀ f', f' < f → EOk g L sz f' ∧ EBad g L sz f' ∧ TOk g L sz f' ∧ TBad g L sz f') : TBad g L sz f := by
 intro p a p' hp h
 have hml : L.length < maxLen := by unfold maxLen; omega
 cases f with
 | zero => simp [pT] at h
 | succ f =>
 have T40 := take_ok g L p sz [40] (by omega) (by omega)
 have T45 := take_ok g L p sz [45] (by omega) (by omega)
 have q40 : (⟨#[40]⟩ : ByteArray) = str [40] := rfl
 have q41 : (⟨#[41]⟩ : ByteArray) = str [41] := rfl
 have q45 : (⟨#[45]⟩ : ByteArray) = str [45] := rfl
 rw [pT] at h
 refine pan_of hmix tf_6 rfl rfl rfl ?_
 by_cases h40 : isSg (pkP L sz p) [40] = true
 ·rw [if_pos h40] at h
  rw [h40, if_pos rfl] at T40
  have hlt := isSg_in L sz h40
  unfold pB pcs B wrongV at *
  simp only [vcA, seval, vV, bmV, q40]
  (with_reducible apply v_call); (· simp only [vcA, seval, vV, bmV]; with_reducible rfl); (· rfl); (· exact T40); (· first | rfl | (simp only [vcA, seval]; omega)); (· simp only [vcA, seval, vV, bmV]; with_reducible rfl)
  simp only [vcA, seval, vV, bmV]
  cases he : pE L sz f 1 (p + 1) with
  | none => rw [he] at h; cases h
  | some r =>
  cases r with
  | bad a q' =>
   rw [he] at h; cases h
   have HE := (ih f (Nat.lt_succ_self f)).2.1 1 (p + 1) a p' (by omega) (by omega) hlt he
   unfold pB pcs wrongV at HE
   (with_reducible apply vq_p)
   simp only [vcA, seval, vV, bmV]
   (with_reducible apply vp_call); (· rfl); (· simp only [vcA, seval, vV, bmV]; with_reducible rfl); (· exact HE); (· first | rfl | (simp only [vcA, seval]; omega)); (· simp only [vcA, seval, vV, bmV]; with_reducible rfl); simp only [vcA, seval, vV, bmV]
  | ok e1 p1 =>
  rw [he] at h
  simp only at h
  have HE := (ih f (Nat.lt_succ_self f)).1 1 (p + 1) e1 p1 (by omega) (by omega) hlt he
  have hp1 := (p_le L sz f).1 _ _ _ _ hlt he
  unfold pB pcs at HE
  (with_reducible apply vq_n)
  simp only [vcA, seval, vV, bmV]
  (with_reducible apply v_call); (· simp only [vcA, seval, vV, bmV]; with_reducible rfl); (· rfl); (· exact HE); (· first | rfl | (simp only [vcA, seval]; omega)); (· simp only [vcA, seval, vV, bmV]; with_reducible rfl)
  simp only [vcA, seval, vV, bmV]
  split at h
  ·cases h
  ·rename_i h41
   cases h
   have HN := need_pan g L p' sz [41] (by omega) (by omega) (by simpa using h41)
   unfold pB pcs wrongV at HN
   (with_reducible apply vq_p)
   simp only [vcA, seval, vV, bmV, q41]
   (with_reducible apply vp_call); (· rfl); (· simp only [vcA, seval, vV, bmV]; with_reducible rfl); (· exact HN); (· first | rfl | (simp only [vcA, seval]; omega)); (· simp only [vcA, seval, vV, bmV]; with_reducible rfl); simp only [vcA, seval, vV, bmV]
 have h40 : isSg (pkP L sz p) [40] = false := by simpa using h40
 rw [h40, if_neg (by simp)] at T40
 rw [if_neg (by simp [h40])] at h
 by_cases h45 : isSg (pkP L sz p) [45] = true
 ·rw [if_pos h45] at h
  rw [h45, if_pos rfl] at T45
  have hlt := isSg_in L sz h45
  unfold pB pcs B wrongV at *
  simp only [vcA, seval, vV, bmV, q40]
  (with_reducible apply v_call); (· simp only [vcA, seval, vV, bmV]; with_reducible rfl); (· rfl); (· exact T40); (· first | rfl | (simp only [vcA, seval]; omega)); (· simp only [vcA, seval, vV, bmV]; with_reducible rfl)
  simp only [vcA, seval, vV, bmV, q45]
  (with_reducible apply v_call); (· simp only [vcA, seval, vV, bmV]; with_reducible rfl); (· rfl); (· exact T45); (· first | rfl | (simp only [vcA, seval]; omega)); (· simp only [vcA, seval, vV, bmV]; with_reducible rfl)
  simp only [vcA, seval, vV, bmV]
  cases he : pT L sz f (p + 1) with
  | none => rw [he] at h; cases h
  | some r =>
  cases r with
  | ok e1 q' => rw [he] at h; cases h
  | bad a q' =>
  rw [he] at h
  cases h
  have HE := (ih f (Nat.lt_succ_self f)).2.2.2 (p + 1) a p' hlt he
  unfold pB pcs wrongV at HE
  (with_reducible apply vq_p)
  simp only [vcA, seval, vV, bmV]
  (with_reducible apply vp_call); (· rfl); (· simp only [vcA, seval, vV, bmV]; with_reducible rfl); (· exact HE); (· first | rfl | (simp only [vcA, seval]; omega)); (· simp only [vcA, seval, vV, bmV]; with_reducible rfl); simp only [vcA, seval, vV, bmV]
 have h45 : isSg (pkP L sz p) [45] = false := by simpa using h45
 rw [h45, if_neg (by simp)] at T45
 rw [if_neg (by simp [h45])] at h
 have HP := peek_ok g L p sz (by omega)
 have w1 : IntKind.i64.wrap ((p : Int) + 1) = ((p + 1 : Nat) : Int) := by unfold maxLen at hml; rw [wrap64 (by omega) (by omega)]; omega
 have hin := fun hk => pk_in L sz (p := p) rfl hk
 have HK := takes_ok g (pkP L sz p).s
 have T2 := take_ok g L (p + 1) sz [40] (by omega)
 have hin2 : isSg (pkP L sz (p + 1)) [40] = true → p + 1 < L.length := fun h => isSg_in L sz h
 generalize isSg (pkP L sz (p + 1)) [40] = b at *
 generalize hq : pkP L sz p = q at *
 unfold pB pcs B pcT wrongV at *
 simp only [vcA, seval, vV, bmV, q40]
 (with_reducible apply v_call); (· simp only [vcA, seval, vV, bmV]; with_reducible rfl); (· rfl); (· exact T40); (· first | rfl | (simp only [vcA, seval]; omega)); (· simp only [vcA, seval, vV, bmV]; with_reducible rfl)
 simp only [vcA, seval, vV, bmV, q45]
 (with_reducible apply v_call); (· simp only [vcA, seval, vV, bmV]; with_reducible rfl); (· rfl); (· exact T45); (· first | rfl | (simp only [vcA, seval]; omega)); (· simp only [vcA, seval, vV, bmV]; with_reducible rfl)
 simp only [vcA, seval, vV, bmV]
 (with_reducible apply v_call); (· simp only [vcA, seval, vV, bmV]; with_reducible rfl); (· rfl); (· exact HP); (· first | rfl | (simp only [vcA, seval]; omega)); (· simp only [vcA, seval, vV, bmV]; with_reducible rfl)
 by_cases k1 : q.k = 1
 ·rw [if_pos k1] at h; cases h
 rw [if_neg k1] at h
 by_cases k2 : q.k = 2
 ·rw [if_pos k2] at h; cases h
 rw [if_neg k2] at h
 by_cases k3 : q.k = 3
 ·rw [if_pos k3] at h
  have hlt := hin (by rw [k3]; decide)
  obtain ⟨t0, t3⟩ := takes_rng q.s
  have T2 := T2 (by omega)
  generalize ht : takesV q.s = t at *
  by_cases hc : 0 < t ∧ b = true
  ·rw [if_pos hc] at h
   obtain ⟨hc1, rfl⟩ := hc
   rw [if_pos rfl] at T2
   cases he : pH L sz f t.toNat 0 (p + 2) [] with
   | none => rw [he] at h; cases h
   | some r =>
   cases r with
   | ok l p1 => rw [he] at h; cases h
   | bad a q' =>
   rw [he] at h
   cases h
   have HH := things_bad_of hL (fun f' hf' => (ih f' (by omega)).1) (fun f' hf' => (ih f' (by omega)).2.1) t.toNat (p + 2) a p' (by omega) (by omega) (hin2 rfl) he
   have ht2 : ((t.toNat : Nat) : Int) = t := by omega
   rw [ht2] at HH
   unfold pB pcs wrongV at HH
   simp only [vcA, seval, vV, bmV, k3, w1]
   (with_reducible apply v_call); (· simp only [vcA, seval, vV]; with_reducible rfl); (· rfl); (· exact HK); (· first | rfl | (simp only [vcA, seval]; omega)); (· simp only [vcA, seval, vV]; with_reducible rfl)
   simp only [vcA, seval, vV, bmV, hc1, q40]
   (with_reducible apply v_call); (· simp only [vcA, seval, vV, bmV]; with_reducible rfl); (· rfl); (· exact T2); (· first | rfl | (simp only [vcA, seval]; omega)); (· simp only [vcA, seval, vV, bmV]; with_reducible rfl)
   simp only [vcA, seval, vV, bmV]
   (with_reducible apply vq_p)
   simp only [vcA, seval, vV, bmV]
   (with_reducible apply vp_call); (· rfl); (· simp only [vcA, seval, vV, bmV]; with_reducible rfl); (· exact HH); (· first | rfl | (simp only [vcA, seval]; omega)); (· simp only [vcA, seval, vV, bmV]; with_reducible rfl); simp only [vcA, seval, vV, bmV]
  ·rw [if_neg hc] at h
   cases h
 rw [if_neg k3] at h
 cases h
 simp only [vcA, seval, vV, bmV, k1, k2, k3, w1]
 (with_reducible apply vq_p)
 simp only [vcA, seval, vV, bmV]
theorem parser_ok (hL : L.length ≤ 4611686018427387904) (f : Nat) : EOk g L sz f ∧ EBad g L sz f ∧ TOk g L sz f ∧ TBad g L sz f := by
 induction f using Nat.strongRecOn with
 | _ f ih => exact ⟨expr_ok_of hL ih, expr_bad_of hL ih, tight_ok_of hL ih, tight_bad_of hL ih⟩
end
end Go.Proofs.YtmiokadmddjccaaGreatDoor
end

section
namespace Go.Proofs.YtmiokadmddjccaaGreatDoor
open Go Go.RowKit Go.Mor Go.Sh
def byR (l : List UInt8) : List (List PV) := l.map fun u => [.v (.int .u8 u.toNat)]
theorem byP (l : List UInt8) : bytesP (str l) = byR l := by simp [bytesP, byR, str]
theorem byApp (a b : List UInt8) : byR a ++ byR b = byR (a ++ b) := by simp [byR]
theorem byLen (a : List UInt8) : (byR a).length = a.length := by simp [byR]
theorem bySeq : ∀ (a : List UInt8), seqO Sh.byteOf (byR a) = some a
 | [] => rfl
 | u :: a => by
  have ih := bySeq a
  unfold byR at ih ⊢
  simp only [List.map_cons, seqO, ih, Sh.byteOf]
  simp
theorem strMk (l : List UInt8) : (⟨l.toArray⟩ : ByteArray) = str l := rfl
end Go.Proofs.YtmiokadmddjccaaGreatDoor
end

section
namespace Go.Sh.Cd4
open Go Go.Sh
set_option maxRecDepth 100000
abbrev c_10_0 : SCode := .reg [([2], [oD 2 (.box (.tmp 0)), oD 4 (.mov (.val (.int .i64 0))), oD 5 (.mov (.val (.int .i64 0)))])] [0, 4, 5]
abbrev c_10_1 : SCode := .reg [([2036, 2037, 2038, 2039], [oL 8 true 2 2, oD 9 (.call 69 0 [.tmp 8]), oD 10 (.un .not (.tmp 9))])] [8, 9]
abbrev c_10_2 : SCode := .reg [([], [oD 4 (.mov (.val (.int .i64 0))), oD 5 (.mov (.val (.int .i64 40)))])] [1, 2, 10]
abbrev c_10_3 : SCode := .reg [([], [oM 11 1, oD 12 (.len (.tmp 11)), oD 13 (.fldA 1 (.tmp 2)), oL 14 false 1 13, oD 15 (.len (.tmp 14)), oD 16 (.bin .neq 3 (.tmp 12) (.tmp 15))])] [4, 5, 10, 11, 12, 13, 14, 15]
abbrev c_10_4 : SCode := .reg [([], [oM 17 1, oD 18 (.len (.tmp 17)), oD 19 (.fldA 1 (.tmp 2)), oL 20 false 1 19, oD 21 (.len (.tmp 20)), oD 22 (.imm false (.tmp 18) (.tmp 21)), oM 4 22, oD 5 (.mov (.val (.int .i64 42)))])] [1, 2, 16, 17, 18, 19, 20, 21, 22]
abbrev c_10_5 : SCode := .reg [([], [oD 23 (.fldA 1 (.tmp 2)), oL 24 false 1 23, oD 25 (.len (.tmp 24)), oD 26 (.mov (.val (.int .i64 0)))])] [2, 4, 5, 16, 23]
abbrev c_10_6 : SCode := .reg [([], [oD 27 (.bin .lss 3 (.tmp 26) (.tmp 25))])] []
abbrev c_10_7 : SCode := .reg [([7], [oM 28 26, oD 29 (.idxA 4 (.tmp 24) (.tmp 26)), oL 30 true 4 29, oD 7 (.new [(.string ⟨#[]⟩), (.int .i64 0), (.int .i64 0), (.bool false)]), oM 6 28, oN (.st 4 (.tmp 7) (.tmp 30))])] [27, 28, 29, 30]
abbrev c_10_8 : SCode := .reg [([2148, 2149, 2150, 2151], [oM 31 1, oM 32 6, oD 33 (.idxA 4 (.tmp 31) (.tmp 32)), oL 34 true 4 33, oD 35 (.fldA 1 (.tmp 7)), oL 36 true 2 35, oD 37 (.call 56 0 [.tmp 34, .tmp 36]), oD 38 (.un .not (.tmp 37))])] [7, 31, 32, 33, 34, 35, 36, 37]
abbrev c_10_9 : SCode := .reg [([], [oM 39 6, oM 4 39, oD 5 (.mov (.val (.int .i64 42)))])] [1, 6, 24, 25, 26, 38, 39]
abbrev c_10_10 : SCode := .reg [([], [oD 40 (.bin .add 3 (.tmp 26) (.val (.int .i64 1))), oM 26 40])] [4, 5, 6, 38, 40]
abbrev c_10_11 : SCode := (.seq c_10_6 (.seq (.cond (.tmp 27) .skip (.exit 0)) (.seq (.block 1 (.seq c_10_7 (.seq c_10_8 (.cond (.tmp 38) (.seq c_10_9 .ret) .skip)))) c_10_10)))
abbrev c_10_12 : SCode := .reg [([], [oD 4 (.mov (.val (.int .i64 0))), oD 5 (.mov (.val (.int .i64 0)))])] [1, 24, 25, 26]
abbrev F_10 : SFunc := ⟨41, (.seq c_10_0 (.seq (.seq c_10_1 (.cond (.tmp 10) (.seq c_10_2 .ret) .skip)) (.seq (.seq c_10_3 (.cond (.tmp 16) (.seq c_10_4 .ret) .skip)) (.seq (.seq c_10_5 (.block 0 (.loop c_10_11))) (.seq c_10_12 .ret))))), [.tmp 4, .tmp 5], false⟩
theorem tf_10 : transFunc Go.Proofs.Tryz.prog 28 (hintT [(9, 0), (37, 0)]) (fpT []) (killT (klN 0 F_10.code.kl)) false = some F_10 := by kernel_rfl
abbrev c_11_0 : SCode := .reg [([2, 3], [oD 2 (.box (.tmp 0)), oD 3 (.box (.tmp 1)), oD 4 (.mov (.val (.int .i64 0))), oD 5 (.mov (.val (.bool false)))])] [0, 1, 4, 5]
abbrev c_11_1 : SCode := .reg [([2040, 2041, 2042, 2043], [oD 7 (.fldA 1 (.tmp 2)), oL 8 false 1 7, oD 9 (.mkf (.func 119) [] [.tmp 3]), oD 10 (.call 118 1 [.tmp 8, .tmp 9]), oM 6 10])] [2, 3, 7, 8, 9, 10]
abbrev c_11_2 : SCode := .reg [([], [oM 11 6, oD 12 (.bin .lss 3 (.tmp 11) (.val (.int .i64 0)))])] [11]
abbrev c_11_3 : SCode := .reg [([], [oD 4 (.mov (.val (.int .i64 0))), oD 5 (.mov (.val (.bool false)))])] [6, 12]
abbrev c_11_4 : SCode := .reg [([], [oM 13 6, oM 4 13, oD 5 (.mov (.val (.bool true)))])] [6, 12, 13]
abbrev F_11 : SFunc := ⟨14, (.seq c_11_0 (.seq c_11_1 (.seq (.seq c_11_2 (.cond (.tmp 12) (.seq c_11_3 .ret) .skip)) (.seq c_11_4 .ret)))), [.tmp 4, .tmp 5], false⟩
theorem tf_11 : transFunc Go.Proofs.Tryz.prog 67 (hintT [(10, 1)]) (fpT []) (killT (klN 0 F_11.code.kl)) false = some F_11 := by kernel_rfl
abbrev c_13_0 : SCode := .reg [([1], [oD 1 (.box (.tmp 0)), oD 2 (.mov (.val (.bool false)))])] [0, 2]
abbrev c_13_1 : SCode := .reg [([2036, 2037, 2038, 2039], [oD 7 (.fldA 0 (.tmp 1)), oL 8 false 1 7, oD 9 (.call 120 0 [.tmp 8]), oD 10 (.un .not (.tmp 9)), oM 11 10, oG 12 11 false (.fldA 1 (.tmp 1)), oG 13 11 false (.ld false 1 (.tmp 12)), oG 14 11 false (.len (.tmp 13)), oG 15 11 false (.bin .gtr 3 (.tmp 14) (.val (.int .i64 8))), oQ 16 11 15 true])] [7, 8, 9, 10, 11, 12, 13, 14, 15]
abbrev c_13_2 : SCode := .reg [([], [oD 2 (.mov (.val (.bool false)))])] [1, 16]
abbrev c_13_3 : SCode := .reg [([], [oD 17 (.fldA 1 (.tmp 1)), oL 18 false 1 17, oD 19 (.len (.tmp 18)), oD 20 (.mov (.val (.int .i64 0)))])] [2, 16, 17]
abbrev c_13_4 : SCode := .reg [([], [oD 21 (.bin .lss 3 (.tmp 20) (.tmp 19))])] []
abbrev c_13_5 : SCode := .reg [([4], [oM 22 20, oD 23 (.idxA 4 (.tmp 18) (.tmp 20)), oL 24 true 4 23, oD 4 (.new [(.string ⟨#[]⟩), (.int .i64 0), (.int .i64 0), (.bool false)]), oM 3 22, oN (.st 4 (.tmp 4) (.tmp 24))])] [21, 22, 23, 24]
abbrev c_13_6 : SCode := .reg [([2104, 2105, 2106, 2107], [oL 25 true 4 4, oD 26 (.call 121 0 [.tmp 25]), oD 27 (.un .not (.tmp 26))])] [25, 26]
abbrev c_13_7 : SCode := .reg [([], [oD 2 (.mov (.val (.bool false)))])] [1, 3, 4, 18, 19, 20, 27]
abbrev c_13_8 : SCode := .reg [([2128, 2129, 2130, 2131], [oL 29 true 2 1, oD 30 (.fldA 0 (.tmp 4)), oL 31 false 1 30, oD 32 (.call 67 0 [.tmp 29, .tmp 31]), oM 28 32, oD 33 (.ext (.tmp 28) 0), oD 34 (.ext (.tmp 28) 1), oM 5 33, oM 6 34])] [2, 4, 6, 27, 28, 29, 30, 31, 32, 33, 34]
abbrev c_13_9 : SCode := .reg [([], [oM 35 5, oM 36 3, oD 37 (.bin .neq 3 (.tmp 35) (.tmp 36))])] [3, 5, 35, 36]
abbrev c_13_10 : SCode := .reg [([], [oD 2 (.mov (.val (.bool false)))])] [1, 18, 19, 20, 37]
abbrev c_13_11 : SCode := .reg [([], [oD 38 (.bin .add 3 (.tmp 20) (.val (.int .i64 1))), oM 20 38])] [2, 37, 38]
abbrev c_13_12 : SCode := (.seq c_13_4 (.seq (.cond (.tmp 21) .skip (.exit 0)) (.seq (.block 1 (.seq c_13_5 (.seq (.seq c_13_6 (.cond (.tmp 27) (.seq c_13_7 .ret) .skip)) (.seq c_13_8 (.seq c_13_9 (.cond (.tmp 37) (.seq c_13_10 .ret) .skip)))))) c_13_11)))
abbrev c_13_13 : SCode := .reg [([], [oD 2 (.mov (.val (.bool true)))])] [1, 18, 19, 20]
abbrev F_13 : SFunc := ⟨39, (.seq c_13_0 (.seq (.seq c_13_1 (.cond (.tmp 16) (.seq c_13_2 .ret) .skip)) (.seq (.seq c_13_3 (.block 0 (.loop c_13_12))) (.seq c_13_13 .ret)))), [.tmp 2], false⟩
theorem tf_13 : transFunc Go.Proofs.Tryz.prog 69 (hintT [(9, 0), (26, 0), (32, 0)]) (fpT []) (killT (klN 0 F_13.code.kl)) false = some F_13 := by kernel_rfl
abbrev c_14_0 : SCode := .reg [([1], [oD 1 (.box (.tmp 0)), oD 2 (.mov (.val (.bool false)))])] [0, 2]
abbrev c_14_1 : SCode := .reg [([], [oD 3 (.fldA 0 (.tmp 1)), oL 4 false 1 3, oD 5 (.bin .eql 3 (.tmp 4) (.val (.int .i64 5)))])] [3, 4]
abbrev c_14_2 : SCode := .reg [([], [oD 6 (.fldA 1 (.tmp 1)), oL 7 false 1 6, oD 8 (.bin .geq 3 (.tmp 7) (.val (.int .i64 1))), oM 9 8, oG 10 9 true (.fldA 1 (.tmp 1)), oG 11 9 true (.ld false 1 (.tmp 10)), oG 12 9 true (.bin .leq 3 (.tmp 11) (.val (.int .i64 4))), oP 13 9 12 false, oM 2 13])] [1, 5, 6, 7, 8, 9, 10, 11, 12, 13]
abbrev c_14_3 : SCode := .reg [([], [oD 14 (.fldA 0 (.tmp 1)), oL 15 false 1 14, oD 16 (.bin .geq 3 (.tmp 15) (.val (.int .i64 1))), oM 17 16, oG 18 17 true (.fldA 0 (.tmp 1)), oG 19 17 true (.ld false 1 (.tmp 18)), oG 20 17 true (.bin .leq 3 (.tmp 19) (.val (.int .i64 4))), oP 21 17 20 false, oM 22 21, oG 23 22 true (.fldA 1 (.tmp 1)), oG 24 22 true (.ld false 1 (.tmp 23)), oG 25 22 true (.bin .eql 3 (.tmp 24) (.val (.int .i64 0))), oP 26 22 25 false, oM 2 26])] [1, 5, 14, 15, 16, 17, 18, 19, 20, 21, 22, 23, 24, 25, 26]
abbrev F_14 : SFunc := ⟨27, (.seq c_14_0 (.seq (.seq c_14_1 (.cond (.tmp 5) (.seq c_14_2 .ret) .skip)) (.seq c_14_3 .ret))), [.tmp 2], false⟩
theorem tf_14 : transFunc Go.Proofs.Tryz.prog 70 (hintT []) (fpT []) (killT (klN 0 F_14.code.kl)) false = some F_14 := by kernel_rfl
abbrev c_81_0 : SCode := .reg [([], [oD 4 (.mov (.val (.int .i64 0)))])] [4]
abbrev c_81_1 : SCode := .reg [([], [oM 6 0, oD 7 (.len (.tmp 6)), oD 8 (.mov (.val (.int .i64 0)))])] [6]
abbrev c_81_2 : SCode := .reg [([], [oD 9 (.bin .lss 3 (.tmp 8) (.tmp 7))])] []
abbrev c_81_3 : SCode := .reg [([], [oM 10 8, oM 5 10])] [9, 10]
abbrev c_81_4 : SCode := .reg [([2064, 2065, 2066, 2067], [oM 11 1, oM 12 0, oM 13 5, oD 14 (.idxA 4 (.tmp 12) (.tmp 13)), oL 15 true 4 14, oD 16 (.callv (.tmp 11) 1 [.tmp 15])])] [11, 12, 13, 14, 15]
abbrev c_81_5 : SCode := .reg [([], [oM 17 5, oM 4 17])] [0, 1, 5, 7, 8, 16, 17]
abbrev c_81_6 : SCode := .reg [([], [oD 18 (.bin .add 3 (.tmp 8) (.val (.int .i64 1))), oM 8 18])] [4, 5, 16, 18]
abbrev c_81_7 : SCode := (.seq c_81_2 (.seq (.cond (.tmp 9) .skip (.exit 0)) (.seq (.block 1 (.seq c_81_3 (.seq c_81_4 (.cond (.tmp 16) (.seq c_81_5 .ret) .skip)))) c_81_6)))
abbrev c_81_8 : SCode := .reg [([], [oD 4 (.mov (.val (.int .i64 (-1))))])] [0, 1, 7, 8]
abbrev F_81 : SFunc := ⟨19, (.seq c_81_0 (.seq (.seq c_81_1 (.block 0 (.loop c_81_7))) (.seq c_81_8 .ret))), [.tmp 4], false⟩
theorem tf_81 : transFunc Go.Proofs.Tryz.prog 118 (hintT [(16, 1)]) (fpT []) (killT (klN 0 F_81.code.kl)) false = some F_81 := by kernel_rfl
abbrev c_12_0 : SCode := .reg [([2], [oD 2 (.box (.tmp 0)), oD 3 (.mov (.val (.bool false)))])] [0, 3]
abbrev c_12_1 : SCode := .reg [([], [oD 4 (.fldA 0 (.tmp 2)), oL 5 false 1 4, oL 6 false 1 1, oD 7 (.bin .eql 9 (.tmp 5) (.tmp 6)), oM 3 7])] [1, 2, 4, 5, 6, 7]
abbrev F_12 : SFunc := ⟨8, (.seq c_12_0 (.seq c_12_1 .ret)), [.tmp 3], false⟩
theorem tf_12 : transFunc Go.Proofs.Tryz.prog 119 (hintT []) (fpT []) (killT (klN 0 F_12.code.kl)) false = some F_12 := by kernel_rfl
abbrev c_16_0 : SCode := .reg [([], [oD 2 (.mov (.val (.bool false)))])] [2]
abbrev c_16_1 : SCode := .reg [([2060, 2061, 2062, 2063], [oM 4 0, oD 5 (.slen (.tmp 4)), oD 6 (.bin .lss 3 (.tmp 5) (.val (.int .i64 1))), oM 7 6, oH 8 7 false 0, oG 9 7 false (.slen (.tmp 8)), oG 10 7 false (.bin .gtr 3 (.tmp 9) (.val (.int .i64 20))), oQ 11 7 10 true, oM 12 11, oH 13 12 false 0, oG 14 12 false (.sidx (.tmp 13) (.val (.int .i64 0))), oG 15 12 false (.call 181 0 [.tmp 14]), oG 16 12 false (.un .not (.tmp 15)), oQ 17 12 16 true])] [4, 5, 6, 7, 8, 9, 10, 11, 12, 13, 14, 15, 16]
abbrev c_16_2 : SCode := .reg [([], [oD 2 (.mov (.val (.bool false)))])] [0, 17]
abbrev c_16_3 : SCode := .reg [([], [oM 18 0, oD 19 (.slen (.tmp 18)), oD 20 (.mov (.val (.int .i64 0)))])] [2, 17, 18]
abbrev c_16_4 : SCode := .reg [([], [oD 21 (.bin .lss 3 (.tmp 20) (.tmp 19))])] []
abbrev c_16_5 : SCode := .reg [([], [oM 22 20, oM 3 22])] [21, 22]
abbrev c_16_6 : SCode := .reg [([2104, 2105, 2106, 2107], [oM 23 0, oM 24 3, oD 25 (.sidx (.tmp 23) (.tmp 24)), oD 26 (.call 181 0 [.tmp 25]), oD 27 (.un .not (.tmp 26)), oM 28 27, oH 29 28 true 0, oH 30 28 true 3, oG 31 28 true (.sidx (.tmp 29) (.tmp 30)), oG 32 28 true (.bin .lss 5 (.tmp 31) (.val (.int .u8 48))), oH 33 28 true 32, oH 34 33 false 0, oH 35 33 false 3, oG 36 33 false (.sidx (.tmp 34) (.tmp 35)), oG 37 33 false (.bin .gtr 5 (.tmp 36) (.val (.int .u8 57))), oG 38 28 true (.pick (.tmp 33) (.val (.bool true)) (.tmp 37)), oP 39 28 38 false, oM 40 39, oH 41 40 true 0, oH 42 40 true 3, oG 43 40 true (.sidx (.tmp 41) (.tmp 42)), oG 44 40 true (.bin .neq 5 (.tmp 43) (.val (.int .u8 95))), oP 45 40 44 false])] [3, 23, 24, 25, 26, 27, 28, 29, 30, 31, 32, 33, 34, 35, 36, 37, 38, 39, 40, 41, 42, 43, 44]
abbrev c_16_7 : SCode := .reg [([], [oD 2 (.mov (.val (.bool false)))])] [0, 19, 20, 45]
abbrev c_16_8 : SCode := .reg [([], [oD 46 (.bin .add 3 (.tmp 20) (.val (.int .i64 1))), oM 20 46])] [2, 45, 46]
abbrev c_16_9 : SCode := (.seq c_16_4 (.seq (.cond (.tmp 21) .skip (.exit 0)) (.seq (.block 1 (.seq c_16_5 (.seq c_16_6 (.cond (.tmp 45) (.seq c_16_7 .ret) .skip)))) c_16_8)))
abbrev c_16_10 : SCode := .reg [([], [oD 2 (.mov (.val (.bool true)))])] [0, 19, 20]
abbrev F_16 : SFunc := ⟨47, (.seq c_16_0 (.seq (.seq c_16_1 (.cond (.tmp 17) (.seq c_16_2 .ret) .skip)) (.seq (.seq c_16_3 (.block 0 (.loop c_16_9))) (.seq c_16_10 .ret)))), [.tmp 2], false⟩
theorem tf_16 : transFunc Go.Proofs.Tryz.prog 120 (hintT [(15, 0), (26, 0)]) (fpT []) (killT (klN 0 F_16.code.kl)) false = some F_16 := by kernel_rfl
abbrev c_15_0 : SCode := .reg [([1], [oD 1 (.box (.tmp 0)), oD 2 (.mov (.val (.bool false)))])] [0, 2]
abbrev c_15_1 : SCode := .reg [([2020, 2021, 2022, 2023, 2040, 2041, 2042, 2043], [oD 3 (.fldA 0 (.tmp 1)), oL 4 false 1 3, oD 5 (.call 120 0 [.tmp 4]), oD 6 (.un .not (.tmp 5)), oM 7 6, oG 8 7 false (.fldA 1 (.tmp 1)), oG 9 7 false (.ld true 2 (.tmp 8)), oG 10 7 false (.call 70 0 [.tmp 9]), oG 11 7 false (.un .not (.tmp 10)), oQ 12 7 11 true])] [3, 4, 5, 6, 7, 8, 9, 10, 11]
abbrev c_15_2 : SCode := .reg [([], [oD 2 (.mov (.val (.bool false)))])] [1, 12]
abbrev c_15_3 : SCode := .reg [([], [oD 13 (.fldA 3 (.tmp 1)), oL 14 false 1 13, oD 15 (.un .not (.tmp 14)), oM 16 15, oG 17 16 false (.fldA 1 (.tmp 1)), oG 18 16 false (.fldA 0 (.tmp 17)), oG 19 16 false (.ld false 1 (.tmp 18)), oG 20 16 false (.bin .leq 3 (.tmp 19) (.val (.int .i64 3))), oQ 21 16 20 true, oM 2 21])] [1, 12, 13, 14, 15, 16, 17, 18, 19, 20, 21]
abbrev F_15 : SFunc := ⟨22, (.seq c_15_0 (.seq (.seq c_15_1 (.cond (.tmp 12) (.seq c_15_2 .ret) .skip)) (.seq c_15_3 .ret))), [.tmp 2], false⟩
theorem tf_15 : transFunc Go.Proofs.Tryz.prog 121 (hintT [(5, 0), (10, 0)]) (fpT []) (killT (klN 0 F_15.code.kl)) false = some F_15 := by kernel_rfl
abbrev c_17_0 : SCode := .reg [([], [oD 2 (.mov (.val (.bool false)))])] [2]
abbrev c_17_1 : SCode := .reg [([], [oM 3 0, oD 4 (.bin .geq 5 (.tmp 3) (.val (.int .u8 97))), oM 5 4, oH 6 5 true 0, oG 7 5 true (.bin .leq 5 (.tmp 6) (.val (.int .u8 122))), oP 8 5 7 false, oM 2 8])] [0, 3, 4, 5, 6, 7, 8]
abbrev F_17 : SFunc := ⟨9, (.seq c_17_0 (.seq c_17_1 .ret)), [.tmp 2], false⟩
theorem tf_17 : transFunc Go.Proofs.Tryz.prog 181 (hintT []) (fpT []) (killT (klN 0 F_17.code.kl)) false = some F_17 := by kernel_rfl
end Go.Sh.Cd4
end

section
namespace Go.Proofs.YtmiokadmddjccaaGreatDoor
open Go Go.RowKit Go.Mor Go.Sh Go.Sh.Cd1 Go.Sh.Cd4 Go.Sh.Cd5
set_option maxRecDepth 100000
set_option maxHeartbeats 4000000
theorem drop_cons {l : List UInt8} {k : Nat} {c : UInt8} (h : l[k]? = some c) : l.drop k = c :: l.drop (k + 1) := by
 obtain ⟨hk, he⟩ := List.getElem?_eq_some_iff.1 h
 rw [List.drop_eq_getElem_cons hk, he]
def p0T (r : Option (Pc × Nat)) : TV := match r with
 | some (q, z) => .tuple [.agg [I q.k, I q.n, S (str q.s), I 0], I (z : Int)]
 | none => .tuple [.agg [I 0, I 0, S (str []), I 0], I 0]
def numP (l : List UInt8) : Option (Pc × Nat) := if 1000000000000000 < (numG l 0 0).1 then none else some (⟨1, (numG l 0 0).1, [], 0⟩, (numG l 0 0).2)
theorem readNumber_ok (g : Sh.Glob) (l : List UInt8) (hl : l.length < 4611686018427387904) : SCalls Tryz.prog g 170 [S (str l)] [] (p0T (numP l)) [] := by
 unfold numP
 generalize hR : numG l 0 0 = R
 refine call_of0 hmix tf_56 rfl ?_
 simp only [vcA, seval, vV]
 refine v_loop (σ := { q : Int × Nat // 0 ≤ q.1 ∧ q.1 ≤ 1000000000000001 ∧ q.2 ≤ l.length ∧ numG (l.drop q.2) q.1 q.2 = R })
  (fun q => ⟨[(0, S (str l)), (2, .ptr 2 0), (4, I q.1.1), (5, I (q.1.2 : Int))], [(2, [I 0, I 0, S ⟨#[]⟩, I 0])], [], []⟩) (fun q => l.length - q.1.2) ⟨(0, 0), by decide, by decide, Nat.zero_le _, hR⟩ ?_ ?_
 ·apply lw_of <;> simp [leL, lk, sv, Nat.beq, I, S, ES.kill, has, drp, nilT]
 rintro ⟨⟨n, z⟩, h0, h1, hz, hd⟩
 simp only at h0 h1 hz hd
 by_cases hk : z < l.length
 ·have d1 : (z : Int) < (l.length : Int) := by omega
  obtain ⟨c, ec⟩ : ∃ c, l[z]? = some c := ⟨_, List.getElem?_eq_getElem hk⟩
  rw [drop_cons ec, numG] at hd
  have hc := c.toNat_lt
  by_cases q1 : 48 ≤ c.toNat
  ·have d2 : (48 : Int) ≤ (c.toNat : Int) := by omega
   by_cases q2 : c.toNat ≤ 57
   ·have d3 : (c.toNat : Int) ≤ 57 := by omega
    rw [if_pos (by unfold digB; simp [q1, q2])] at hd
    have w0 : IntKind.i64.wrap (10 * n) = 10 * n := wrap64 (by omega) (by omega)
    have w1 : IntKind.u8.wrap ((c.toNat : Int) - 48) = (c.toNat : Int) - 48 := by rw [IntKind.wrap_u8]; omega
    have w2 : IntKind.i64.wrap ((c.toNat : Int) - 48) = (c.toNat : Int) - 48 := wrap64 (by omega) (by omega)
    have w3 : IntKind.i64.wrap (10 * n + ((c.toNat : Int) - 48)) = 10 * n + ((c.toNat : Int) - 48) := wrap64 (by omega) (by omega)
    have w4 : IntKind.i64.wrap ((z : Int) + 1) = ((z + 1 : Nat) : Int) := by rw [wrap64 (by omega) (by omega)]; omega
    simp only [vcA, seval, vV, d1, d2, d3, ec, w0, w1, w2, w3, w4]
    refine loopK_of ⟨(min (10 * n + ((c.toNat : Int) - 48)) 1000000000000001, z + 1), by omega, by omega, hk, hd⟩ (by show l.length - (z + 1) < l.length - z; omega) ?_
    apply lw_of <;> simp [leL, lk, sv, Nat.beq, I, S, ES.kill, has, drp, nilT]
   ·have d3 : ¬ (c.toNat : Int) ≤ 57 := by omega
    rw [if_neg (by unfold digB; simp [q2])] at hd
    subst hd
    by_cases hn : 1000000000000000 < n
    ·simp only [vcA, seval, vV, d1, d2, d3, ec, hn, p0T]
     rfl
    ·simp only [vcA, seval, vV, d1, d2, d3, ec, hn, p0T]
     rfl
  ·have d2 : ¬ (48 : Int) ≤ (c.toNat : Int) := by omega
   rw [if_neg (by unfold digB; simp [q1])] at hd
   subst hd
   by_cases hn : 1000000000000000 < n
   ·simp only [vcA, seval, vV, d1, d2, ec, hn, p0T]
    rfl
   ·simp only [vcA, seval, vV, d1, d2, ec, hn, p0T]
    rfl
 ·have d1 : ¬ (z : Int) < (l.length : Int) := by omega
  rw [List.drop_eq_nil_of_le (by omega), numG] at hd
  subst hd
  by_cases hn : 1000000000000000 < n
  ·simp only [vcA, seval, vV, d1, hn, p0T]
   rfl
  ·simp only [vcA, seval, vV, d1, hn, p0T]
   rfl
theorem small_ok (g : Sh.Glob) (b : UInt8) : SCalls Tryz.prog g 181 [.pv (.v (.int .u8 (b.toNat : Int)))] [] (B (small b)) [] := by
 refine call_of0 hmix tf_17 rfl ?_
 unfold small B
 by_cases q1 : 97 ≤ b.toNat
 ·have d1 : (97 : Int) ≤ (b.toNat : Int) := by omega
  have q2 : decide ((b.toNat : Int) ≤ 122) = decide (b.toNat ≤ 122) := by rw [Bool.eq_iff_iff]; simp; omega
  simp only [vcA, seval, vV, d1, q2, q1]
  first | done | simp
 ·have d1 : ¬ (97 : Int) ≤ (b.toNat : Int) := by omega
  simp only [vcA, seval, vV, d1, q1]
  first | done | simp
theorem rightName_ok (g : Sh.Glob) (l : List UInt8) (hl : l.length < 4611686018427387904) : SCalls Tryz.prog g 120 [S (str l)] [] (B (rightName l)) [] := by
 refine call_of0 hmix tf_16 rfl ?_
 by_cases h1 : 1 ≤ l.length
 ·have d1 : ¬ (l.length : Int) < 1 := by omega
  by_cases h20 : l.length ≤ 20
  ·have d2 : ¬ (20 : Int) < (l.length : Int) := by omega
   obtain ⟨c, r, rfl⟩ : ∃ c r, l = c :: r := List.exists_cons_of_ne_nil (by rintro rfl; simp at h1)
   have HS := small_ok g c
   unfold B at HS ⊢
   have e0 : (c :: r)[0]? = some c := rfl
   have hR : rightName (c :: r) = (small c && (c :: r).all nameB) := by
    unfold rightName
    rw [decide_eq_true ⟨h1, h20⟩]; simp
   rw [hR]
   generalize hL : c :: r = l at *
   simp only [vcA, seval, vV, d1, d2, e0]
   (with_reducible apply v_call); (· simp only [vcA, seval, vV]; with_reducible rfl); (· rfl); (· exact HS); (· first | rfl | (simp only [vcA, seval]; omega)); (· simp only [vcA, seval, vV]; with_reducible rfl)
   cases hs : small c
   ·simp only [vcA, seval, vV]
   simp only [vcA, seval, vV, d1, d2]
   refine v_loop (σ := { k : Nat // k ≤ l.length ∧ (l.drop k).all nameB = l.all nameB })
    (fun k => ⟨[(0, S (str l)), (19, I (l.length : Int)), (20, I (k.1 : Int))], [], [], []⟩) (fun k => l.length - k.1) ⟨0, Nat.zero_le _, rfl⟩ ?_ ?_
   ·apply lw_of <;> simp [leL, lk, sv, Nat.beq, I, S, ES.kill, has, drp, nilT]
   rintro ⟨k, hk, hd⟩
   by_cases hlt : k < l.length
   ·have d3 : (k : Int) < (l.length : Int) := by omega
    obtain ⟨b, eb⟩ : ∃ b, l[k]? = some b := ⟨_, List.getElem?_eq_getElem hlt⟩
    rw [drop_cons eb, List.all_cons] at hd
    have hbn := b.toNat_lt
    have HB := small_ok g b
    unfold B at HB
    have w4 : IntKind.i64.wrap ((k : Int) + 1) = ((k + 1 : Nat) : Int) := by rw [wrap64 (by omega) (by omega)]; omega
    simp only [vcA, seval, vV, d3, eb]
    (with_reducible apply v_call); (· simp only [vcA, seval, vV]; with_reducible rfl); (· rfl); (· exact HB); (· first | rfl | (simp only [vcA, seval]; omega)); (· simp only [vcA, seval, vV]; with_reducible rfl)
    cases hsb : small b
    ·by_cases q1 : b.toNat < 48
     ·have d4 : (b.toNat : Int) < 48 := by omega
      have d6 : ¬ (b.toNat : Int) = 95 := by omega
      have hn : nameB b = false := by unfold nameB; rw [hsb]; simp; omega
      rw [hn, Bool.false_and] at hd
      simp only [vcA, seval, vV, d3, eb, d4, d6]
      rw [← hd]
     ·have d4 : ¬ (b.toNat : Int) < 48 := by omega
      by_cases q2 : 57 < b.toNat
      ·have d5 : (57 : Int) < (b.toNat : Int) := by omega
       by_cases q3 : b.toNat = 95
       ·have d6 : (b.toNat : Int) = 95 := by omega
        have hn : nameB b = true := by unfold nameB; simp [q3]
        rw [hn, Bool.true_and] at hd
        simp only [vcA, seval, vV, d3, eb, d4, d5, d6, w4]
        refine loopK_of ⟨k + 1, hlt, hd⟩ (by show l.length - (k + 1) < l.length - k; omega) ?_
        apply lw_of <;> simp [leL, lk, sv, Nat.beq, I, S, ES.kill, has, drp, nilT]
       ·have d6 : ¬ (b.toNat : Int) = 95 := by omega
        have hn : nameB b = false := by unfold nameB; rw [hsb]; simp; omega
        rw [hn, Bool.false_and] at hd
        simp only [vcA, seval, vV, d3, eb, d4, d5, d6]
        rw [← hd]
      ·have d5 : ¬ (57 : Int) < (b.toNat : Int) := by omega
       have hn : nameB b = true := by unfold nameB; simp; omega
       rw [hn, Bool.true_and] at hd
       simp only [vcA, seval, vV, d3, eb, d4, d5, w4]
       refine loopK_of ⟨k + 1, hlt, hd⟩ (by show l.length - (k + 1) < l.length - k; omega) ?_
       apply lw_of <;> simp [leL, lk, sv, Nat.beq, I, S, ES.kill, has, drp, nilT]
    ·have hn : nameB b = true := by unfold nameB; rw [hsb]; rfl
     rw [hn, Bool.true_and] at hd
     simp only [vcA, seval, vV, d3, eb, w4]
     refine loopK_of ⟨k + 1, hlt, hd⟩ (by show l.length - (k + 1) < l.length - k; omega) ?_
     apply lw_of <;> simp [leL, lk, sv, Nat.beq, I, S, ES.kill, has, drp, nilT]
   ·have d3 : ¬ (k : Int) < (l.length : Int) := by omega
    rw [List.drop_eq_nil_of_le (by omega)] at hd
    simp only [vcA, seval, vV, d3]
    rw [← hd]; rfl
  ·have d2 : (20 : Int) < (l.length : Int) := by omega
   have hR : rightName l = false := by unfold rightName; rw [decide_eq_false (by omega)]; rfl
   rw [hR]; unfold B
   simp only [vcA, seval, vV, d1, d2]
 ·have d1 : (l.length : Int) < 1 := by omega
  have hR : rightName l = false := by unfold rightName; rw [decide_eq_false (by omega)]; rfl
  rw [hR]; unfold B
  simp only [vcA, seval, vV, d1]
theorem classRight0_ok (g : Sh.Glob) (l : List UInt8) (hl : l.length < 4611686018427387904) : SCalls Tryz.prog g 69 [.agg [S (str l), .pv (.v (.slice none 0 0))]] [] (B (rightName l)) [] := by
 refine call_of0 hmix tf_13 rfl ?_
 have HR := rightName_ok g l hl
 unfold B at *
 simp only [vcA, seval, vV]
 (with_reducible apply v_call); (· simp only [vcA, seval, vV]; with_reducible rfl); (· rfl); (· exact HR); (· first | rfl | (simp only [vcA, seval]; omega)); (· simp only [vcA, seval, vV]; with_reducible rfl)
 cases rightName l
 ·simp only [vcA, seval, vV]
 simp only [vcA, seval, vV]
 refine v_loop (σ := Unit) (fun _ => ⟨[(19, I 0), (20, I 0)], [], [], []⟩) (fun _ => 0) () ?_ ?_
 ·apply lw_of <;> simp [leL, lk, sv, Nat.beq, I, S, ES.kill, has, drp, nilT]
 rintro ⟨⟩
 simp only [vcA, seval, vV]
theorem eRightName_ok (g : Sh.Glob) (l : List UInt8) (hl : l.length < 4611686018427387904) : SCalls Tryz.prog g 176 [S (str l)] [] (B (rightName l)) [] := by
 refine call_of0 hmix tf_58 rfl ?_
 have HR := classRight0_ok g l hl
 unfold B at *
 simp only [vcA, seval, vV]
 (with_reducible apply v_call); (· simp only [vcA, seval, vV]; with_reducible rfl); (· rfl); (· exact HR); (· first | rfl | (simp only [vcA, seval]; omega)); (· simp only [vcA, seval, vV]; with_reducible rfl)
 simp only [vcA, seval, vV]
theorem eRightText_ok (m : Nat) (l : List UInt8) (hl : l.length < 4611686018427387904) : SCalls Tryz.prog (gl0 m) 175 [S (str l)] [] (B (rightText l)) [] := by
 refine call_of0 hmix tf_59 rfl ?_
 have HR := rightV_ok0 m (.mk 2 0 l []) ⟨by unfold TextsOk V.s; simp only; omega, by simp [V.l]⟩
 have hk : rightV (.mk 2 0 l []) = rightText l := by unfold rightV right1; simp [V.k, V.n, V.l, V.s]
 rw [hk] at HR
 have HR := HR.inp (xs := [nv (.mk 2 0 l [])]) rfl (fun j c d hc hd => by
  match j with
  | 0 => simp at hc hd; subst hc; subst hd; exact nv_tv rfl
  | j + 1 => simp at hc)
 unfold B nv at *
 simp only [vcA, seval, vV]
 (with_reducible apply v_call); (· simp only [vcA, seval, vV]; with_reducible rfl); (· rfl); (· exact HR); (· first | rfl | (simp only [vcA, seval]; omega)); (· simp only [vcA, seval, vV]; with_reducible rfl)
 simp only [vcA, seval, vV]
end Go.Proofs.YtmiokadmddjccaaGreatDoor
end

section
namespace Go.Mor
open Go Go.RowKit
set_option maxHeartbeats 1000000
def pick (c n : Int) : Int := (if c < 0 then -(c + 1) else c) % n
structure RawF where
 n : Int
 k : Int
 o : Int
 ix : Bool
structure Raw where
 n : Int
 fs : List RawF
theorem firstAt_eq {α : Type} (p : α → Bool) (l : List α) (k : Nat) (x : α) (hx : l[k]? = some x) (hp : p x = true) (h : ∀ (i : Nat) y, i < k → l[i]? = some y → p y = false) : firstAt p l = k := by
 have : l.findIdx? p = some k := by
  rw [List.findIdx?_eq_some_iff_getElem]
  obtain ⟨hk, rfl⟩ := List.getElem?_eq_some_iff.1 hx
  refine ⟨hk, hp, fun j hj => ?_⟩
  have := h j _ hj (List.getElem?_eq_getElem (by omega))
  simp [this]
 simp [firstAt, this]
theorem firstAt_at {α : Type} (p : α → Bool) (l : List α) (k : Nat) (h : firstAt p l = k) : ∃ x, l[k]? = some x ∧ p x = true := by
 unfold firstAt at h
 cases hf : l.findIdx? p with
 | none => rw [hf] at h; simp at h
 | some i =>
  rw [hf] at h
  obtain rfl : i = k := by simp at h; omega
  rw [List.findIdx?_eq_some_iff_getElem] at hf
  obtain ⟨hi, hp, _⟩ := hf
  exact ⟨_, List.getElem?_eq_getElem hi, hp⟩
theorem firstAt_neg {α : Type} (p : α → Bool) (l : List α) : firstAt p l < 0 ↔ ∀ x ∈ l, p x = false := by
 unfold firstAt
 cases hf : l.findIdx? p with
 | none => rw [List.findIdx?_eq_none_iff] at hf; simp; exact hf
 | some i =>
  rw [List.findIdx?_eq_some_iff_getElem] at hf
  obtain ⟨hi, hp, _⟩ := hf
  constructor
  ·intro h; exfalso; simp at h; omega
  ·intro h; have := h _ (List.getElem_mem hi); rw [hp] at this; cases this

def Dist (l : List Fld) : Prop := ∀ (i j : Nat) (f g : Fld), l[i]? = some f → l[j]? = some g → f.n = g.n → i = j
theorem onceGo_iff (all : List Fld) : ∀ (r : List Fld) (k : Nat), onceGo all k r = true ↔ ∀ (i : Nat) f, r[i]? = some f → rightField f = true ∧ fieldAt all f.n = ((k + i : Nat) : Int) := by
 intro r
 induction r with
 | nil => intro k; simp [onceGo]
 | cons g r ih =>
  intro k
  rw [onceGo, Bool.and_eq_true, Bool.and_eq_true, ih (k + 1)]
  constructor
  ·rintro ⟨⟨h1, h2⟩, h3⟩ i f hf
   cases i with
   | zero => simp at hf; subst hf; exact ⟨h1, by simpa using h2⟩
   | succ i => have := h3 i f (by simpa using hf); refine ⟨this.1, this.2.trans ?_⟩; congr 1; omega
  ·intro h
   have h0 := h 0 g (by simp)
   refine ⟨⟨h0.1, by simpa using h0.2⟩, fun i f hf => ?_⟩
   have := h (i + 1) f (by simpa using hf)
   refine ⟨this.1, this.2.trans ?_⟩; congr 1; omega
theorem dist_at {l : List Fld} (h : Dist l) {i : Nat} {f : Fld} (hf : l[i]? = some f) : fieldAt l f.n = i := by
 refine firstAt_eq _ l i f hf (by simp) fun j y hj hy => ?_
 rw [beq_eq_false_iff_ne]
 intro he
 have := h j i y f hy hf he
 omega
theorem right_iff (c : Cls) : rightClass c = true ↔ rightName c.n = true ∧ c.fs.length ≤ 8 ∧ (∀ f ∈ c.fs, rightField f = true) ∧ Dist c.fs := by
 rw [rightClass, Bool.and_eq_true, Bool.and_eq_true, onceGo_iff, decide_eq_true_iff]
 constructor
 ·rintro ⟨⟨h1, h2⟩, h3⟩
  refine ⟨h1, h2, fun f hf => ?_, fun i j f g hi hj he => ?_⟩
  ·obtain ⟨i, hi⟩ := List.getElem?_of_mem hf
   exact (h3 i f hi).1
  ·have a := (h3 i f hi).2
   have b := (h3 j g hj).2
   rw [he] at a
   have := a.symm.trans b
   simp at this; omega
 ·rintro ⟨h1, h2, h3, h4⟩
  exact ⟨⟨h1, h2⟩, fun i f hf => ⟨h3 f (List.mem_of_getElem? hf), by rw [dist_at h4 hf]; simp⟩⟩

structure GoodC (c : Cls) : Prop where
 nm : rightName c.n = true ∧ c.n.length ≤ 8
 fs : ∀ f ∈ c.fs, rightField f = true ∧ f.n.length ≤ 8
 di : Dist c.fs
 len : c.fs.length ≤ 6
theorem GoodC.right {c : Cls} (h : GoodC c) : rightClass c = true := (right_iff c).2 ⟨h.nm.1, by have := h.len; omega, fun f hf => (h.fs f hf).1, h.di⟩

end Go.Mor
end
