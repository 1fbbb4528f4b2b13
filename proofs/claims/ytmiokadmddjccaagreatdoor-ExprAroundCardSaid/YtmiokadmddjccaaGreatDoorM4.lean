/- Merged texts: Cd5 Px2 Px3 Ze2 Ze3 Ze4. No statement of the program is proved here. -/
import Derived.Test.YtmiokadmddjccaaGreatDoorM3
import Derived.Test.YtmiokadmddjccaaGreatDoorProg
import Derived.KernelRfl
set_option linter.unusedSimpArgs false
set_option linter.unusedVariables false
section
/- The code of some functions, as Sh has it (printed by a program). No statement of the program is proved here. -/
namespace Go.Sh.Cd5
open Go Go.Sh
set_option maxRecDepth 100000
abbrev c_morainelaw05_ExprBack_0 : SCode := .reg [([], [⟨(some 4), none, none, .mov (.val (.bool false))⟩])] [4]
abbrev c_morainelaw05_ExprBack_1 : SCode := .reg [([2060, 2061, 2062, 2063], [⟨(some 15), none, none, .call 14 0 []⟩, ⟨(some 5), none, none, .mov (.tmp 15)⟩])] [15]
abbrev c_morainelaw05_ExprBack_2 : SCode := .reg [([2068, 2069, 2070, 2071, 6], [⟨(some 16), none, none, .mov (.tmp 0)⟩, ⟨(some 17), none, none, .call 15 0 [(.tmp 16)]⟩, ⟨(some 6), none, none, .new [(.int .i64 0), (.int .i64 0), (.string ⟨#[]⟩), (.slice none 0 0)]⟩, ⟨none, none, none, .st 4 (.tmp 6) (.tmp 17)⟩])] [0, 16, 17]
abbrev c_morainelaw05_ExprBack_3 : SCode := .reg [([2076, 2077, 2078, 2079, 7], [⟨(some 18), none, none, .mov (.tmp 1)⟩, ⟨(some 19), none, none, .call 15 0 [(.tmp 18)]⟩, ⟨(some 7), none, none, .new [(.int .i64 0), (.int .i64 0), (.string ⟨#[]⟩), (.slice none 0 0)]⟩, ⟨none, none, none, .st 4 (.tmp 7) (.tmp 19)⟩])] [1, 18, 19]
abbrev c_morainelaw05_ExprBack_4 : SCode := .reg [([2088, 2089, 2090, 2091], [⟨(some 21), none, none, .ld true 4 (.tmp 6)⟩, ⟨(some 22), none, none, .call 16 0 [(.tmp 21)]⟩, ⟨(some 20), none, none, .mov (.tmp 22)⟩, ⟨(some 23), none, none, .ext (.tmp 20) 0⟩, ⟨(some 24), none, none, .ext (.tmp 20) 1⟩, ⟨(some 8), none, none, .mov (.tmp 23)⟩, ⟨(some 9), none, none, .mov (.tmp 24)⟩])] [20, 21, 22, 23, 24]
abbrev c_morainelaw05_ExprBack_5 : SCode := .reg [([2108, 2109, 2110, 2111], [⟨(some 26), none, none, .ld true 4 (.tmp 7)⟩, ⟨(some 27), none, none, .call 16 0 [(.tmp 26)]⟩, ⟨(some 25), none, none, .mov (.tmp 27)⟩, ⟨(some 28), none, none, .ext (.tmp 25) 0⟩, ⟨(some 29), none, none, .ext (.tmp 25) 1⟩, ⟨(some 10), none, none, .mov (.tmp 28)⟩, ⟨(some 11), none, none, .mov (.tmp 29)⟩])] [25, 26, 27, 28, 29]
abbrev c_morainelaw05_ExprBack_6 : SCode := .reg [([2128, 2129, 2130, 2131, 12], [⟨(some 31), none, none, .mov (.tmp 8)⟩, ⟨(some 32), none, none, .call 17 0 [(.tmp 31)]⟩, ⟨(some 30), none, none, .mov (.tmp 32)⟩, ⟨(some 33), none, none, .ext (.tmp 30) 0⟩, ⟨(some 34), none, none, .ext (.tmp 30) 1⟩, ⟨(some 35), none, none, .ext (.tmp 30) 2⟩, ⟨(some 12), none, none, .new [(.int .i64 0), (.int .i64 0), (.string ⟨#[]⟩), (.slice none 0 0)]⟩, ⟨none, none, none, .st 4 (.tmp 12) (.tmp 33)⟩, ⟨(some 13), none, none, .mov (.tmp 34)⟩, ⟨(some 14), none, none, .mov (.tmp 35)⟩])] [30, 31, 32, 33, 34, 35]
abbrev c_morainelaw05_ExprBack_7 : SCode := .reg [([2176, 2177, 2178, 2179, 2212, 2213, 2214, 2215], [⟨(some 36), none, none, .mov (.tmp 9)⟩, ⟨(some 37), none, none, .bin .neq 28 (.tmp 36) (.val (.int .i64 0))⟩, ⟨(some 38), none, none, .mov (.tmp 37)⟩, ⟨(some 39), (some (38, false)), none, .mov (.tmp 11)⟩, ⟨(some 40), (some (38, false)), none, .bin .neq 28 (.tmp 39) (.val (.int .i64 0))⟩, ⟨(some 41), none, none, .pick (.tmp 38) (.val (.bool true)) (.tmp 40)⟩, ⟨(some 42), none, none, .mov (.tmp 41)⟩, ⟨(some 43), (some (42, false)), none, .ld true 4 (.tmp 6)⟩, ⟨(some 44), (some (42, false)), none, .call 18 0 [(.tmp 43)]⟩, ⟨(some 45), (some (42, false)), none, .un .not (.tmp 44)⟩, ⟨(some 46), none, none, .pick (.tmp 42) (.val (.bool true)) (.tmp 45)⟩, ⟨(some 47), none, none, .mov (.tmp 46)⟩, ⟨(some 48), (some (47, false)), none, .mov (.tmp 8)⟩, ⟨(some 49), (some (47, false)), none, .mov (.tmp 10)⟩, ⟨(some 50), (some (47, false)), none, .bin .eql 9 (.tmp 48) (.tmp 49)⟩, ⟨(some 51), (some (47, false)), none, .ld true 4 (.tmp 6)⟩, ⟨(some 52), (some (47, false)), none, .ld true 4 (.tmp 7)⟩, ⟨(some 53), (some (47, false)), none, .call 19 0 [(.tmp 51), (.tmp 52)]⟩, ⟨(some 54), (some (47, false)), none, .bin .neq 4 (.tmp 50) (.tmp 53)⟩, ⟨(some 55), none, none, .pick (.tmp 47) (.val (.bool true)) (.tmp 54)⟩])] [7, 9, 10, 11, 36, 37, 38, 39, 40, 41, 42, 43, 44, 45, 46, 47, 48, 49, 50, 51, 52, 53, 54]
abbrev c_morainelaw05_ExprBack_8 : SCode := .reg [([], [⟨(some 4), none, none, .mov (.val (.bool false))⟩])] [5, 6, 8, 12, 13, 14, 55]
abbrev c_morainelaw05_ExprBack_9 : SCode := .reg [([], [⟨(some 56), none, none, .mov (.tmp 8)⟩, ⟨(some 57), none, none, .slen (.tmp 56)⟩, ⟨(some 58), none, none, .bin .gtr 3 (.tmp 57) (.val (.int .i64 200))⟩])] [4, 8, 55, 56, 57]
abbrev c_morainelaw05_ExprBack_10 : SCode := .reg [([], [⟨(some 59), none, none, .mov (.tmp 5)⟩, ⟨(some 60), none, none, .mov (.tmp 59)⟩, ⟨(some 61), (some (60, true)), none, .mov (.tmp 13)⟩, ⟨(some 62), (some (60, true)), none, .bin .eql 3 (.tmp 61) (.val (.int .i64 200))⟩, ⟨(some 63), none, none, .pick (.tmp 60) (.tmp 62) (.val (.bool false))⟩, ⟨(some 64), none, none, .mov (.tmp 63)⟩, ⟨(some 65), (some (64, true)), none, .mov (.tmp 14)⟩, ⟨(some 66), (some (64, true)), none, .bin .eql 28 (.tmp 65) (.val (.int .i64 50))⟩, ⟨(some 67), none, none, .pick (.tmp 64) (.tmp 66) (.val (.bool false))⟩, ⟨(some 4), none, none, .mov (.tmp 67)⟩])] [5, 6, 12, 13, 14, 58, 59, 60, 61, 62, 63, 64, 65, 66, 67]
abbrev c_morainelaw05_ExprBack_11 : SCode := .reg [([2320, 2321, 2322, 2323], [⟨(some 68), none, none, .mov (.tmp 5)⟩, ⟨(some 69), none, none, .mov (.tmp 68)⟩, ⟨(some 70), (some (69, true)), none, .mov (.tmp 13)⟩, ⟨(some 71), (some (69, true)), none, .bin .eql 3 (.tmp 70) (.val (.int .i64 0))⟩, ⟨(some 72), none, none, .pick (.tmp 69) (.tmp 71) (.val (.bool false))⟩, ⟨(some 73), none, none, .mov (.tmp 72)⟩, ⟨(some 74), (some (73, true)), none, .mov (.tmp 14)⟩, ⟨(some 75), (some (73, true)), none, .bin .eql 28 (.tmp 74) (.val (.int .i64 0))⟩, ⟨(some 76), none, none, .pick (.tmp 73) (.tmp 75) (.val (.bool false))⟩, ⟨(some 77), none, none, .mov (.tmp 76)⟩, ⟨(some 78), (some (77, true)), none, .ld true 4 (.tmp 12)⟩, ⟨(some 79), (some (77, true)), none, .ld true 4 (.tmp 6)⟩, ⟨(some 80), (some (77, true)), none, .call 19 0 [(.tmp 78), (.tmp 79)]⟩, ⟨(some 81), none, none, .pick (.tmp 77) (.tmp 80) (.val (.bool false))⟩, ⟨(some 4), none, none, .mov (.tmp 81)⟩])] [5, 6, 12, 13, 14, 58, 68, 69, 70, 71, 72, 73, 74, 75, 76, 77, 78, 79, 80, 81]
abbrev F_morainelaw05_ExprBack : SFunc := ⟨82, (.seq c_morainelaw05_ExprBack_0 (.seq c_morainelaw05_ExprBack_1 (.seq c_morainelaw05_ExprBack_2 (.seq c_morainelaw05_ExprBack_3 (.seq c_morainelaw05_ExprBack_4 (.seq c_morainelaw05_ExprBack_5 (.seq c_morainelaw05_ExprBack_6 (.seq (.seq c_morainelaw05_ExprBack_7 (.cond (.tmp 55) (.seq c_morainelaw05_ExprBack_8 .ret) .skip)) (.seq (.seq c_morainelaw05_ExprBack_9 (.cond (.tmp 58) (.seq c_morainelaw05_ExprBack_10 .ret) .skip)) (.seq c_morainelaw05_ExprBack_11 .ret)))))))))), [.tmp 4], false⟩
theorem tf_morainelaw05_ExprBack : transFunc Go.Proofs.Tryz.prog 3 (hintT [(15, 0), (17, 0), (19, 0), (22, 0), (27, 0), (32, 0), (44, 0), (53, 0), (80, 0)]) (fpT []) (killT [(0, [4]), (1, [15]), (2, [0, 16, 17]), (3, [1, 18, 19]), (4, [20, 21, 22, 23, 24]), (5, [25, 26, 27, 28, 29]), (6, [30, 31, 32, 33, 34, 35]), (7, [7, 9, 10, 11, 36, 37, 38, 39, 40, 41, 42, 43, 44, 45, 46, 47, 48, 49, 50, 51, 52, 53, 54]), (8, [5, 6, 8, 12, 13, 14, 55]), (9, [4, 8, 55, 56, 57]), (10, [5, 6, 12, 13, 14, 58, 59, 60, 61, 62, 63, 64, 65, 66, 67]), (11, [5, 6, 12, 13, 14, 58, 68, 69, 70, 71, 72, 73, 74, 75, 76, 77, 78, 79, 80, 81])]) false = some F_morainelaw05_ExprBack := by kernel_rfl
abbrev c_morainelaw05_ExprAround_0 : SCode := .reg [([], [⟨(some 4), none, none, .mov (.val (.bool false))⟩])] [4]
abbrev c_morainelaw05_ExprAround_1 : SCode := .reg [([2052, 2053, 2054, 2055], [⟨(some 13), none, none, .call 14 0 []⟩, ⟨(some 5), none, none, .mov (.tmp 13)⟩])] [13]
abbrev c_morainelaw05_ExprAround_2 : SCode := .reg [([2060, 2061, 2062, 2063, 6], [⟨(some 14), none, none, .mov (.tmp 0)⟩, ⟨(some 15), none, none, .call 15 0 [(.tmp 14)]⟩, ⟨(some 6), none, none, .new [(.int .i64 0), (.int .i64 0), (.string ⟨#[]⟩), (.slice none 0 0)]⟩, ⟨none, none, none, .st 4 (.tmp 6) (.tmp 15)⟩])] [0, 14, 15]
abbrev c_morainelaw05_ExprAround_3 : SCode := .reg [([2072, 2073, 2074, 2075], [⟨(some 17), none, none, .ld true 4 (.tmp 6)⟩, ⟨(some 18), none, none, .call 16 0 [(.tmp 17)]⟩, ⟨(some 16), none, none, .mov (.tmp 18)⟩, ⟨(some 19), none, none, .ext (.tmp 16) 0⟩, ⟨(some 20), none, none, .ext (.tmp 16) 1⟩, ⟨(some 7), none, none, .mov (.tmp 19)⟩, ⟨(some 8), none, none, .mov (.tmp 20)⟩])] [16, 17, 18, 19, 20]
abbrev c_morainelaw05_ExprAround_4 : SCode := .reg [([], [⟨(some 9), none, none, .mov (.val (.int .i64 0))⟩])] []
abbrev c_morainelaw05_ExprAround_5 : SCode := .reg [([], [⟨(some 21), none, none, .mov (.tmp 9)⟩, ⟨(some 22), none, none, .mov (.tmp 1)⟩, ⟨(some 23), none, none, .bin .lss 3 (.tmp 21) (.tmp 22)⟩, ⟨(some 24), none, none, .mov (.tmp 23)⟩, ⟨(some 25), (some (24, true)), none, .mov (.tmp 9)⟩, ⟨(some 26), (some (24, true)), none, .bin .lss 3 (.tmp 25) (.val (.int .i64 9))⟩, ⟨(some 27), none, none, .pick (.tmp 24) (.tmp 26) (.val (.bool false))⟩])] [21, 22, 23, 24, 25, 26]
abbrev c_morainelaw05_ExprAround_6 : SCode := .reg [([], [⟨(some 30), none, none, .mov (.tmp 7)⟩, ⟨(some 31), none, none, .bin .add 9 (.val (.string ⟨#[32, 40]⟩)) (.tmp 30)⟩, ⟨(some 32), none, none, .bin .add 9 (.tmp 31) (.val (.string ⟨#[32, 41]⟩))⟩, ⟨(some 7), none, none, .mov (.tmp 32)⟩])] [27, 30, 31, 32]
abbrev c_morainelaw05_ExprAround_7 : SCode := .reg [([], [⟨(some 28), none, none, .mov (.tmp 9)⟩, ⟨(some 29), none, none, .bin .add 3 (.tmp 28) (.val (.int .i64 1))⟩, ⟨(some 9), none, none, .mov (.tmp 29)⟩])] [28, 29]
abbrev c_morainelaw05_ExprAround_8 : SCode := (.seq (.seq c_morainelaw05_ExprAround_5 (.cond (.tmp 27) .skip (.exit 0))) (.seq (.block 1 c_morainelaw05_ExprAround_6) c_morainelaw05_ExprAround_7))
abbrev c_morainelaw05_ExprAround_9 : SCode := .reg [([2140, 2141, 2142, 2143, 10], [⟨(some 34), none, none, .mov (.tmp 7)⟩, ⟨(some 35), none, none, .call 17 0 [(.tmp 34)]⟩, ⟨(some 33), none, none, .mov (.tmp 35)⟩, ⟨(some 36), none, none, .ext (.tmp 33) 0⟩, ⟨(some 37), none, none, .ext (.tmp 33) 1⟩, ⟨(some 38), none, none, .ext (.tmp 33) 2⟩, ⟨(some 10), none, none, .new [(.int .i64 0), (.int .i64 0), (.string ⟨#[]⟩), (.slice none 0 0)]⟩, ⟨none, none, none, .st 4 (.tmp 10) (.tmp 36)⟩, ⟨(some 11), none, none, .mov (.tmp 37)⟩, ⟨(some 12), none, none, .mov (.tmp 38)⟩])] [1, 9, 11, 33, 34, 35, 36, 37, 38]
abbrev c_morainelaw05_ExprAround_10 : SCode := .reg [([2216, 2217, 2218, 2219], [⟨(some 39), none, none, .mov (.tmp 5)⟩, ⟨(some 40), none, none, .mov (.tmp 39)⟩, ⟨(some 41), (some (40, true)), none, .mov (.tmp 8)⟩, ⟨(some 42), (some (40, true)), none, .bin .eql 28 (.tmp 41) (.val (.int .i64 0))⟩, ⟨(some 43), none, none, .pick (.tmp 40) (.tmp 42) (.val (.bool false))⟩, ⟨(some 44), none, none, .mov (.tmp 43)⟩, ⟨(some 45), (some (44, true)), none, .mov (.tmp 7)⟩, ⟨(some 46), (some (44, true)), none, .slen (.tmp 45)⟩, ⟨(some 47), (some (44, true)), none, .bin .gtr 3 (.tmp 46) (.val (.int .i64 200))⟩, ⟨(some 48), (some (44, true)), none, .mov (.tmp 47)⟩, ⟨(some 49), (some (48, false)), none, .mov (.tmp 12)⟩, ⟨(some 50), (some (48, false)), none, .bin .eql 28 (.tmp 49) (.val (.int .i64 0))⟩, ⟨(some 51), (some (48, false)), none, .mov (.tmp 50)⟩, ⟨(some 52), (some (51, true)), none, .ld true 4 (.tmp 6)⟩, ⟨(some 53), (some (51, true)), none, .ld true 4 (.tmp 10)⟩, ⟨(some 54), (some (51, true)), none, .call 19 0 [(.tmp 52), (.tmp 53)]⟩, ⟨(some 55), (some (48, false)), none, .pick (.tmp 51) (.tmp 54) (.val (.bool false))⟩, ⟨(some 56), (some (44, true)), none, .pick (.tmp 48) (.val (.bool true)) (.tmp 55)⟩, ⟨(some 57), none, none, .pick (.tmp 44) (.tmp 56) (.val (.bool false))⟩, ⟨(some 4), none, none, .mov (.tmp 57)⟩])] [5, 6, 7, 8, 10, 12, 39, 40, 41, 42, 43, 44, 45, 46, 47, 48, 49, 50, 51, 52, 53, 54, 55, 56, 57]
abbrev F_morainelaw05_ExprAround : SFunc := ⟨58, (.seq c_morainelaw05_ExprAround_0 (.seq c_morainelaw05_ExprAround_1 (.seq c_morainelaw05_ExprAround_2 (.seq c_morainelaw05_ExprAround_3 (.seq (.seq c_morainelaw05_ExprAround_4 (.block 0 (.loop c_morainelaw05_ExprAround_8))) (.seq c_morainelaw05_ExprAround_9 (.seq c_morainelaw05_ExprAround_10 .ret))))))), [.tmp 4], false⟩
theorem tf_morainelaw05_ExprAround : transFunc Go.Proofs.Tryz.prog 4 (hintT [(13, 0), (15, 0), (18, 0), (35, 0), (54, 0)]) (fpT []) (killT [(0, [4]), (1, [13]), (2, [0, 14, 15]), (3, [16, 17, 18, 19, 20]), (5, [21, 22, 23, 24, 25, 26]), (7, [27, 30, 31, 32]), (6, [28, 29]), (8, [1, 9, 11, 33, 34, 35, 36, 37, 38]), (9, [5, 6, 7, 8, 10, 12, 39, 40, 41, 42, 43, 44, 45, 46, 47, 48, 49, 50, 51, 52, 53, 54, 55, 56, 57])]) false = some F_morainelaw05_ExprAround := by kernel_rfl
abbrev c_morainelaw05_shown_0 : SCode := .reg [([], [⟨(some 0), none, none, .mov (.val (.bool false))⟩])] [0]
abbrev c_morainelaw05_shown_1 : SCode := .reg [([2080, 2081, 2082, 2083, 1], [⟨(some 20), none, none, .call 17 0 [(.val (.string ⟨#[97, 43, 98, 42, 50]⟩))]⟩, ⟨(some 19), none, none, .mov (.tmp 20)⟩, ⟨(some 21), none, none, .ext (.tmp 19) 0⟩, ⟨(some 22), none, none, .ext (.tmp 19) 1⟩, ⟨(some 23), none, none, .ext (.tmp 19) 2⟩, ⟨(some 1), none, none, .new [(.int .i64 0), (.int .i64 0), (.string ⟨#[]⟩), (.slice none 0 0)]⟩, ⟨none, none, none, .st 4 (.tmp 1) (.tmp 21)⟩, ⟨(some 2), none, none, .mov (.tmp 22)⟩, ⟨(some 3), none, none, .mov (.tmp 23)⟩])] [2, 19, 20, 21, 22, 23]
abbrev c_morainelaw05_shown_2 : SCode := .reg [([2104, 2105, 2106, 2107], [⟨(some 25), none, none, .ld true 4 (.tmp 1)⟩, ⟨(some 26), none, none, .call 16 0 [(.tmp 25)]⟩, ⟨(some 24), none, none, .mov (.tmp 26)⟩, ⟨(some 27), none, none, .ext (.tmp 24) 0⟩, ⟨(some 28), none, none, .ext (.tmp 24) 1⟩, ⟨(some 4), none, none, .mov (.tmp 27)⟩, ⟨(some 5), none, none, .mov (.tmp 28)⟩])] [24, 25, 26, 27, 28]
abbrev c_morainelaw05_shown_3 : SCode := .reg [([2120, 2121, 2122, 2123, 6], [⟨(some 30), none, none, .call 17 0 [(.val (.string ⟨#[40, 97, 43, 98, 41, 42, 45, 99]⟩))]⟩, ⟨(some 29), none, none, .mov (.tmp 30)⟩, ⟨(some 31), none, none, .ext (.tmp 29) 0⟩, ⟨(some 32), none, none, .ext (.tmp 29) 1⟩, ⟨(some 33), none, none, .ext (.tmp 29) 2⟩, ⟨(some 6), none, none, .new [(.int .i64 0), (.int .i64 0), (.string ⟨#[]⟩), (.slice none 0 0)]⟩, ⟨none, none, none, .st 4 (.tmp 6) (.tmp 31)⟩, ⟨(some 7), none, none, .mov (.tmp 32)⟩, ⟨(some 8), none, none, .mov (.tmp 33)⟩])] [7, 29, 30, 31, 32, 33]
abbrev c_morainelaw05_shown_4 : SCode := .reg [([2144, 2145, 2146, 2147], [⟨(some 35), none, none, .ld true 4 (.tmp 6)⟩, ⟨(some 36), none, none, .call 16 0 [(.tmp 35)]⟩, ⟨(some 34), none, none, .mov (.tmp 36)⟩, ⟨(some 37), none, none, .ext (.tmp 34) 0⟩, ⟨(some 38), none, none, .ext (.tmp 34) 1⟩, ⟨(some 9), none, none, .mov (.tmp 37)⟩, ⟨(some 10), none, none, .mov (.tmp 38)⟩])] [34, 35, 36, 37, 38]
abbrev c_morainelaw05_shown_5 : SCode := .reg [([2160, 2161, 2162, 2163, 11], [⟨(some 40), none, none, .call 17 0 [(.val (.string ⟨#[108, 101, 102, 116, 40, 97, 41]⟩))]⟩, ⟨(some 39), none, none, .mov (.tmp 40)⟩, ⟨(some 41), none, none, .ext (.tmp 39) 0⟩, ⟨(some 42), none, none, .ext (.tmp 39) 1⟩, ⟨(some 43), none, none, .ext (.tmp 39) 2⟩, ⟨(some 11), none, none, .new [(.int .i64 0), (.int .i64 0), (.string ⟨#[]⟩), (.slice none 0 0)]⟩, ⟨none, none, none, .st 4 (.tmp 11) (.tmp 41)⟩, ⟨(some 12), none, none, .mov (.tmp 42)⟩, ⟨(some 13), none, none, .mov (.tmp 43)⟩])] [11, 39, 40, 41, 42, 43]
abbrev c_morainelaw05_shown_6 : SCode := .reg [([2180, 2181, 2182, 2183, 14], [⟨(some 45), none, none, .call 17 0 [(.val (.string ⟨#[97, 32, 35, 32, 98]⟩))]⟩, ⟨(some 44), none, none, .mov (.tmp 45)⟩, ⟨(some 46), none, none, .ext (.tmp 44) 0⟩, ⟨(some 47), none, none, .ext (.tmp 44) 1⟩, ⟨(some 48), none, none, .ext (.tmp 44) 2⟩, ⟨(some 14), none, none, .new [(.int .i64 0), (.int .i64 0), (.string ⟨#[]⟩), (.slice none 0 0)]⟩, ⟨none, none, none, .st 4 (.tmp 14) (.tmp 46)⟩, ⟨(some 15), none, none, .mov (.tmp 47)⟩, ⟨(some 16), none, none, .mov (.tmp 48)⟩])] [14, 44, 45, 46, 47, 48]
abbrev c_morainelaw05_shown_7 : SCode := .reg [([2204, 2205, 2206, 2207], [⟨(some 50), none, none, .build [(.int .i64 0), (.int .i64 0), (.string ⟨#[]⟩), (.slice none 0 0)] []⟩, ⟨(some 51), none, none, .call 16 0 [(.tmp 50)]⟩, ⟨(some 49), none, none, .mov (.tmp 51)⟩, ⟨(some 52), none, none, .ext (.tmp 49) 0⟩, ⟨(some 53), none, none, .ext (.tmp 49) 1⟩, ⟨(some 17), none, none, .mov (.tmp 52)⟩, ⟨(some 18), none, none, .mov (.tmp 53)⟩])] [17, 49, 50, 51, 52, 53]
abbrev c_morainelaw05_shown_8 : SCode := .reg [([2392, 2393, 2394, 2395, 2412, 2413, 2414, 2415, 2432, 2433, 2434, 2435], [⟨(some 54), none, none, .mov (.tmp 3)⟩, ⟨(some 55), none, none, .bin .eql 28 (.tmp 54) (.val (.int .i64 0))⟩, ⟨(some 56), none, none, .mov (.tmp 55)⟩, ⟨(some 57), (some (56, true)), none, .mov (.tmp 4)⟩, ⟨(some 58), (some (56, true)), none, .bin .eql 9 (.tmp 57) (.val (.string ⟨#[97, 32, 43, 32, 98, 32, 42, 32, 50]⟩))⟩, ⟨(some 59), none, none, .pick (.tmp 56) (.tmp 58) (.val (.bool false))⟩, ⟨(some 60), none, none, .mov (.tmp 59)⟩, ⟨(some 61), (some (60, true)), none, .mov (.tmp 5)⟩, ⟨(some 62), (some (60, true)), none, .bin .eql 28 (.tmp 61) (.val (.int .i64 0))⟩, ⟨(some 63), none, none, .pick (.tmp 60) (.tmp 62) (.val (.bool false))⟩, ⟨(some 64), none, none, .mov (.tmp 63)⟩, ⟨(some 65), (some (64, true)), none, .mov (.tmp 8)⟩, ⟨(some 66), (some (64, true)), none, .bin .eql 28 (.tmp 65) (.val (.int .i64 0))⟩, ⟨(some 67), none, none, .pick (.tmp 64) (.tmp 66) (.val (.bool false))⟩, ⟨(some 68), none, none, .mov (.tmp 67)⟩, ⟨(some 69), (some (68, true)), none, .mov (.tmp 9)⟩, ⟨(some 70), (some (68, true)), none, .bin .eql 9 (.tmp 69) (.val (.string ⟨#[40, 97, 32, 43, 32, 98, 41, 32, 42, 32, 45, 99]⟩))⟩, ⟨(some 71), none, none, .pick (.tmp 68) (.tmp 70) (.val (.bool false))⟩, ⟨(some 72), none, none, .mov (.tmp 71)⟩, ⟨(some 73), (some (72, true)), none, .mov (.tmp 10)⟩, ⟨(some 74), (some (72, true)), none, .bin .eql 28 (.tmp 73) (.val (.int .i64 0))⟩, ⟨(some 75), none, none, .pick (.tmp 72) (.tmp 74) (.val (.bool false))⟩, ⟨(some 76), none, none, .mov (.tmp 75)⟩, ⟨(some 77), (some (76, true)), none, .mov (.tmp 12)⟩, ⟨(some 78), (some (76, true)), none, .bin .eql 3 (.tmp 77) (.val (.int .i64 6))⟩, ⟨(some 79), none, none, .pick (.tmp 76) (.tmp 78) (.val (.bool false))⟩, ⟨(some 80), none, none, .mov (.tmp 79)⟩, ⟨(some 81), (some (80, true)), none, .mov (.tmp 13)⟩, ⟨(some 82), (some (80, true)), none, .bin .eql 28 (.tmp 81) (.val (.int .i64 50))⟩, ⟨(some 83), none, none, .pick (.tmp 80) (.tmp 82) (.val (.bool false))⟩, ⟨(some 84), none, none, .mov (.tmp 83)⟩, ⟨(some 85), (some (84, true)), none, .mov (.tmp 15)⟩, ⟨(some 86), (some (84, true)), none, .bin .eql 3 (.tmp 85) (.val (.int .i64 2))⟩, ⟨(some 87), none, none, .pick (.tmp 84) (.tmp 86) (.val (.bool false))⟩, ⟨(some 88), none, none, .mov (.tmp 87)⟩, ⟨(some 89), (some (88, true)), none, .mov (.tmp 16)⟩, ⟨(some 90), (some (88, true)), none, .bin .eql 28 (.tmp 89) (.val (.int .i64 50))⟩, ⟨(some 91), none, none, .pick (.tmp 88) (.tmp 90) (.val (.bool false))⟩, ⟨(some 92), none, none, .mov (.tmp 91)⟩, ⟨(some 93), (some (92, true)), none, .mov (.tmp 18)⟩, ⟨(some 94), (some (92, true)), none, .bin .eql 28 (.tmp 93) (.val (.int .i64 50))⟩, ⟨(some 95), none, none, .pick (.tmp 92) (.tmp 94) (.val (.bool false))⟩, ⟨(some 96), none, none, .mov (.tmp 95)⟩, ⟨(some 97), (some (96, true)), none, .ld true 4 (.tmp 1)⟩, ⟨(some 98), (some (96, true)), none, .call 18 0 [(.tmp 97)]⟩, ⟨(some 99), none, none, .pick (.tmp 96) (.tmp 98) (.val (.bool false))⟩, ⟨(some 100), none, none, .mov (.tmp 99)⟩, ⟨(some 101), (some (100, true)), none, .ld true 4 (.tmp 1)⟩, ⟨(some 102), (some (100, true)), none, .ld true 4 (.tmp 1)⟩, ⟨(some 103), (some (100, true)), none, .call 19 0 [(.tmp 101), (.tmp 102)]⟩, ⟨(some 104), none, none, .pick (.tmp 100) (.tmp 103) (.val (.bool false))⟩, ⟨(some 105), none, none, .mov (.tmp 104)⟩, ⟨(some 106), (some (105, true)), none, .ld true 4 (.tmp 1)⟩, ⟨(some 107), (some (105, true)), none, .ld true 4 (.tmp 6)⟩, ⟨(some 108), (some (105, true)), none, .call 19 0 [(.tmp 106), (.tmp 107)]⟩, ⟨(some 109), (some (105, true)), none, .un .not (.tmp 108)⟩, ⟨(some 110), none, none, .pick (.tmp 105) (.tmp 109) (.val (.bool false))⟩, ⟨(some 0), none, none, .mov (.tmp 110)⟩])] [1, 3, 4, 5, 6, 8, 9, 10, 12, 13, 15, 16, 18, 54, 55, 56, 57, 58, 59, 60, 61, 62, 63, 64, 65, 66, 67, 68, 69, 70, 71, 72, 73, 74, 75, 76, 77, 78, 79, 80, 81, 82, 83, 84, 85, 86, 87, 88, 89, 90, 91, 92, 93, 94, 95, 96, 97, 98, 99, 100, 101, 102, 103, 104, 105, 106, 107, 108, 109, 110]
abbrev F_morainelaw05_shown : SFunc := ⟨111, (.seq c_morainelaw05_shown_0 (.seq c_morainelaw05_shown_1 (.seq c_morainelaw05_shown_2 (.seq c_morainelaw05_shown_3 (.seq c_morainelaw05_shown_4 (.seq c_morainelaw05_shown_5 (.seq c_morainelaw05_shown_6 (.seq c_morainelaw05_shown_7 (.seq c_morainelaw05_shown_8 .ret))))))))), [.tmp 0], false⟩
theorem tf_morainelaw05_shown : transFunc Go.Proofs.Tryz.prog 14 (hintT [(20, 0), (26, 0), (30, 0), (36, 0), (40, 0), (45, 0), (51, 0), (98, 0), (103, 0), (108, 0)]) (fpT []) (killT [(0, [0]), (1, [2, 19, 20, 21, 22, 23]), (2, [24, 25, 26, 27, 28]), (3, [7, 29, 30, 31, 32, 33]), (4, [34, 35, 36, 37, 38]), (5, [11, 39, 40, 41, 42, 43]), (6, [14, 44, 45, 46, 47, 48]), (7, [17, 49, 50, 51, 52, 53]), (8, [1, 3, 4, 5, 6, 8, 9, 10, 12, 13, 15, 16, 18, 54, 55, 56, 57, 58, 59, 60, 61, 62, 63, 64, 65, 66, 67, 68, 69, 70, 71, 72, 73, 74, 75, 76, 77, 78, 79, 80, 81, 82, 83, 84, 85, 86, 87, 88, 89, 90, 91, 92, 93, 94, 95, 96, 97, 98, 99, 100, 101, 102, 103, 104, 105, 106, 107, 108, 109, 110])]) false = some F_morainelaw05_shown := by kernel_rfl
abbrev c_morainelaw05_Tree_0 : SCode := .reg [([2], [⟨(some 2), none, none, .new [(.int .i64 0), (.int .i64 0), (.string ⟨#[]⟩), (.slice none 0 0)]⟩])] []
abbrev c_morainelaw05_Tree_1 : SCode := .reg [([7], [⟨(some 5), none, none, .mov (.tmp 0)⟩, ⟨(some 6), none, none, .build [(.slice none 0 0), (.int .i64 0)] [(0, 1, (.tmp 5))]⟩, ⟨(some 7), none, none, .box (.tmp 6)⟩, ⟨(some 3), none, none, .mov (.tmp 7)⟩])] [0, 5, 6, 7]
abbrev c_morainelaw05_Tree_2 : SCode := .reg [([2036, 2037, 2038, 2039, 4], [⟨(some 8), none, none, .mov (.tmp 3)⟩, ⟨(some 9), none, none, .call 57 1 [(.tmp 8), (.val (.int .i64 4))]⟩, ⟨(some 4), none, none, .new [(.int .i64 0), (.int .i64 0), (.string ⟨#[]⟩), (.slice none 0 0)]⟩, ⟨none, none, none, .st 4 (.tmp 4) (.tmp 9)⟩])] [3, 8, 9]
abbrev c_morainelaw05_Tree_3 : SCode := .reg [([2044, 2045, 2046, 2047], [⟨(some 10), none, none, .ld true 4 (.tmp 4)⟩, ⟨(some 11), none, none, .call 58 0 [(.tmp 10)]⟩, ⟨(some 12), none, none, .un .not (.tmp 11)⟩])] [10, 11]
abbrev c_morainelaw05_Tree_4 : SCode := .reg [([], [⟨(some 13), none, none, .build [(.int .i64 0), (.int .i64 0), (.string ⟨#[]⟩), (.slice none 0 0)] [(0, 1, (.val (.int .i64 3))), (2, 1, (.val (.string ⟨#[97]⟩)))]⟩, ⟨none, none, none, .st 4 (.tmp 2) (.tmp 13)⟩])] [4, 12, 13]
abbrev c_morainelaw05_Tree_5 : SCode := .reg [([], [⟨(some 14), none, none, .ld true 4 (.tmp 4)⟩, ⟨none, none, none, .st 4 (.tmp 2) (.tmp 14)⟩])] [4, 12, 14]
abbrev F_morainelaw05_Tree : SFunc := ⟨15, (.seq c_morainelaw05_Tree_0 (.seq c_morainelaw05_Tree_1 (.seq c_morainelaw05_Tree_2 (.seq (.seq c_morainelaw05_Tree_3 (.cond (.tmp 12) (.seq c_morainelaw05_Tree_4 .ret) .skip)) (.seq c_morainelaw05_Tree_5 .ret))))), [.cell true 4 2], false⟩
theorem tf_morainelaw05_Tree : transFunc Go.Proofs.Tryz.prog 15 (hintT [(9, 1), (11, 0)]) (fpT []) (killT [(1, [0, 5, 6, 7]), (2, [3, 8, 9]), (3, [10, 11]), (4, [4, 12, 13]), (5, [4, 12, 14])]) false = some F_morainelaw05_Tree := by kernel_rfl
abbrev c_expr_Print_0 : SCode := .reg [([1], [⟨(some 1), none, none, .box (.tmp 0)⟩, ⟨(some 2), none, none, .mov (.val (.string ⟨#[]⟩))⟩, ⟨(some 3), none, none, .mov (.val (.int .i64 0))⟩])] [0, 2, 3]
abbrev c_expr_Print_1 : SCode := .reg [([2024, 2025, 2026, 2027], [⟨(some 5), none, none, .ld true 4 (.tmp 1)⟩, ⟨(some 6), none, none, .call 18 0 [(.tmp 5)]⟩, ⟨(some 7), none, none, .un .not (.tmp 6)⟩])] [5, 6]
abbrev c_expr_Print_2 : SCode := .reg [([], [⟨(some 2), none, none, .mov (.val (.string ⟨#[]⟩))⟩, ⟨(some 3), none, none, .mov (.val (.int .i64 50))⟩])] [1, 7]
abbrev c_expr_Print_3 : SCode := .reg [([2032, 2033, 2034, 2035, 4], [⟨(some 8), none, none, .call 59 0 []⟩, ⟨(some 9), none, none, .build [(.map none)] [(0, 1, (.tmp 8))]⟩, ⟨(some 4), none, none, .new [(.map none)]⟩, ⟨none, none, none, .st 1 (.tmp 4) (.tmp 9)⟩])] [2, 3, 7, 8, 9]
abbrev c_expr_Print_4 : SCode := .reg [([2048, 2049, 2050, 2051], [⟨(some 10), none, none, .ld true 1 (.tmp 4)⟩, ⟨(some 11), none, none, .ld true 4 (.tmp 1)⟩, ⟨(some 12), none, none, .call 60 0 [(.tmp 10), (.tmp 11)]⟩, ⟨(some 2), none, none, .mov (.tmp 12)⟩, ⟨(some 3), none, none, .mov (.val (.int .i64 0))⟩])] [1, 4, 10, 11, 12]
abbrev F_expr_Print : SFunc := ⟨13, (.seq c_expr_Print_0 (.seq (.seq c_expr_Print_1 (.cond (.tmp 7) (.seq c_expr_Print_2 .ret) .skip)) (.seq c_expr_Print_3 (.seq c_expr_Print_4 .ret)))), [.tmp 2, .tmp 3], false⟩
theorem tf_expr_Print : transFunc Go.Proofs.Tryz.prog 16 (hintT [(6, 0), (8, 0), (12, 0)]) (fpT []) (killT [(0, [0, 2, 3]), (1, [5, 6]), (2, [1, 7]), (3, [2, 3, 7, 8, 9]), (4, [1, 4, 10, 11, 12])]) false = some F_expr_Print := by kernel_rfl
abbrev c_expr_Parse_0 : SCode := .reg [([2, 3, 4], [⟨(some 2), none, none, .new [(.int .i64 0), (.int .i64 0), (.string ⟨#[]⟩), (.slice none 0 0)]⟩, ⟨(some 3), none, none, .new [(.int .i64 0)]⟩, ⟨(some 4), none, none, .new [(.int .i64 0)]⟩])] []
abbrev c_expr_Parse_1 : SCode := .reg [([], [⟨(some 10), none, none, .mov (.tmp 0)⟩, ⟨(some 11), none, none, .slen (.tmp 10)⟩, ⟨(some 12), none, none, .bin .gtr 3 (.tmp 11) (.val (.int .i64 200))⟩])] [10, 11]
abbrev c_expr_Parse_2 : SCode := .reg [([], [⟨(some 13), none, none, .build [(.int .i64 0), (.int .i64 0), (.string ⟨#[]⟩), (.slice none 0 0)] []⟩, ⟨none, none, none, .st 4 (.tmp 2) (.tmp 13)⟩, ⟨none, none, none, .st 1 (.tmp 3) (.val (.int .i64 200))⟩, ⟨none, none, none, .st 1 (.tmp 4) (.val (.int .i64 50))⟩])] [0, 12, 13]
abbrev c_expr_Parse_3 : SCode := .reg [([2068, 2069, 2070, 2071, 5], [⟨(some 14), none, none, .mov (.tmp 0)⟩, ⟨(some 15), none, none, .slen (.tmp 14)⟩, ⟨(some 16), none, none, .build [(.slice none 0 0), (.int .i64 0), (.int .i64 0)] [(2, 1, (.tmp 15))]⟩, ⟨(some 17), none, none, .call 59 0 []⟩, ⟨(some 18), none, none, .build [(.slice none 0 0), (.int .i64 0), (.int .i64 0), (.map none)] [(0, 3, (.tmp 16)), (3, 1, (.tmp 17))]⟩, ⟨(some 5), none, none, .new [(.slice none 0 0), (.int .i64 0), (.int .i64 0), (.map none)]⟩, ⟨none, none, none, .st 4 (.tmp 5) (.tmp 18)⟩])] [12, 14, 15, 16, 17, 18]
abbrev c_expr_Parse_4 : SCode := .reg [([2080, 2081, 2082, 2083], [⟨(some 19), none, none, .mov (.tmp 0)⟩, ⟨(some 20), none, none, .call 61 0 [(.tmp 19)]⟩])] [0, 19]
abbrev c_expr_Parse_5 : SCode := .reg [([2148, 2149, 2150, 2151, 7], [⟨(some 37), none, none, .call 62 1 [(.tmp 5)]⟩, ⟨(some 36), none, none, .mov (.tmp 37)⟩, ⟨(some 38), none, none, .ext (.tmp 36) 0⟩, ⟨(some 39), none, none, .ext (.tmp 36) 1⟩, ⟨(some 40), none, none, .ext (.tmp 36) 2⟩, ⟨(some 7), none, none, .new [(.int .i64 0), (.int .i64 0), (.string ⟨#[]⟩), (.slice none 0 0)]⟩, ⟨none, none, none, .st 4 (.tmp 7) (.tmp 38)⟩, ⟨(some 8), none, none, .mov (.tmp 39)⟩, ⟨(some 9), none, none, .mov (.tmp 40)⟩])] [5, 20, 36, 37, 38, 39, 40]
abbrev c_expr_Parse_6 : SCode := .reg [([], [⟨(some 41), none, none, .mov (.tmp 9)⟩, ⟨(some 42), none, none, .un .not (.tmp 41)⟩])] [9, 41]
abbrev c_expr_Parse_7 : SCode := .reg [([], [⟨(some 43), none, none, .build [(.int .i64 0), (.int .i64 0), (.string ⟨#[]⟩), (.slice none 0 0)] []⟩, ⟨(some 44), none, none, .mov (.tmp 8)⟩, ⟨none, none, none, .st 4 (.tmp 2) (.tmp 43)⟩, ⟨none, none, none, .st 1 (.tmp 3) (.tmp 44)⟩, ⟨none, none, none, .st 1 (.tmp 4) (.val (.int .i64 50))⟩])] [7, 8, 42, 43, 44]
abbrev c_expr_Parse_8 : SCode := .reg [([2184, 2185, 2186, 2187], [⟨(some 45), none, none, .ld true 4 (.tmp 7)⟩, ⟨(some 46), none, none, .call 18 0 [(.tmp 45)]⟩, ⟨(some 47), none, none, .un .not (.tmp 46)⟩])] [8, 42, 45, 46]
abbrev c_expr_Parse_9 : SCode := .reg [([], [⟨(some 48), none, none, .build [(.int .i64 0), (.int .i64 0), (.string ⟨#[]⟩), (.slice none 0 0)] []⟩, ⟨none, none, none, .st 4 (.tmp 2) (.tmp 48)⟩, ⟨none, none, none, .st 1 (.tmp 3) (.val (.int .i64 0))⟩, ⟨none, none, none, .st 1 (.tmp 4) (.val (.int .i64 51))⟩])] [7, 47, 48]
abbrev c_expr_Parse_10 : SCode := .reg [([], [⟨(some 49), none, none, .ld true 4 (.tmp 7)⟩, ⟨none, none, none, .st 4 (.tmp 2) (.tmp 49)⟩, ⟨none, none, none, .st 1 (.tmp 3) (.val (.int .i64 0))⟩, ⟨none, none, none, .st 1 (.tmp 4) (.val (.int .i64 0))⟩])] [7, 47, 49]
noncomputable abbrev F_expr_Parse : SFunc := ⟨50, (.seq c_expr_Parse_0 (.seq (.seq c_expr_Parse_1 (.cond (.tmp 12) (.seq c_expr_Parse_2 .ret) .skip)) (.seq c_expr_Parse_3 (.seq (.seq c_expr_Parse_4 (.block 0 (.raw 50 (rawOf Go.Proofs.Tryz.prog 17 0)))) (.seq c_expr_Parse_5 (.seq (.seq c_expr_Parse_6 (.cond (.tmp 42) (.seq c_expr_Parse_7 .ret) .skip)) (.seq (.seq c_expr_Parse_8 (.cond (.tmp 47) (.seq c_expr_Parse_9 .ret) .skip)) (.seq c_expr_Parse_10 .ret)))))))), [.cell true 4 2, .cell false 1 3, .cell false 1 4], false⟩
theorem tf_expr_Parse : transFunc Go.Proofs.Tryz.prog 17 (hintT [(17, 0), (20, 0), (32, 0), (37, 1), (46, 0)]) (fpT []) (killT [(1, [10, 11]), (2, [0, 12, 13]), (3, [12, 14, 15, 16, 17, 18]), (4, [0, 19]), (9, [5, 20, 36, 37, 38, 39, 40]), (10, [9, 41]), (11, [7, 8, 42, 43, 44]), (12, [8, 42, 45, 46]), (13, [7, 47, 48]), (14, [7, 47, 49])]) false = some F_expr_Parse := by kernel_rfl
abbrev c_expr_Right_0 : SCode := .reg [([1], [⟨(some 1), none, none, .box (.tmp 0)⟩, ⟨(some 2), none, none, .mov (.val (.bool false))⟩])] [0, 2]
abbrev c_expr_Right_1 : SCode := .reg [([2016, 2017, 2018, 2019, 3], [⟨(some 4), none, none, .call 59 0 []⟩, ⟨(some 5), none, none, .build [(.map none), (.int .i64 0)] [(0, 1, (.tmp 4))]⟩, ⟨(some 3), none, none, .new [(.map none), (.int .i64 0)]⟩, ⟨none, none, none, .st 2 (.tmp 3) (.tmp 5)⟩])] [4, 5]
abbrev c_expr_Right_2 : SCode := .reg [([2028, 2029, 2030, 2031], [⟨(some 6), none, none, .ld true 4 (.tmp 1)⟩, ⟨(some 7), none, none, .call 63 1 [(.tmp 3), (.tmp 6), (.val (.int .i64 1))]⟩, ⟨(some 2), none, none, .mov (.tmp 7)⟩])] [1, 3, 6, 7]
abbrev F_expr_Right : SFunc := ⟨8, (.seq c_expr_Right_0 (.seq c_expr_Right_1 (.seq c_expr_Right_2 .ret))), [.tmp 2], false⟩
theorem tf_expr_Right : transFunc Go.Proofs.Tryz.prog 18 (hintT [(4, 0), (7, 1)]) (fpT []) (killT [(0, [0, 2]), (1, [4, 5]), (2, [1, 3, 6, 7])]) false = some F_expr_Right := by kernel_rfl
abbrev c_expr_Same_0 : SCode := .reg [([2, 3], [⟨(some 2), none, none, .box (.tmp 0)⟩, ⟨(some 3), none, none, .box (.tmp 1)⟩, ⟨(some 4), none, none, .mov (.val (.bool false))⟩])] [0, 1, 4]
abbrev c_expr_Same_1 : SCode := .reg [([2116, 2117, 2118, 2119], [⟨(some 5), none, none, .fldA 0 (.tmp 2)⟩, ⟨(some 6), none, none, .ld false 1 (.tmp 5)⟩, ⟨(some 7), none, none, .fldA 0 (.tmp 3)⟩, ⟨(some 8), none, none, .ld false 1 (.tmp 7)⟩, ⟨(some 9), none, none, .bin .eql 3 (.tmp 6) (.tmp 8)⟩, ⟨(some 10), none, none, .mov (.tmp 9)⟩, ⟨(some 11), (some (10, true)), none, .fldA 1 (.tmp 2)⟩, ⟨(some 12), (some (10, true)), none, .ld false 1 (.tmp 11)⟩, ⟨(some 13), (some (10, true)), none, .fldA 1 (.tmp 3)⟩, ⟨(some 14), (some (10, true)), none, .ld false 1 (.tmp 13)⟩, ⟨(some 15), (some (10, true)), none, .bin .eql 3 (.tmp 12) (.tmp 14)⟩, ⟨(some 16), none, none, .pick (.tmp 10) (.tmp 15) (.val (.bool false))⟩, ⟨(some 17), none, none, .mov (.tmp 16)⟩, ⟨(some 18), (some (17, true)), none, .fldA 2 (.tmp 2)⟩, ⟨(some 19), (some (17, true)), none, .ld false 1 (.tmp 18)⟩, ⟨(some 20), (some (17, true)), none, .fldA 2 (.tmp 3)⟩, ⟨(some 21), (some (17, true)), none, .ld false 1 (.tmp 20)⟩, ⟨(some 22), (some (17, true)), none, .bin .eql 9 (.tmp 19) (.tmp 21)⟩, ⟨(some 23), none, none, .pick (.tmp 17) (.tmp 22) (.val (.bool false))⟩, ⟨(some 24), none, none, .mov (.tmp 23)⟩, ⟨(some 25), (some (24, true)), none, .fldA 3 (.tmp 2)⟩, ⟨(some 26), (some (24, true)), none, .ld false 1 (.tmp 25)⟩, ⟨(some 27), (some (24, true)), none, .fldA 3 (.tmp 3)⟩, ⟨(some 28), (some (24, true)), none, .ld false 1 (.tmp 27)⟩, ⟨(some 29), (some (24, true)), none, .call 64 1 [(.tmp 26), (.tmp 28), (.val (.func (.func 19) #[] #[]))]⟩, ⟨(some 30), none, none, .pick (.tmp 24) (.tmp 29) (.val (.bool false))⟩, ⟨(some 4), none, none, .mov (.tmp 30)⟩])] [2, 3, 5, 6, 7, 8, 9, 10, 11, 12, 13, 14, 15, 16, 17, 18, 19, 20, 21, 22, 23, 24, 25, 26, 27, 28, 29, 30]
abbrev F_expr_Same : SFunc := ⟨31, (.seq c_expr_Same_0 (.seq c_expr_Same_1 .ret)), [.tmp 4], false⟩
theorem tf_expr_Same : transFunc Go.Proofs.Tryz.prog 19 (hintT [(29, 1)]) (fpT []) (killT [(0, [0, 1, 4]), (1, [2, 3, 5, 6, 7, 8, 9, 10, 11, 12, 13, 14, 15, 16, 17, 18, 19, 20, 21, 22, 23, 24, 25, 26, 27, 28, 29, 30])]) false = some F_expr_Same := by kernel_rfl
abbrev c___morainelaw05_Maker__tree_0 : SCode := .reg [([4], [⟨(some 4), none, none, .new [(.int .i64 0), (.int .i64 0), (.string ⟨#[]⟩), (.slice none 0 0)]⟩])] []
abbrev c___morainelaw05_Maker__tree_1 : SCode := .reg [([2044, 2045, 2046, 2047], [⟨(some 10), none, none, .mov (.tmp 0)⟩, ⟨(some 11), none, none, .call 99 1 [(.tmp 10)]⟩, ⟨(some 5), none, none, .mov (.tmp 11)⟩])] [10, 11]
abbrev c___morainelaw05_Maker__tree_2 : SCode := .reg [([], [⟨(some 12), none, none, .mov (.tmp 1)⟩, ⟨(some 13), none, none, .bin .leq 3 (.tmp 12) (.val (.int .i64 1))⟩])] [12]
abbrev c___morainelaw05_Maker__tree_3 : SCode := .reg [([], [⟨(some 14), none, none, .mov (.tmp 5)⟩, ⟨(some 15), none, none, .bin .rem 3 (.tmp 14) (.val (.int .i64 3))⟩, ⟨(some 5), none, none, .mov (.tmp 15)⟩])] [13, 14, 15]
abbrev c___morainelaw05_Maker__tree_4 : SCode := .reg [([], [⟨(some 16), none, none, .mov (.tmp 5)⟩, ⟨(some 17), none, none, .bin .rem 3 (.tmp 16) (.val (.int .i64 8))⟩])] [5, 13, 16]
abbrev c___morainelaw05_Maker__tree_5 : SCode := .reg [([], [⟨(some 19), none, none, .bin .eql 3 (.tmp 17) (.val (.int .i64 0))⟩, ⟨(some 18), none, none, .mov (.tmp 19)⟩])] [19]
abbrev c___morainelaw05_Maker__tree_6 : SCode := .reg [([2084, 2085, 2086, 2087], [⟨(some 20), none, none, .mov (.tmp 0)⟩, ⟨(some 21), none, none, .call 100 1 [(.tmp 20)]⟩, ⟨(some 22), none, none, .build [(.int .i64 0), (.int .i64 0), (.string ⟨#[]⟩), (.slice none 0 0)] [(0, 1, (.val (.int .i64 3))), (2, 1, (.tmp 21))]⟩, ⟨none, none, none, .st 4 (.tmp 4) (.tmp 22)⟩])] [0, 1, 17, 18, 20, 21, 22]
abbrev c___morainelaw05_Maker__tree_7 : SCode := .reg [([], [⟨(some 24), none, none, .bin .eql 3 (.tmp 17) (.val (.int .i64 1))⟩, ⟨(some 23), none, none, .mov (.tmp 24)⟩])] [18, 24]
abbrev c___morainelaw05_Maker__tree_8 : SCode := .reg [([2104, 2105, 2106, 2107, 2116, 2117, 2118, 2119], [⟨(some 25), none, none, .mov (.tmp 0)⟩, ⟨(some 26), none, none, .call 99 1 [(.tmp 25)]⟩, ⟨(some 27), none, none, .bsl 1 [(.val (.int .i64 1)), (.val (.int .i64 1)), (.val (.int .i64 1000)), (.val (.int .i64 1000000000000))]⟩, ⟨(some 28), none, none, .mov (.tmp 0)⟩, ⟨(some 29), none, none, .call 99 1 [(.tmp 28)]⟩, ⟨(some 30), none, none, .bin .rem 3 (.tmp 29) (.val (.int .i64 4))⟩, ⟨(some 31), none, none, .idxA 1 (.tmp 27) (.tmp 30)⟩, ⟨(some 32), none, none, .ld false 1 (.tmp 31)⟩, ⟨(some 33), none, none, .bin .mul 3 (.tmp 26) (.tmp 32)⟩, ⟨(some 34), none, none, .build [(.int .i64 0), (.int .i64 0), (.string ⟨#[]⟩), (.slice none 0 0)] [(0, 1, (.val (.int .i64 1))), (1, 1, (.tmp 33))]⟩, ⟨none, none, none, .st 4 (.tmp 4) (.tmp 34)⟩])] [0, 1, 17, 23, 25, 26, 27, 28, 29, 30, 31, 32, 33, 34]
abbrev c___morainelaw05_Maker__tree_9 : SCode := .reg [([], [⟨(some 36), none, none, .bin .eql 3 (.tmp 17) (.val (.int .i64 2))⟩, ⟨(some 35), none, none, .mov (.tmp 36)⟩])] [23, 36]
abbrev c___morainelaw05_Maker__tree_10 : SCode := .reg [([2156, 2157, 2158, 2159], [⟨(some 37), none, none, .bsl 1 [(.val (.string ⟨#[]⟩)), (.val (.string ⟨#[97]⟩)), (.val (.string ⟨#[34]⟩)), (.val (.string ⟨#[92]⟩)), (.val (.string ⟨#[97, 32, 98]⟩)), (.val (.string ⟨#[195, 169]⟩))]⟩, ⟨(some 38), none, none, .mov (.tmp 0)⟩, ⟨(some 39), none, none, .call 99 1 [(.tmp 38)]⟩, ⟨(some 40), none, none, .bin .rem 3 (.tmp 39) (.val (.int .i64 6))⟩, ⟨(some 41), none, none, .idxA 1 (.tmp 37) (.tmp 40)⟩, ⟨(some 42), none, none, .ld false 1 (.tmp 41)⟩, ⟨(some 43), none, none, .build [(.int .i64 0), (.int .i64 0), (.string ⟨#[]⟩), (.slice none 0 0)] [(0, 1, (.val (.int .i64 2))), (2, 1, (.tmp 42))]⟩, ⟨none, none, none, .st 4 (.tmp 4) (.tmp 43)⟩])] [0, 1, 17, 35, 37, 38, 39, 40, 41, 42, 43]
abbrev c___morainelaw05_Maker__tree_11 : SCode := .reg [([], [⟨(some 45), none, none, .bin .eql 3 (.tmp 17) (.val (.int .i64 3))⟩, ⟨(some 44), none, none, .mov (.tmp 45)⟩])] [35, 45]
abbrev c___morainelaw05_Maker__tree_12 : SCode := .reg [([2196, 2197, 2198, 2199], [⟨(some 46), none, none, .mov (.tmp 0)⟩, ⟨(some 47), none, none, .mov (.tmp 1)⟩, ⟨(some 48), none, none, .bin .sub 3 (.tmp 47) (.val (.int .i64 1))⟩, ⟨(some 49), none, none, .call 57 1 [(.tmp 46), (.tmp 48)]⟩, ⟨(some 50), none, none, .bsl 4 [(.tmp 49)]⟩, ⟨(some 51), none, none, .build [(.int .i64 0), (.int .i64 0), (.string ⟨#[]⟩), (.slice none 0 0)] [(0, 1, (.val (.int .i64 5))), (2, 1, (.val (.string ⟨#[45]⟩))), (3, 1, (.tmp 50))]⟩, ⟨none, none, none, .st 4 (.tmp 4) (.tmp 51)⟩])] [0, 1, 17, 44, 46, 47, 48, 49, 50, 51]
abbrev c___morainelaw05_Maker__tree_13 : SCode := .reg [([], [⟨(some 53), none, none, .bin .eql 3 (.tmp 17) (.val (.int .i64 4))⟩, ⟨(some 52), none, none, .mov (.tmp 53)⟩])] [17, 44, 53]
abbrev c___morainelaw05_Maker__tree_14 : SCode := .reg [([2224, 2225, 2226, 2227], [⟨(some 54), none, none, .bsl 1 [(.val (.string ⟨#[108, 101, 110]⟩)), (.val (.string ⟨#[108, 101, 102, 116]⟩)), (.val (.string ⟨#[114, 105, 103, 104, 116]⟩)), (.val (.string ⟨#[102, 114, 111, 109]⟩)), (.val (.string ⟨#[102, 105, 110, 100]⟩)), (.val (.string ⟨#[116, 101, 120, 116]⟩)), (.val (.string ⟨#[110, 117, 109]⟩)), (.val (.string ⟨#[105, 102]⟩)), (.val (.string ⟨#[109, 105, 110]⟩)), (.val (.string ⟨#[109, 97, 120]⟩))]⟩, ⟨(some 55), none, none, .mov (.tmp 0)⟩, ⟨(some 56), none, none, .call 99 1 [(.tmp 55)]⟩, ⟨(some 57), none, none, .bin .rem 3 (.tmp 56) (.val (.int .i64 10))⟩, ⟨(some 58), none, none, .idxA 1 (.tmp 54) (.tmp 57)⟩, ⟨(some 59), none, none, .ld false 1 (.tmp 58)⟩, ⟨(some 6), none, none, .mov (.tmp 59)⟩])] [52, 54, 55, 56, 57, 58, 59]
abbrev c___morainelaw05_Maker__tree_15 : SCode := .reg [([7], [⟨(some 60), none, none, .mov (.tmp 6)⟩, ⟨(some 61), none, none, .build [(.int .i64 0), (.int .i64 0), (.string ⟨#[]⟩), (.slice none 0 0)] [(0, 1, (.val (.int .i64 6))), (2, 1, (.tmp 60))]⟩, ⟨(some 7), none, none, .new [(.int .i64 0), (.int .i64 0), (.string ⟨#[]⟩), (.slice none 0 0)]⟩, ⟨none, none, none, .st 4 (.tmp 7) (.tmp 61)⟩])] [60, 61]
abbrev c___morainelaw05_Maker__tree_16 : SCode := .reg [([], [⟨(some 8), none, none, .mov (.val (.int .i64 0))⟩])] []
abbrev c___morainelaw05_Maker__tree_17 : SCode := .reg [([2256, 2257, 2258, 2259], [⟨(some 62), none, none, .mov (.tmp 8)⟩, ⟨(some 63), none, none, .mov (.tmp 6)⟩, ⟨(some 64), none, none, .call 101 0 [(.tmp 63)]⟩, ⟨(some 65), none, none, .bin .lss 3 (.tmp 62) (.tmp 64)⟩])] [62, 63, 64]
abbrev c___morainelaw05_Maker__tree_18 : SCode := .reg [([2292, 2293, 2294, 2295], [⟨(some 68), none, none, .fldA 3 (.tmp 7)⟩, ⟨(some 69), none, (some 7), .ld false 1 (.tmp 68)⟩, ⟨(some 70), none, none, .mov (.tmp 0)⟩, ⟨(some 71), none, none, .mov (.tmp 1)⟩, ⟨(some 72), none, none, .bin .sub 3 (.tmp 71) (.val (.int .i64 1))⟩, ⟨(some 73), none, (some 1000), .call 57 1 [(.tmp 70), (.tmp 72)]⟩, ⟨(some 74), none, none, .bsl 4 [(.tmp 73)]⟩, ⟨(some 75), none, none, .app 26 4 56 (.tmp 69) (.tmp 74)⟩, ⟨(some 76), none, none, .fldA 3 (.tmp 7)⟩, ⟨none, none, (some 7), .st 1 (.tmp 76) (.tmp 75)⟩]), ([2292, 2293, 2294, 2295, 75], [⟨(some 68), none, none, .fldA 3 (.tmp 7)⟩, ⟨(some 69), none, (some 7), .ld false 1 (.tmp 68)⟩, ⟨(some 70), none, none, .mov (.tmp 0)⟩, ⟨(some 71), none, none, .mov (.tmp 1)⟩, ⟨(some 72), none, none, .bin .sub 3 (.tmp 71) (.val (.int .i64 1))⟩, ⟨(some 73), none, (some 1000), .call 57 1 [(.tmp 70), (.tmp 72)]⟩, ⟨(some 74), none, none, .bsl 4 [(.tmp 73)]⟩, ⟨(some 75), none, none, .appN 26 4 56 (.tmp 69) (.tmp 74)⟩, ⟨(some 76), none, none, .fldA 3 (.tmp 7)⟩, ⟨none, none, (some 7), .st 1 (.tmp 76) (.tmp 75)⟩])] [65, 68, 69, 70, 71, 72, 73, 74, 75, 76]
abbrev c___morainelaw05_Maker__tree_19 : SCode := .reg [([], [⟨(some 66), none, none, .mov (.tmp 8)⟩, ⟨(some 67), none, none, .bin .add 3 (.tmp 66) (.val (.int .i64 1))⟩, ⟨(some 8), none, none, .mov (.tmp 67)⟩])] [66, 67]
abbrev c___morainelaw05_Maker__tree_20 : SCode := (.seq (.seq c___morainelaw05_Maker__tree_17 (.cond (.tmp 65) .skip (.exit 1))) (.seq (.block 2 c___morainelaw05_Maker__tree_18) c___morainelaw05_Maker__tree_19))
abbrev c___morainelaw05_Maker__tree_21 : SCode := .reg [([], [⟨(some 77), none, none, .ld true 4 (.tmp 7)⟩, ⟨none, none, none, .st 4 (.tmp 4) (.tmp 77)⟩])] [0, 1, 6, 7, 8, 77]
abbrev c___morainelaw05_Maker__tree_22 : SCode := .reg [([2320, 2321, 2322, 2323], [⟨(some 78), none, none, .bsl 1 [(.val (.string ⟨#[61]⟩)), (.val (.string ⟨#[60, 62]⟩)), (.val (.string ⟨#[60]⟩)), (.val (.string ⟨#[60, 61]⟩)), (.val (.string ⟨#[62]⟩)), (.val (.string ⟨#[62, 61]⟩)), (.val (.string ⟨#[38]⟩)), (.val (.string ⟨#[43]⟩)), (.val (.string ⟨#[45]⟩)), (.val (.string ⟨#[42]⟩)), (.val (.string ⟨#[47]⟩)), (.val (.string ⟨#[37]⟩)), (.val (.string ⟨#[43]⟩))]⟩, ⟨(some 79), none, none, .mov (.tmp 0)⟩, ⟨(some 80), none, none, .call 99 1 [(.tmp 79)]⟩, ⟨(some 81), none, none, .bin .rem 3 (.tmp 80) (.val (.int .i64 13))⟩, ⟨(some 82), none, none, .idxA 1 (.tmp 78) (.tmp 81)⟩, ⟨(some 83), none, none, .ld false 1 (.tmp 82)⟩, ⟨(some 9), none, none, .mov (.tmp 83)⟩])] [52, 78, 79, 80, 81, 82, 83]
abbrev c___morainelaw05_Maker__tree_23 : SCode := .reg [([2352, 2353, 2354, 2355, 2368, 2369, 2370, 2371], [⟨(some 84), none, none, .mov (.tmp 9)⟩, ⟨(some 85), none, none, .mov (.tmp 0)⟩, ⟨(some 86), none, none, .mov (.tmp 1)⟩, ⟨(some 87), none, none, .bin .sub 3 (.tmp 86) (.val (.int .i64 1))⟩, ⟨(some 88), none, none, .call 57 1 [(.tmp 85), (.tmp 87)]⟩, ⟨(some 89), none, none, .mov (.tmp 0)⟩, ⟨(some 90), none, none, .mov (.tmp 1)⟩, ⟨(some 91), none, none, .bin .sub 3 (.tmp 90) (.val (.int .i64 1))⟩, ⟨(some 92), none, none, .call 57 1 [(.tmp 89), (.tmp 91)]⟩, ⟨(some 93), none, none, .bsl 4 [(.tmp 88), (.tmp 92)]⟩, ⟨(some 94), none, none, .build [(.int .i64 0), (.int .i64 0), (.string ⟨#[]⟩), (.slice none 0 0)] [(0, 1, (.val (.int .i64 4))), (2, 1, (.tmp 84)), (3, 1, (.tmp 93))]⟩, ⟨none, none, none, .st 4 (.tmp 4) (.tmp 94)⟩])] [0, 1, 9, 84, 85, 86, 87, 88, 89, 90, 91, 92, 93, 94]
abbrev F___morainelaw05_Maker__tree : SFunc := ⟨95, (.seq c___morainelaw05_Maker__tree_0 (.seq c___morainelaw05_Maker__tree_1 (.seq (.seq c___morainelaw05_Maker__tree_2 (.cond (.tmp 13) c___morainelaw05_Maker__tree_3 .skip)) (.seq (.seq c___morainelaw05_Maker__tree_4 (.block 0 (.seq c___morainelaw05_Maker__tree_5 (.cond (.tmp 18) (.seq c___morainelaw05_Maker__tree_6 .ret) (.seq c___morainelaw05_Maker__tree_7 (.cond (.tmp 23) (.seq c___morainelaw05_Maker__tree_8 .ret) (.seq c___morainelaw05_Maker__tree_9 (.cond (.tmp 35) (.seq c___morainelaw05_Maker__tree_10 .ret) (.seq c___morainelaw05_Maker__tree_11 (.cond (.tmp 44) (.seq c___morainelaw05_Maker__tree_12 .ret) (.seq c___morainelaw05_Maker__tree_13 (.cond (.tmp 52) (.seq c___morainelaw05_Maker__tree_14 (.seq c___morainelaw05_Maker__tree_15 (.seq (.seq c___morainelaw05_Maker__tree_16 (.block 1 (.loop c___morainelaw05_Maker__tree_20))) (.seq c___morainelaw05_Maker__tree_21 .ret)))) .skip)))))))))))) (.seq c___morainelaw05_Maker__tree_22 (.seq c___morainelaw05_Maker__tree_23 .ret)))))), [.cell true 4 4], false⟩
theorem tf___morainelaw05_Maker__tree : transFunc Go.Proofs.Tryz.prog 57 (hintT [(11, 1), (21, 1), (26, 1), (27, 0), (29, 1), (37, 0), (39, 1), (49, 1), (50, 0), (54, 0), (56, 1), (64, 0), (73, 1), (74, 0), (78, 0), (80, 1), (88, 1), (92, 1), (93, 0)]) (fpT [(19, [[(1, 7), (9, 7), (5, 1000)]])]) (killT [(1, [10, 11]), (2, [12]), (3, [13, 14, 15]), (4, [5, 13, 16]), (5, [19]), (6, [0, 1, 17, 18, 20, 21, 22]), (7, [18, 24]), (8, [0, 1, 17, 23, 25, 26, 27, 28, 29, 30, 31, 32, 33, 34]), (9, [23, 36]), (10, [0, 1, 17, 35, 37, 38, 39, 40, 41, 42, 43]), (11, [35, 45]), (12, [0, 1, 17, 44, 46, 47, 48, 49, 50, 51]), (13, [17, 44, 53]), (14, [52, 54, 55, 56, 57, 58, 59]), (15, [60, 61]), (17, [62, 63, 64]), (19, [65, 68, 69, 70, 71, 72, 73, 74, 75, 76]), (18, [66, 67]), (20, [0, 1, 6, 7, 8, 77]), (21, [52, 78, 79, 80, 81, 82, 83]), (22, [0, 1, 9, 84, 85, 86, 87, 88, 89, 90, 91, 92, 93, 94])]) false = some F___morainelaw05_Maker__tree := by kernel_rfl
abbrev c_moraineref05_Right_0 : SCode := .reg [([1], [⟨(some 1), none, none, .box (.tmp 0)⟩, ⟨(some 2), none, none, .mov (.val (.bool false))⟩])] [0, 2]
abbrev c_moraineref05_Right_1 : SCode := .reg [([2016, 2017, 2018, 2019], [⟨(some 3), none, none, .ld true 4 (.tmp 1)⟩, ⟨(some 4), none, none, .call 102 0 [(.tmp 3), (.val (.int .i64 8)), (.val (.int .i64 40))]⟩, ⟨(some 5), none, none, .bin .geq 3 (.tmp 4) (.val (.int .i64 0))⟩, ⟨(some 2), none, none, .mov (.tmp 5)⟩])] [1, 3, 4, 5]
abbrev F_moraineref05_Right : SFunc := ⟨6, (.seq c_moraineref05_Right_0 (.seq c_moraineref05_Right_1 .ret)), [.tmp 2], false⟩
theorem tf_moraineref05_Right : transFunc Go.Proofs.Tryz.prog 58 (hintT [(4, 0)]) (fpT []) (killT [(0, [0, 2]), (1, [1, 3, 4, 5])]) false = some F_moraineref05_Right := by kernel_rfl
abbrev c__expr_printer__text_0 : SCode := .reg [([2, 3], [⟨(some 2), none, none, .box (.tmp 0)⟩, ⟨(some 3), none, none, .box (.tmp 1)⟩, ⟨(some 4), none, none, .mov (.val (.string ⟨#[]⟩))⟩])] [0, 1, 4]
abbrev c__expr_printer__text_1 : SCode := .reg [([], [⟨(some 10), none, none, .fldA 0 (.tmp 3)⟩, ⟨(some 11), none, none, .ld false 1 (.tmp 10)⟩])] [10]
abbrev c__expr_printer__text_2 : SCode := .reg [([], [⟨(some 13), none, none, .bin .eql 3 (.tmp 11) (.val (.int .i64 1))⟩, ⟨(some 12), none, none, .mov (.tmp 13)⟩])] [13]
abbrev c__expr_printer__text_3 : SCode := .reg [([2064, 2065, 2066, 2067], [⟨(some 14), none, none, .fldA 1 (.tmp 3)⟩, ⟨(some 15), none, none, .ld false 1 (.tmp 14)⟩, ⟨(some 16), none, none, .call 103 0 [(.tmp 15)]⟩, ⟨(some 4), none, none, .mov (.tmp 16)⟩])] [2, 3, 11, 12, 14, 15, 16]
abbrev c__expr_printer__text_4 : SCode := .reg [([], [⟨(some 18), none, none, .bin .eql 3 (.tmp 11) (.val (.int .i64 2))⟩, ⟨(some 17), none, none, .mov (.tmp 18)⟩])] [12, 18]
abbrev c__expr_printer__text_5 : SCode := .reg [([2084, 2085, 2086, 2087], [⟨(some 19), none, none, .fldA 2 (.tmp 3)⟩, ⟨(some 20), none, none, .ld false 1 (.tmp 19)⟩, ⟨(some 21), none, none, .call 104 0 [(.tmp 20), (.val (.string ⟨#[92]⟩)), (.val (.string ⟨#[92, 92]⟩))]⟩, ⟨(some 5), none, none, .mov (.tmp 21)⟩])] [2, 3, 11, 17, 19, 20, 21]
abbrev c__expr_printer__text_6 : SCode := .reg [([2092, 2093, 2094, 2095], [⟨(some 22), none, none, .mov (.tmp 5)⟩, ⟨(some 23), none, none, .call 104 0 [(.tmp 22), (.val (.string ⟨#[34]⟩)), (.val (.string ⟨#[92, 34]⟩))]⟩, ⟨(some 24), none, none, .bin .add 9 (.val (.string ⟨#[34]⟩)) (.tmp 23)⟩, ⟨(some 25), none, none, .bin .add 9 (.tmp 24) (.val (.string ⟨#[34]⟩))⟩, ⟨(some 4), none, none, .mov (.tmp 25)⟩])] [5, 22, 23, 24, 25]
abbrev c__expr_printer__text_7 : SCode := .reg [([], [⟨(some 27), none, none, .bin .eql 3 (.tmp 11) (.val (.int .i64 5))⟩, ⟨(some 26), none, none, .mov (.tmp 27)⟩])] [17, 27]
abbrev c__expr_printer__text_8 : SCode := .reg [([2132, 2133, 2134, 2135], [⟨(some 28), none, none, .ld true 1 (.tmp 2)⟩, ⟨(some 29), none, none, .fldA 3 (.tmp 3)⟩, ⟨(some 30), none, none, .ld false 1 (.tmp 29)⟩, ⟨(some 31), none, none, .idxA 4 (.tmp 30) (.val (.int .i64 0))⟩, ⟨(some 32), none, none, .ld true 4 (.tmp 31)⟩, ⟨(some 33), none, none, .call 105 0 [(.tmp 28), (.tmp 32), (.val (.int .i64 5))]⟩, ⟨(some 34), none, none, .bin .add 9 (.val (.string ⟨#[45]⟩)) (.tmp 33)⟩, ⟨(some 4), none, none, .mov (.tmp 34)⟩])] [2, 3, 11, 26, 28, 29, 30, 31, 32, 33, 34]
abbrev c__expr_printer__text_9 : SCode := .reg [([], [⟨(some 36), none, none, .bin .eql 3 (.tmp 11) (.val (.int .i64 4))⟩, ⟨(some 35), none, none, .mov (.tmp 36)⟩])] [26, 36]
abbrev c__expr_printer__text_10 : SCode := .reg [([], [⟨(some 37), none, none, .fldA 0 (.tmp 2)⟩, ⟨(some 38), none, none, .ld false 1 (.tmp 37)⟩, ⟨(some 39), none, none, .fldA 2 (.tmp 3)⟩, ⟨(some 40), none, none, .ld false 1 (.tmp 39)⟩, ⟨(some 41), none, none, .lkp true (.int .i64 0) (.tmp 38) (.tmp 40)⟩, ⟨(some 6), none, none, .mov (.tmp 41)⟩])] [11, 35, 37, 38, 39, 40, 41]
abbrev c__expr_printer__text_11 : SCode := .reg [([2192, 2193, 2194, 2195, 2244, 2245, 2246, 2247], [⟨(some 42), none, none, .ld true 1 (.tmp 2)⟩, ⟨(some 43), none, none, .fldA 3 (.tmp 3)⟩, ⟨(some 44), none, none, .ld false 1 (.tmp 43)⟩, ⟨(some 45), none, none, .idxA 4 (.tmp 44) (.val (.int .i64 0))⟩, ⟨(some 46), none, none, .ld true 4 (.tmp 45)⟩, ⟨(some 47), none, none, .mov (.tmp 6)⟩, ⟨(some 48), none, none, .call 105 0 [(.tmp 42), (.tmp 46), (.tmp 47)]⟩, ⟨(some 49), none, none, .bin .add 9 (.tmp 48) (.val (.string ⟨#[32]⟩))⟩, ⟨(some 50), none, none, .fldA 2 (.tmp 3)⟩, ⟨(some 51), none, none, .ld false 1 (.tmp 50)⟩, ⟨(some 52), none, none, .bin .add 9 (.tmp 49) (.tmp 51)⟩, ⟨(some 53), none, none, .bin .add 9 (.tmp 52) (.val (.string ⟨#[32]⟩))⟩, ⟨(some 54), none, none, .ld true 1 (.tmp 2)⟩, ⟨(some 55), none, none, .fldA 3 (.tmp 3)⟩, ⟨(some 56), none, none, .ld false 1 (.tmp 55)⟩, ⟨(some 57), none, none, .idxA 4 (.tmp 56) (.val (.int .i64 1))⟩, ⟨(some 58), none, none, .ld true 4 (.tmp 57)⟩, ⟨(some 59), none, none, .mov (.tmp 6)⟩, ⟨(some 60), none, none, .bin .add 3 (.tmp 59) (.val (.int .i64 1))⟩, ⟨(some 61), none, none, .call 105 0 [(.tmp 54), (.tmp 58), (.tmp 60)]⟩, ⟨(some 62), none, none, .bin .add 9 (.tmp 53) (.tmp 61)⟩, ⟨(some 4), none, none, .mov (.tmp 62)⟩])] [2, 3, 6, 42, 43, 44, 45, 46, 47, 48, 49, 50, 51, 52, 53, 54, 55, 56, 57, 58, 59, 60, 61, 62]
abbrev c__expr_printer__text_12 : SCode := .reg [([], [⟨(some 64), none, none, .bin .eql 3 (.tmp 11) (.val (.int .i64 6))⟩, ⟨(some 63), none, none, .mov (.tmp 64)⟩])] [11, 35, 64]
abbrev c__expr_printer__text_13 : SCode := .reg [([68], [⟨(some 65), none, none, .fldA 3 (.tmp 3)⟩, ⟨(some 66), none, none, .ld false 1 (.tmp 65)⟩, ⟨(some 67), none, none, .len (.tmp 66)⟩, ⟨(some 68), none, none, .mks 16 [(.string ⟨#[]⟩)] (.tmp 67)⟩, ⟨(some 7), none, none, .mov (.tmp 68)⟩])] [63, 65, 66, 67, 68]
abbrev c__expr_printer__text_14 : SCode := .reg [([], [⟨(some 69), none, none, .fldA 3 (.tmp 3)⟩, ⟨(some 70), none, none, .ld false 1 (.tmp 69)⟩, ⟨(some 71), none, none, .len (.tmp 70)⟩, ⟨(some 72), none, none, .mov (.val (.int .i64 0))⟩])] [69]
abbrev c__expr_printer__text_15 : SCode := .reg [([], [⟨(some 73), none, none, .bin .lss 3 (.tmp 72) (.tmp 71)⟩])] []
abbrev c__expr_printer__text_16 : SCode := .reg [([9], [⟨(some 74), none, none, .mov (.tmp 72)⟩, ⟨(some 75), none, none, .idxA 4 (.tmp 70) (.tmp 72)⟩, ⟨(some 76), none, none, .ld true 4 (.tmp 75)⟩, ⟨(some 9), none, none, .new [(.int .i64 0), (.int .i64 0), (.string ⟨#[]⟩), (.slice none 0 0)]⟩, ⟨(some 8), none, none, .mov (.tmp 74)⟩, ⟨none, none, none, .st 4 (.tmp 9) (.tmp 76)⟩])] [73, 74, 75, 76]
abbrev c__expr_printer__text_17 : SCode := .reg [([2324, 2325, 2326, 2327], [⟨(some 77), none, none, .mov (.tmp 7)⟩, ⟨(some 78), none, none, .mov (.tmp 8)⟩, ⟨(some 79), none, none, .ld true 1 (.tmp 2)⟩, ⟨(some 80), none, none, .ld true 4 (.tmp 9)⟩, ⟨(some 81), none, none, .call 60 0 [(.tmp 79), (.tmp 80)]⟩, ⟨(some 82), none, none, .idxA 1 (.tmp 77) (.tmp 78)⟩, ⟨none, none, none, .st 1 (.tmp 82) (.tmp 81)⟩])] [8, 9, 77, 78, 79, 80, 81, 82]
abbrev c__expr_printer__text_18 : SCode := .reg [([], [⟨(some 83), none, none, .bin .add 3 (.tmp 72) (.val (.int .i64 1))⟩, ⟨(some 72), none, none, .mov (.tmp 83)⟩])] [83]
abbrev c__expr_printer__text_19 : SCode := (.seq c__expr_printer__text_15 (.seq (.cond (.tmp 73) .skip (.exit 1)) (.seq (.block 2 (.seq c__expr_printer__text_16 c__expr_printer__text_17)) c__expr_printer__text_18)))
abbrev c__expr_printer__text_20 : SCode := .reg [([2352, 2353, 2354, 2355], [⟨(some 84), none, none, .fldA 2 (.tmp 3)⟩, ⟨(some 85), none, (some 3), .ld false 1 (.tmp 84)⟩, ⟨(some 86), none, none, .bin .add 9 (.tmp 85) (.val (.string ⟨#[40]⟩))⟩, ⟨(some 87), none, none, .mov (.tmp 7)⟩, ⟨(some 88), none, (some 68), .call 106 1 [(.tmp 87), (.val (.string ⟨#[44, 32]⟩))]⟩, ⟨(some 89), none, none, .bin .add 9 (.tmp 86) (.tmp 88)⟩, ⟨(some 90), none, none, .bin .add 9 (.tmp 89) (.val (.string ⟨#[41]⟩))⟩, ⟨(some 4), none, none, .mov (.tmp 90)⟩])] [2, 3, 7, 70, 71, 72, 84, 85, 86, 87, 88, 89, 90]
abbrev c__expr_printer__text_21 : SCode := .reg [([], [⟨(some 91), none, none, .fldA 2 (.tmp 3)⟩, ⟨(some 92), none, none, .ld false 1 (.tmp 91)⟩, ⟨(some 4), none, none, .mov (.tmp 92)⟩])] [2, 3, 63, 91, 92]
abbrev F__expr_printer__text : SFunc := ⟨93, (.seq c__expr_printer__text_0 (.seq (.seq c__expr_printer__text_1 (.block 0 (.seq c__expr_printer__text_2 (.cond (.tmp 12) (.seq c__expr_printer__text_3 .ret) (.seq c__expr_printer__text_4 (.cond (.tmp 17) (.seq c__expr_printer__text_5 (.seq c__expr_printer__text_6 .ret)) (.seq c__expr_printer__text_7 (.cond (.tmp 26) (.seq c__expr_printer__text_8 .ret) (.seq c__expr_printer__text_9 (.cond (.tmp 35) (.seq c__expr_printer__text_10 (.seq c__expr_printer__text_11 .ret)) (.seq c__expr_printer__text_12 (.cond (.tmp 63) (.seq c__expr_printer__text_13 (.seq (.seq c__expr_printer__text_14 (.block 1 (.loop c__expr_printer__text_19))) (.seq c__expr_printer__text_20 .ret))) .skip)))))))))))) (.seq c__expr_printer__text_21 .ret))), [.tmp 4], false⟩
theorem tf__expr_printer__text : transFunc Go.Proofs.Tryz.prog 60 (hintT [(16, 0), (21, 0), (23, 0), (33, 0), (48, 0), (61, 0), (81, 0), (88, 1)]) (fpT [(19, [[(1, 3), (4, 68)]])]) (killT [(0, [0, 1, 4]), (1, [10]), (2, [13]), (3, [2, 3, 11, 12, 14, 15, 16]), (4, [12, 18]), (5, [2, 3, 11, 17, 19, 20, 21]), (6, [5, 22, 23, 24, 25]), (7, [17, 27]), (8, [2, 3, 11, 26, 28, 29, 30, 31, 32, 33, 34]), (9, [26, 36]), (10, [11, 35, 37, 38, 39, 40, 41]), (11, [2, 3, 6, 42, 43, 44, 45, 46, 47, 48, 49, 50, 51, 52, 53, 54, 55, 56, 57, 58, 59, 60, 61, 62]), (12, [11, 35, 64]), (13, [63, 65, 66, 67, 68]), (14, [69]), (16, [73, 74, 75, 76]), (17, [8, 9, 77, 78, 79, 80, 81, 82]), (18, [83]), (19, [2, 3, 7, 70, 71, 72, 84, 85, 86, 87, 88, 89, 90]), (20, [2, 3, 63, 91, 92])]) false = some F__expr_printer__text := by kernel_rfl
abbrev c_expr_pieces_0 : SCode := .reg [([1], [⟨(some 1), none, none, .box (.tmp 0)⟩, ⟨(some 2), none, none, .mov (.val .nilFunc)⟩])] [0, 2]
abbrev c_expr_pieces_1 : SCode := .reg [([], [⟨(some 3), none, none, .mkf (.func 107) [] [(.tmp 1)]⟩, ⟨(some 2), none, none, .mov (.tmp 3)⟩])] [1, 3]
abbrev F_expr_pieces : SFunc := ⟨4, (.seq c_expr_pieces_0 (.seq c_expr_pieces_1 .ret)), [.tmp 2], false⟩
theorem tf_expr_pieces : transFunc Go.Proofs.Tryz.prog 61 (hintT []) (fpT []) (killT [(0, [0, 2]), (1, [1, 3])]) false = some F_expr_pieces := by kernel_rfl
abbrev c___expr_checker__right_0 : SCode := .reg [([4], [⟨(some 4), none, none, .box (.tmp 1)⟩, ⟨(some 6), none, none, .mov (.val (.bool false))⟩])] [1, 6]
abbrev c___expr_checker__right_1 : SCode := .reg [([], [⟨(some 9), none, none, .mov (.tmp 0)⟩, ⟨(some 10), none, none, .nchk (.tmp 9)⟩, ⟨(some 11), none, none, .fldA 1 (.tmp 10)⟩, ⟨(some 12), none, none, .ld false 1 (.tmp 11)⟩, ⟨(some 13), none, none, .bin .add 3 (.tmp 12) (.val (.int .i64 1))⟩, ⟨(some 14), none, none, .nchk (.tmp 9)⟩, ⟨(some 15), none, none, .fldA 1 (.tmp 14)⟩, ⟨none, none, none, .st 1 (.tmp 15) (.tmp 13)⟩])] [9, 10, 11, 12, 13, 14, 15]
abbrev c___expr_checker__right_2 : SCode := .reg [([2112, 2113, 2114, 2115], [⟨(some 16), none, none, .mov (.tmp 2)⟩, ⟨(some 17), none, none, .bin .gtr 3 (.tmp 16) (.val (.int .i64 8))⟩, ⟨(some 18), none, none, .mov (.tmp 17)⟩, ⟨(some 19), (some (18, false)), none, .mov (.tmp 0)⟩, ⟨(some 20), (some (18, false)), none, .nchk (.tmp 19)⟩, ⟨(some 21), (some (18, false)), none, .fldA 1 (.tmp 20)⟩, ⟨(some 22), (some (18, false)), none, .ld false 1 (.tmp 21)⟩, ⟨(some 23), (some (18, false)), none, .bin .gtr 3 (.tmp 22) (.val (.int .i64 40))⟩, ⟨(some 24), none, none, .pick (.tmp 18) (.val (.bool true)) (.tmp 23)⟩, ⟨(some 25), none, none, .mov (.tmp 24)⟩, ⟨(some 26), (some (25, false)), none, .mov (.tmp 0)⟩, ⟨(some 27), (some (25, false)), none, .ld true 4 (.tmp 4)⟩, ⟨(some 28), (some (25, false)), none, .call 112 1 [(.tmp 26), (.tmp 27)]⟩, ⟨(some 29), (some (25, false)), none, .un .not (.tmp 28)⟩, ⟨(some 30), none, none, .pick (.tmp 25) (.val (.bool true)) (.tmp 29)⟩])] [16, 17, 18, 19, 20, 21, 22, 23, 24, 25, 26, 27, 28, 29]
abbrev c___expr_checker__right_3 : SCode := .reg [([], [⟨(some 6), none, none, .mov (.val (.bool false))⟩])] [0, 2, 4, 30]
abbrev c___expr_checker__right_4 : SCode := .reg [([], [⟨(some 31), none, none, .fldA 3 (.tmp 4)⟩, ⟨(some 32), none, none, .ld false 1 (.tmp 31)⟩, ⟨(some 33), none, none, .len (.tmp 32)⟩, ⟨(some 34), none, none, .mov (.val (.int .i64 0))⟩])] [4, 6, 30, 31]
abbrev c___expr_checker__right_5 : SCode := .reg [([], [⟨(some 35), none, none, .bin .lss 3 (.tmp 34) (.tmp 33)⟩])] []
abbrev c___expr_checker__right_6 : SCode := .reg [([8], [⟨(some 36), none, none, .idxA 4 (.tmp 32) (.tmp 34)⟩, ⟨(some 37), none, none, .ld true 4 (.tmp 36)⟩, ⟨(some 8), none, none, .new [(.int .i64 0), (.int .i64 0), (.string ⟨#[]⟩), (.slice none 0 0)]⟩, ⟨none, none, none, .st 4 (.tmp 8) (.tmp 37)⟩])] [35, 36, 37]
abbrev c___expr_checker__right_7 : SCode := .reg [([2168, 2169, 2170, 2171], [⟨(some 38), none, none, .mov (.tmp 0)⟩, ⟨(some 39), none, none, .ld true 4 (.tmp 8)⟩, ⟨(some 40), none, none, .mov (.tmp 2)⟩, ⟨(some 41), none, none, .bin .add 3 (.tmp 40) (.val (.int .i64 1))⟩, ⟨(some 42), none, none, .call 63 1 [(.tmp 38), (.tmp 39), (.tmp 41)]⟩, ⟨(some 43), none, none, .un .not (.tmp 42)⟩])] [8, 38, 39, 40, 41, 42]
abbrev c___expr_checker__right_8 : SCode := .reg [([], [⟨(some 6), none, none, .mov (.val (.bool false))⟩])] [0, 2, 32, 33, 34, 43]
abbrev c___expr_checker__right_9 : SCode := .reg [([], [⟨(some 44), none, none, .bin .add 3 (.tmp 34) (.val (.int .i64 1))⟩, ⟨(some 34), none, none, .mov (.tmp 44)⟩])] [6, 43, 44]
abbrev c___expr_checker__right_10 : SCode := (.seq c___expr_checker__right_5 (.seq (.cond (.tmp 35) .skip (.exit 0)) (.seq (.block 1 (.seq c___expr_checker__right_6 (.seq c___expr_checker__right_7 (.cond (.tmp 43) (.seq c___expr_checker__right_8 .ret) .skip)))) c___expr_checker__right_9)))
abbrev c___expr_checker__right_11 : SCode := .reg [([], [⟨(some 6), none, none, .mov (.val (.bool true))⟩])] [0, 2, 32, 33, 34]
abbrev F___expr_checker__right : SFunc := ⟨45, (.seq c___expr_checker__right_0 (.seq c___expr_checker__right_1 (.seq (.seq c___expr_checker__right_2 (.cond (.tmp 30) (.seq c___expr_checker__right_3 .ret) .skip)) (.seq (.seq c___expr_checker__right_4 (.block 0 (.loop c___expr_checker__right_10))) (.seq c___expr_checker__right_11 .ret))))), [.tmp 6], false⟩
theorem tf___expr_checker__right : transFunc Go.Proofs.Tryz.prog 63 (hintT [(28, 1), (42, 1)]) (fpT []) (killT [(0, [1, 6]), (1, [9, 10, 11, 12, 13, 14, 15]), (2, [16, 17, 18, 19, 20, 21, 22, 23, 24, 25, 26, 27, 28, 29]), (3, [0, 2, 4, 30]), (4, [4, 6, 30, 31]), (6, [35, 36, 37]), (7, [8, 38, 39, 40, 41, 42]), (8, [0, 2, 32, 33, 34, 43]), (9, [6, 43, 44]), (10, [0, 2, 32, 33, 34])]) false = some F___expr_checker__right := by kernel_rfl
abbrev c_slices_EqualFunc___api_Expr___api_Expr_api_Expr_api_Expr__0 : SCode := .reg [([], [⟨(some 6), none, none, .mov (.val (.bool false))⟩])] [6]
abbrev c_slices_EqualFunc___api_Expr___api_Expr_api_Expr_api_Expr__1 : SCode := .reg [([], [⟨(some 10), none, none, .mov (.tmp 0)⟩, ⟨(some 11), none, none, .len (.tmp 10)⟩, ⟨(some 12), none, none, .mov (.tmp 1)⟩, ⟨(some 13), none, none, .len (.tmp 12)⟩, ⟨(some 14), none, none, .bin .neq 3 (.tmp 11) (.tmp 13)⟩])] [10, 11, 12, 13]
abbrev c_slices_EqualFunc___api_Expr___api_Expr_api_Expr_api_Expr__2 : SCode := .reg [([], [⟨(some 6), none, none, .mov (.val (.bool false))⟩])] [0, 1, 2, 14]
abbrev c_slices_EqualFunc___api_Expr___api_Expr_api_Expr_api_Expr__3 : SCode := .reg [([], [⟨(some 15), none, none, .mov (.tmp 0)⟩, ⟨(some 16), none, none, .len (.tmp 15)⟩, ⟨(some 17), none, none, .mov (.val (.int .i64 0))⟩])] [0, 6, 14]
abbrev c_slices_EqualFunc___api_Expr___api_Expr_api_Expr_api_Expr__4 : SCode := .reg [([], [⟨(some 18), none, none, .bin .lss 3 (.tmp 17) (.tmp 16)⟩])] []
abbrev c_slices_EqualFunc___api_Expr___api_Expr_api_Expr_api_Expr__5 : SCode := .reg [([8], [⟨(some 19), none, none, .mov (.tmp 17)⟩, ⟨(some 20), none, none, .idxA 4 (.tmp 15) (.tmp 17)⟩, ⟨(some 21), none, none, .ld true 4 (.tmp 20)⟩, ⟨(some 8), none, none, .new [(.int .i64 0), (.int .i64 0), (.string ⟨#[]⟩), (.slice none 0 0)]⟩, ⟨(some 7), none, none, .mov (.tmp 19)⟩, ⟨none, none, none, .st 4 (.tmp 8) (.tmp 21)⟩])] [18, 19, 20, 21]
abbrev c_slices_EqualFunc___api_Expr___api_Expr_api_Expr_api_Expr__6 : SCode := .reg [([9], [⟨(some 22), none, none, .mov (.tmp 1)⟩, ⟨(some 23), none, none, .mov (.tmp 7)⟩, ⟨(some 24), none, none, .idxA 4 (.tmp 22) (.tmp 23)⟩, ⟨(some 25), none, none, .ld true 4 (.tmp 24)⟩, ⟨(some 9), none, none, .new [(.int .i64 0), (.int .i64 0), (.string ⟨#[]⟩), (.slice none 0 0)]⟩, ⟨none, none, none, .st 4 (.tmp 9) (.tmp 25)⟩])] [7, 22, 23, 24, 25]
abbrev c_slices_EqualFunc___api_Expr___api_Expr_api_Expr_api_Expr__7 : SCode := .reg [([2116, 2117, 2118, 2119], [⟨(some 26), none, none, .mov (.tmp 2)⟩, ⟨(some 27), none, none, .ld true 4 (.tmp 8)⟩, ⟨(some 28), none, none, .ld true 4 (.tmp 9)⟩, ⟨(some 29), none, none, .callv (.tmp 26) 1 [(.tmp 27), (.tmp 28)]⟩, ⟨(some 30), none, none, .un .not (.tmp 29)⟩])] [8, 9, 26, 27, 28, 29]
abbrev c_slices_EqualFunc___api_Expr___api_Expr_api_Expr_api_Expr__8 : SCode := .reg [([], [⟨(some 6), none, none, .mov (.val (.bool false))⟩])] [1, 2, 15, 16, 17, 30]
abbrev c_slices_EqualFunc___api_Expr___api_Expr_api_Expr_api_Expr__9 : SCode := .reg [([], [⟨(some 31), none, none, .bin .add 3 (.tmp 17) (.val (.int .i64 1))⟩, ⟨(some 17), none, none, .mov (.tmp 31)⟩])] [6, 30, 31]
abbrev c_slices_EqualFunc___api_Expr___api_Expr_api_Expr_api_Expr__10 : SCode := (.seq c_slices_EqualFunc___api_Expr___api_Expr_api_Expr_api_Expr__4 (.seq (.cond (.tmp 18) .skip (.exit 0)) (.seq (.block 1 (.seq c_slices_EqualFunc___api_Expr___api_Expr_api_Expr_api_Expr__5 (.seq c_slices_EqualFunc___api_Expr___api_Expr_api_Expr_api_Expr__6 (.seq c_slices_EqualFunc___api_Expr___api_Expr_api_Expr_api_Expr__7 (.cond (.tmp 30) (.seq c_slices_EqualFunc___api_Expr___api_Expr_api_Expr_api_Expr__8 .ret) .skip))))) c_slices_EqualFunc___api_Expr___api_Expr_api_Expr_api_Expr__9)))
abbrev c_slices_EqualFunc___api_Expr___api_Expr_api_Expr_api_Expr__11 : SCode := .reg [([], [⟨(some 6), none, none, .mov (.val (.bool true))⟩])] [1, 2, 15, 16, 17]
abbrev F_slices_EqualFunc___api_Expr___api_Expr_api_Expr_api_Expr_ : SFunc := ⟨32, (.seq c_slices_EqualFunc___api_Expr___api_Expr_api_Expr_api_Expr__0 (.seq (.seq c_slices_EqualFunc___api_Expr___api_Expr_api_Expr_api_Expr__1 (.cond (.tmp 14) (.seq c_slices_EqualFunc___api_Expr___api_Expr_api_Expr_api_Expr__2 .ret) .skip)) (.seq (.seq c_slices_EqualFunc___api_Expr___api_Expr_api_Expr_api_Expr__3 (.block 0 (.loop c_slices_EqualFunc___api_Expr___api_Expr_api_Expr_api_Expr__10))) (.seq c_slices_EqualFunc___api_Expr___api_Expr_api_Expr_api_Expr__11 .ret)))), [.tmp 6], false⟩
theorem tf_slices_EqualFunc___api_Expr___api_Expr_api_Expr_api_Expr_ : transFunc Go.Proofs.Tryz.prog 64 (hintT [(29, 1)]) (fpT []) (killT [(0, [6]), (1, [10, 11, 12, 13]), (2, [0, 1, 2, 14]), (3, [0, 6, 14]), (5, [18, 19, 20, 21]), (6, [7, 22, 23, 24, 25]), (7, [8, 9, 26, 27, 28, 29]), (8, [1, 2, 15, 16, 17, 30]), (9, [6, 30, 31]), (10, [1, 2, 15, 16, 17])]) false = some F_slices_EqualFunc___api_Expr___api_Expr_api_Expr_api_Expr_ := by kernel_rfl
abbrev c___morainelaw05_Maker__byte_0 : SCode := .reg [([], [⟨(some 2), none, none, .mov (.val (.int .i64 0))⟩])] [2]
abbrev c___morainelaw05_Maker__byte_1 : SCode := .reg [([], [⟨(some 3), none, none, .mov (.tmp 0)⟩, ⟨(some 4), none, none, .nchk (.tmp 3)⟩, ⟨(some 5), none, none, .fldA 1 (.tmp 4)⟩, ⟨(some 6), none, none, .ld false 1 (.tmp 5)⟩, ⟨(some 7), none, none, .mov (.tmp 0)⟩, ⟨(some 8), none, none, .nchk (.tmp 7)⟩, ⟨(some 9), none, none, .fldA 0 (.tmp 8)⟩, ⟨(some 10), none, none, .ld false 1 (.tmp 9)⟩, ⟨(some 11), none, none, .len (.tmp 10)⟩, ⟨(some 12), none, none, .bin .geq 3 (.tmp 6) (.tmp 11)⟩])] [3, 4, 5, 6, 7, 8, 9, 10, 11]
abbrev c___morainelaw05_Maker__byte_2 : SCode := .reg [([], [⟨(some 2), none, none, .mov (.val (.int .i64 0))⟩])] [0, 12]
abbrev c___morainelaw05_Maker__byte_3 : SCode := .reg [([], [⟨(some 13), none, none, .mov (.tmp 0)⟩, ⟨(some 14), none, none, .nchk (.tmp 13)⟩, ⟨(some 15), none, none, .fldA 1 (.tmp 14)⟩, ⟨(some 16), none, none, .ld false 1 (.tmp 15)⟩, ⟨(some 17), none, none, .bin .add 3 (.tmp 16) (.val (.int .i64 1))⟩, ⟨(some 18), none, none, .nchk (.tmp 13)⟩, ⟨(some 19), none, none, .fldA 1 (.tmp 18)⟩, ⟨none, none, none, .st 1 (.tmp 19) (.tmp 17)⟩])] [2, 12, 13, 14, 15, 16, 17, 18, 19]
abbrev c___morainelaw05_Maker__byte_4 : SCode := .reg [([], [⟨(some 20), none, none, .mov (.tmp 0)⟩, ⟨(some 21), none, none, .nchk (.tmp 20)⟩, ⟨(some 22), none, none, .fldA 0 (.tmp 21)⟩, ⟨(some 23), none, none, .ld false 1 (.tmp 22)⟩, ⟨(some 24), none, none, .mov (.tmp 0)⟩, ⟨(some 25), none, none, .nchk (.tmp 24)⟩, ⟨(some 26), none, none, .fldA 1 (.tmp 25)⟩, ⟨(some 27), none, none, .ld false 1 (.tmp 26)⟩, ⟨(some 28), none, none, .bin .sub 3 (.tmp 27) (.val (.int .i64 1))⟩, ⟨(some 29), none, none, .idxA 1 (.tmp 23) (.tmp 28)⟩, ⟨(some 30), none, none, .ld false 1 (.tmp 29)⟩, ⟨(some 31), none, none, .cvi .i64 (.tmp 30)⟩, ⟨(some 2), none, none, .mov (.tmp 31)⟩])] [0, 20, 21, 22, 23, 24, 25, 26, 27, 28, 29, 30, 31]
abbrev F___morainelaw05_Maker__byte : SFunc := ⟨32, (.seq c___morainelaw05_Maker__byte_0 (.seq (.seq c___morainelaw05_Maker__byte_1 (.cond (.tmp 12) (.seq c___morainelaw05_Maker__byte_2 .ret) .skip)) (.seq c___morainelaw05_Maker__byte_3 (.seq c___morainelaw05_Maker__byte_4 .ret)))), [.tmp 2], false⟩
theorem tf___morainelaw05_Maker__byte : transFunc Go.Proofs.Tryz.prog 99 (hintT []) (fpT []) (killT [(0, [2]), (1, [3, 4, 5, 6, 7, 8, 9, 10, 11]), (2, [0, 12]), (3, [2, 12, 13, 14, 15, 16, 17, 18, 19]), (4, [0, 20, 21, 22, 23, 24, 25, 26, 27, 28, 29, 30, 31])]) false = some F___morainelaw05_Maker__byte := by kernel_rfl
abbrev c___morainelaw05_Maker__name_0 : SCode := .reg [([], [⟨(some 2), none, none, .mov (.val (.string ⟨#[]⟩))⟩])] [2]
abbrev c___morainelaw05_Maker__name_1 : SCode := .reg [([2020, 2021, 2022, 2023], [⟨(some 3), none, none, .bsl 1 [(.val (.string ⟨#[97]⟩)), (.val (.string ⟨#[98]⟩)), (.val (.string ⟨#[110]⟩)), (.val (.string ⟨#[108, 101, 110]⟩)), (.val (.string ⟨#[120, 95, 49]⟩)), (.val (.string ⟨#[115]⟩))]⟩, ⟨(some 4), none, none, .mov (.tmp 0)⟩, ⟨(some 5), none, none, .call 99 1 [(.tmp 4)]⟩, ⟨(some 6), none, none, .bin .rem 3 (.tmp 5) (.val (.int .i64 6))⟩, ⟨(some 7), none, none, .idxA 1 (.tmp 3) (.tmp 6)⟩, ⟨(some 8), none, none, .ld false 1 (.tmp 7)⟩, ⟨(some 2), none, none, .mov (.tmp 8)⟩])] [0, 3, 4, 5, 6, 7, 8]
abbrev F___morainelaw05_Maker__name : SFunc := ⟨9, (.seq c___morainelaw05_Maker__name_0 (.seq c___morainelaw05_Maker__name_1 .ret)), [.tmp 2], false⟩
theorem tf___morainelaw05_Maker__name : transFunc Go.Proofs.Tryz.prog 100 (hintT [(3, 0), (5, 1)]) (fpT []) (killT [(0, [2]), (1, [0, 3, 4, 5, 6, 7, 8])]) false = some F___morainelaw05_Maker__name := by kernel_rfl
abbrev c_moraineref05_Arity_0 : SCode := .reg [([], [⟨(some 2), none, none, .mov (.val (.int .i64 0))⟩])] [2]
abbrev c_moraineref05_Arity_1 : SCode := .reg [([], [⟨(some 3), none, none, .mov (.tmp 0)⟩])] [0]
abbrev c_moraineref05_Arity_2 : SCode := .reg [([], [⟨(some 5), none, none, .bin .eql 9 (.tmp 3) (.val (.string ⟨#[108, 101, 110]⟩))⟩, ⟨(some 4), none, none, .mov (.tmp 5)⟩])] [5]
abbrev c_moraineref05_Arity_3 : SCode := .reg [([], [⟨(some 6), none, none, .bin .eql 9 (.tmp 3) (.val (.string ⟨#[116, 101, 120, 116]⟩))⟩, ⟨(some 4), none, none, .mov (.tmp 6)⟩])] [6]
abbrev c_moraineref05_Arity_4 : SCode := .reg [([], [⟨(some 7), none, none, .bin .eql 9 (.tmp 3) (.val (.string ⟨#[110, 117, 109]⟩))⟩, ⟨(some 4), none, none, .mov (.tmp 7)⟩])] [7]
abbrev c_moraineref05_Arity_5 : SCode := .reg [([], [⟨(some 2), none, none, .mov (.val (.int .i64 1))⟩])] [3, 4]
abbrev c_moraineref05_Arity_6 : SCode := .reg [([], [⟨(some 9), none, none, .bin .eql 9 (.tmp 3) (.val (.string ⟨#[108, 101, 102, 116]⟩))⟩, ⟨(some 8), none, none, .mov (.tmp 9)⟩])] [4, 9]
abbrev c_moraineref05_Arity_7 : SCode := .reg [([], [⟨(some 10), none, none, .bin .eql 9 (.tmp 3) (.val (.string ⟨#[114, 105, 103, 104, 116]⟩))⟩, ⟨(some 8), none, none, .mov (.tmp 10)⟩])] [10]
abbrev c_moraineref05_Arity_8 : SCode := .reg [([], [⟨(some 11), none, none, .bin .eql 9 (.tmp 3) (.val (.string ⟨#[102, 114, 111, 109]⟩))⟩, ⟨(some 8), none, none, .mov (.tmp 11)⟩])] [11]
abbrev c_moraineref05_Arity_9 : SCode := .reg [([], [⟨(some 12), none, none, .bin .eql 9 (.tmp 3) (.val (.string ⟨#[102, 105, 110, 100]⟩))⟩, ⟨(some 8), none, none, .mov (.tmp 12)⟩])] [12]
abbrev c_moraineref05_Arity_10 : SCode := .reg [([], [⟨(some 13), none, none, .bin .eql 9 (.tmp 3) (.val (.string ⟨#[109, 105, 110]⟩))⟩, ⟨(some 8), none, none, .mov (.tmp 13)⟩])] [13]
abbrev c_moraineref05_Arity_11 : SCode := .reg [([], [⟨(some 14), none, none, .bin .eql 9 (.tmp 3) (.val (.string ⟨#[109, 97, 120]⟩))⟩, ⟨(some 8), none, none, .mov (.tmp 14)⟩])] [14]
abbrev c_moraineref05_Arity_12 : SCode := .reg [([], [⟨(some 2), none, none, .mov (.val (.int .i64 2))⟩])] [3, 8]
abbrev c_moraineref05_Arity_13 : SCode := .reg [([], [⟨(some 16), none, none, .bin .eql 9 (.tmp 3) (.val (.string ⟨#[105, 102]⟩))⟩, ⟨(some 15), none, none, .mov (.tmp 16)⟩])] [3, 8, 16]
abbrev c_moraineref05_Arity_14 : SCode := .reg [([], [⟨(some 2), none, none, .mov (.val (.int .i64 3))⟩])] [15]
abbrev c_moraineref05_Arity_15 : SCode := .reg [([], [⟨(some 2), none, none, .mov (.val (.int .i64 0))⟩])] [15]
abbrev F_moraineref05_Arity : SFunc := ⟨17, (.seq c_moraineref05_Arity_0 (.seq (.seq c_moraineref05_Arity_1 (.block 0 (.seq (.seq c_moraineref05_Arity_2 (.cond (.tmp 4) .skip (.seq c_moraineref05_Arity_3 (.cond (.tmp 4) .skip c_moraineref05_Arity_4)))) (.cond (.tmp 4) (.seq c_moraineref05_Arity_5 .ret) (.seq (.seq c_moraineref05_Arity_6 (.cond (.tmp 8) .skip (.seq c_moraineref05_Arity_7 (.cond (.tmp 8) .skip (.seq c_moraineref05_Arity_8 (.cond (.tmp 8) .skip (.seq c_moraineref05_Arity_9 (.cond (.tmp 8) .skip (.seq c_moraineref05_Arity_10 (.cond (.tmp 8) .skip c_moraineref05_Arity_11)))))))))) (.cond (.tmp 8) (.seq c_moraineref05_Arity_12 .ret) (.seq c_moraineref05_Arity_13 (.cond (.tmp 15) (.seq c_moraineref05_Arity_14 .ret) .skip)))))))) (.seq c_moraineref05_Arity_15 .ret))), [.tmp 2], false⟩
theorem tf_moraineref05_Arity : transFunc Go.Proofs.Tryz.prog 101 (hintT []) (fpT []) (killT [(0, [2]), (1, [0]), (2, [5]), (3, [6]), (4, [7]), (5, [3, 4]), (6, [4, 9]), (7, [10]), (8, [11]), (9, [12]), (10, [13]), (11, [14]), (12, [3, 8]), (13, [3, 8, 16]), (14, [15]), (15, [15])]) false = some F_moraineref05_Arity := by kernel_rfl
abbrev c_moraineref05_room_0 : SCode := .reg [([3], [⟨(some 3), none, none, .box (.tmp 0)⟩, ⟨(some 6), none, none, .mov (.val (.int .i64 0))⟩])] [0, 6]
abbrev c_moraineref05_room_1 : SCode := .reg [([2064, 2065, 2066, 2067], [⟨(some 8), none, none, .mov (.tmp 1)⟩, ⟨(some 9), none, none, .bin .lss 3 (.tmp 8) (.val (.int .i64 1))⟩, ⟨(some 10), none, none, .mov (.tmp 9)⟩, ⟨(some 11), (some (10, false)), none, .mov (.tmp 2)⟩, ⟨(some 12), (some (10, false)), none, .bin .lss 3 (.tmp 11) (.val (.int .i64 1))⟩, ⟨(some 13), none, none, .pick (.tmp 10) (.val (.bool true)) (.tmp 12)⟩, ⟨(some 14), none, none, .mov (.tmp 13)⟩, ⟨(some 15), (some (14, false)), none, .ld true 4 (.tmp 3)⟩, ⟨(some 16), (some (14, false)), none, .call 164 0 [(.tmp 15)]⟩, ⟨(some 17), (some (14, false)), none, .un .not (.tmp 16)⟩, ⟨(some 18), none, none, .pick (.tmp 14) (.val (.bool true)) (.tmp 17)⟩])] [8, 9, 10, 11, 12, 13, 14, 15, 16, 17]
abbrev c_moraineref05_room_2 : SCode := .reg [([], [⟨(some 6), none, none, .mov (.val (.int .i64 (-1)))⟩])] [1, 2, 3, 18]
abbrev c_moraineref05_room_3 : SCode := .reg [([], [⟨(some 19), none, none, .mov (.tmp 2)⟩, ⟨(some 20), none, none, .bin .sub 3 (.tmp 19) (.val (.int .i64 1))⟩, ⟨(some 2), none, none, .mov (.tmp 20)⟩])] [6, 18, 19, 20]
abbrev c_moraineref05_room_4 : SCode := .reg [([], [⟨(some 7), none, none, .mov (.val (.int .i64 0))⟩])] []
abbrev c_moraineref05_room_5 : SCode := .reg [([], [⟨(some 21), none, none, .mov (.tmp 7)⟩, ⟨(some 22), none, none, .fldA 3 (.tmp 3)⟩, ⟨(some 23), none, none, .ld false 1 (.tmp 22)⟩, ⟨(some 24), none, none, .len (.tmp 23)⟩, ⟨(some 25), none, none, .bin .lss 3 (.tmp 21) (.tmp 24)⟩, ⟨(some 26), none, none, .mov (.tmp 25)⟩, ⟨(some 27), (some (26, true)), none, .mov (.tmp 2)⟩, ⟨(some 28), (some (26, true)), none, .bin .geq 3 (.tmp 27) (.val (.int .i64 0))⟩, ⟨(some 29), none, none, .pick (.tmp 26) (.tmp 28) (.val (.bool false))⟩])] [21, 22, 23, 24, 25, 26, 27, 28]
abbrev c_moraineref05_room_6 : SCode := .reg [([2160, 2161, 2162, 2163], [⟨(some 32), none, none, .fldA 3 (.tmp 3)⟩, ⟨(some 33), none, none, .ld false 1 (.tmp 32)⟩, ⟨(some 34), none, none, .mov (.tmp 7)⟩, ⟨(some 35), none, none, .idxA 4 (.tmp 33) (.tmp 34)⟩, ⟨(some 36), none, none, .ld true 4 (.tmp 35)⟩, ⟨(some 37), none, none, .mov (.tmp 1)⟩, ⟨(some 38), none, none, .bin .sub 3 (.tmp 37) (.val (.int .i64 1))⟩, ⟨(some 39), none, none, .mov (.tmp 2)⟩, ⟨(some 40), none, none, .call 102 0 [(.tmp 36), (.tmp 38), (.tmp 39)]⟩, ⟨(some 2), none, none, .mov (.tmp 40)⟩])] [29, 32, 33, 34, 35, 36, 37, 38, 39, 40]
abbrev c_moraineref05_room_7 : SCode := .reg [([], [⟨(some 30), none, none, .mov (.tmp 7)⟩, ⟨(some 31), none, none, .bin .add 3 (.tmp 30) (.val (.int .i64 1))⟩, ⟨(some 7), none, none, .mov (.tmp 31)⟩])] [30, 31]
abbrev c_moraineref05_room_8 : SCode := (.seq (.seq c_moraineref05_room_5 (.cond (.tmp 29) .skip (.exit 0))) (.seq (.block 1 c_moraineref05_room_6) c_moraineref05_room_7))
abbrev c_moraineref05_room_9 : SCode := .reg [([], [⟨(some 41), none, none, .mov (.tmp 2)⟩, ⟨(some 6), none, none, .mov (.tmp 41)⟩])] [1, 2, 3, 7, 41]
abbrev F_moraineref05_room : SFunc := ⟨42, (.seq c_moraineref05_room_0 (.seq (.seq c_moraineref05_room_1 (.cond (.tmp 18) (.seq c_moraineref05_room_2 .ret) .skip)) (.seq c_moraineref05_room_3 (.seq (.seq c_moraineref05_room_4 (.block 0 (.loop c_moraineref05_room_8))) (.seq c_moraineref05_room_9 .ret))))), [.tmp 6], false⟩
theorem tf_moraineref05_room : transFunc Go.Proofs.Tryz.prog 102 (hintT [(16, 0), (40, 0)]) (fpT []) (killT [(0, [0, 6]), (1, [8, 9, 10, 11, 12, 13, 14, 15, 16, 17]), (2, [1, 2, 3, 18]), (3, [6, 18, 19, 20]), (5, [21, 22, 23, 24, 25, 26, 27, 28]), (7, [29, 32, 33, 34, 35, 36, 37, 38, 39, 40]), (6, [30, 31]), (8, [1, 2, 3, 7, 41])]) false = some F_moraineref05_room := by kernel_rfl
abbrev c__expr_printer__kid_0 : SCode := .reg [([3, 4], [⟨(some 3), none, none, .box (.tmp 0)⟩, ⟨(some 4), none, none, .box (.tmp 1)⟩, ⟨(some 6), none, none, .mov (.val (.string ⟨#[]⟩))⟩])] [0, 1, 6]
abbrev c__expr_printer__kid_1 : SCode := .reg [([], [⟨(some 7), none, none, .fldA 0 (.tmp 4)⟩, ⟨(some 8), none, none, .ld false 1 (.tmp 7)⟩, ⟨(some 9), none, none, .bin .eql 3 (.tmp 8) (.val (.int .i64 4))⟩, ⟨(some 10), none, none, .mov (.tmp 9)⟩, ⟨(some 11), (some (10, true)), none, .fldA 0 (.tmp 3)⟩, ⟨(some 12), (some (10, true)), none, .ld false 1 (.tmp 11)⟩, ⟨(some 13), (some (10, true)), none, .fldA 2 (.tmp 4)⟩, ⟨(some 14), (some (10, true)), none, .ld false 1 (.tmp 13)⟩, ⟨(some 15), (some (10, true)), none, .lkp true (.int .i64 0) (.tmp 12) (.tmp 14)⟩, ⟨(some 16), (some (10, true)), none, .mov (.tmp 2)⟩, ⟨(some 17), (some (10, true)), none, .bin .lss 3 (.tmp 15) (.tmp 16)⟩, ⟨(some 18), none, none, .pick (.tmp 10) (.tmp 17) (.val (.bool false))⟩])] [2, 7, 8, 9, 10, 11, 12, 13, 14, 15, 16, 17]
abbrev c__expr_printer__kid_2 : SCode := .reg [([2084, 2085, 2086, 2087], [⟨(some 19), none, none, .ld true 1 (.tmp 3)⟩, ⟨(some 20), none, none, .ld true 4 (.tmp 4)⟩, ⟨(some 21), none, none, .call 60 0 [(.tmp 19), (.tmp 20)]⟩, ⟨(some 22), none, none, .bin .add 9 (.val (.string ⟨#[40]⟩)) (.tmp 21)⟩, ⟨(some 23), none, none, .bin .add 9 (.tmp 22) (.val (.string ⟨#[41]⟩))⟩, ⟨(some 6), none, none, .mov (.tmp 23)⟩])] [3, 4, 18, 19, 20, 21, 22, 23]
abbrev c__expr_printer__kid_3 : SCode := .reg [([2104, 2105, 2106, 2107], [⟨(some 24), none, none, .ld true 1 (.tmp 3)⟩, ⟨(some 25), none, none, .ld true 4 (.tmp 4)⟩, ⟨(some 26), none, none, .call 60 0 [(.tmp 24), (.tmp 25)]⟩, ⟨(some 6), none, none, .mov (.tmp 26)⟩])] [3, 4, 18, 24, 25, 26]
abbrev F__expr_printer__kid : SFunc := ⟨27, (.seq c__expr_printer__kid_0 (.seq (.seq c__expr_printer__kid_1 (.cond (.tmp 18) (.seq c__expr_printer__kid_2 .ret) .skip)) (.seq c__expr_printer__kid_3 .ret))), [.tmp 6], false⟩
theorem tf__expr_printer__kid : transFunc Go.Proofs.Tryz.prog 105 (hintT [(21, 0), (26, 0)]) (fpT []) (killT [(0, [0, 1, 6]), (1, [2, 7, 8, 9, 10, 11, 12, 13, 14, 15, 16, 17]), (2, [3, 4, 18, 19, 20, 21, 22, 23]), (3, [3, 4, 18, 24, 25, 26])]) false = some F__expr_printer__kid := by kernel_rfl
abbrev c_expr_pieces_1_0 : SCode := .reg [([], [⟨(some 3), none, none, .mov (.val (.int .i64 0))⟩])] []
abbrev c_expr_pieces_1_1 : SCode := .reg [([], [⟨(some 6), none, none, .mov (.tmp 3)⟩, ⟨(some 7), none, none, .ld false 1 (.tmp 1)⟩, ⟨(some 8), none, none, .slen (.tmp 7)⟩, ⟨(some 9), none, none, .bin .lss 3 (.tmp 6) (.tmp 8)⟩, ⟨(some 10), none, none, .mov (.tmp 9)⟩, ⟨(some 11), (some (10, true)), none, .ld false 1 (.tmp 1)⟩, ⟨(some 12), (some (10, true)), none, .mov (.tmp 3)⟩, ⟨(some 13), (some (10, true)), none, .sidx (.tmp 11) (.tmp 12)⟩, ⟨(some 14), (some (10, true)), none, .bin .eql 5 (.tmp 13) (.val (.int .u8 32))⟩, ⟨(some 15), none, none, .pick (.tmp 10) (.tmp 14) (.val (.bool false))⟩])] [6, 7, 8, 9, 10, 11, 12, 13, 14]
abbrev c_expr_pieces_1_2 : SCode := .reg [([], [⟨(some 16), none, none, .mov (.tmp 3)⟩, ⟨(some 17), none, none, .bin .add 3 (.tmp 16) (.val (.int .i64 1))⟩, ⟨(some 3), none, none, .mov (.tmp 17)⟩])] [15, 16, 17]
abbrev c_expr_pieces_1_3 : SCode := (.seq (.seq c_expr_pieces_1_1 (.cond (.tmp 15) .skip (.exit 2))) (.block 3 c_expr_pieces_1_2))
abbrev c_expr_pieces_1_4 : SCode := .reg [([], [⟨(some 18), none, none, .mov (.tmp 3)⟩, ⟨(some 19), none, none, .ld false 1 (.tmp 1)⟩, ⟨(some 20), none, none, .slen (.tmp 19)⟩, ⟨(some 21), none, none, .bin .eql 3 (.tmp 18) (.tmp 20)⟩])] [18, 19, 20]
abbrev c_expr_pieces_1_5 : SCode := .reg [([2104, 2105, 2106, 2107, 4], [⟨(some 23), none, none, .ld false 1 (.tmp 1)⟩, ⟨(some 24), none, none, .mov (.tmp 3)⟩, ⟨(some 25), none, none, .ssub (.tmp 23) (some (.tmp 24)) none⟩, ⟨(some 26), none, none, .call 108 0 [(.tmp 25)]⟩, ⟨(some 22), none, none, .mov (.tmp 26)⟩, ⟨(some 27), none, none, .ext (.tmp 22) 0⟩, ⟨(some 28), none, none, .ext (.tmp 22) 1⟩, ⟨(some 4), none, none, .new [(.int .i64 0), (.int .i64 0), (.string ⟨#[]⟩), (.int .i64 0)]⟩, ⟨none, none, none, .st 4 (.tmp 4) (.tmp 27)⟩, ⟨(some 5), none, none, .mov (.tmp 28)⟩])] [21, 22, 23, 24, 25, 26, 27, 28]
abbrev c_expr_pieces_1_6 : SCode := .reg [([], [⟨(some 29), none, none, .mov (.tmp 3)⟩, ⟨(some 30), none, none, .fldA 3 (.tmp 4)⟩, ⟨none, none, none, .st 1 (.tmp 30) (.tmp 29)⟩])] [29, 30]
abbrev c_expr_pieces_1_7 : SCode := .reg [([2132, 2133, 2134, 2135], [⟨(some 31), none, none, .mov (.tmp 0)⟩, ⟨(some 32), none, none, .ld true 4 (.tmp 4)⟩, ⟨(some 33), none, none, .callv (.tmp 31) 1 [(.tmp 32)]⟩, ⟨(some 34), none, none, .un .not (.tmp 33)⟩, ⟨(some 35), none, none, .mov (.tmp 34)⟩, ⟨(some 36), (some (35, false)), none, .mov (.tmp 5)⟩, ⟨(some 37), (some (35, false)), none, .bin .eql 3 (.tmp 36) (.val (.int .i64 0))⟩, ⟨(some 38), none, none, .pick (.tmp 35) (.val (.bool true)) (.tmp 37)⟩])] [4, 31, 32, 33, 34, 35, 36, 37]
abbrev c_expr_pieces_1_8 : SCode := .reg [([], [⟨(some 39), none, none, .mov (.tmp 3)⟩, ⟨(some 40), none, none, .mov (.tmp 5)⟩, ⟨(some 41), none, none, .bin .add 3 (.tmp 39) (.tmp 40)⟩, ⟨(some 3), none, none, .mov (.tmp 41)⟩])] [5, 38, 39, 40, 41]
abbrev c_expr_pieces_1_9 : SCode := (.block 1 (.seq (.block 2 (.loop c_expr_pieces_1_3)) (.seq (.seq c_expr_pieces_1_4 (.cond (.tmp 21) .ret .skip)) (.seq c_expr_pieces_1_5 (.seq c_expr_pieces_1_6 (.seq (.seq c_expr_pieces_1_7 (.cond (.tmp 38) .ret .skip)) c_expr_pieces_1_8))))))
abbrev F_expr_pieces_1 : SFunc := ⟨42, (.seq c_expr_pieces_1_0 (.block 0 (.loop c_expr_pieces_1_9))), [], false⟩
theorem tf_expr_pieces_1 : transFunc Go.Proofs.Tryz.prog 107 (hintT [(26, 0), (33, 1)]) (fpT []) (killT [(1, [6, 7, 8, 9, 10, 11, 12, 13, 14]), (2, [15, 16, 17]), (3, [18, 19, 20]), (4, [21, 22, 23, 24, 25, 26, 27, 28]), (5, [29, 30]), (6, [4, 31, 32, 33, 34, 35, 36, 37]), (7, [5, 38, 39, 40, 41])]) false = some F_expr_pieces_1 := by kernel_rfl
abbrev c_expr_read_0 : SCode := .reg [([2], [⟨(some 2), none, none, .new [(.int .i64 0), (.int .i64 0), (.string ⟨#[]⟩), (.int .i64 0)]⟩, ⟨(some 3), none, none, .mov (.val (.int .i64 0))⟩])] [3]
abbrev c_expr_read_1 : SCode := .reg [([], [⟨(some 6), none, none, .mov (.tmp 0)⟩, ⟨(some 7), none, none, .sidx (.tmp 6) (.val (.int .i64 0))⟩, ⟨(some 4), none, none, .mov (.tmp 7)⟩])] [6, 7]
abbrev c_expr_read_2 : SCode := .reg [([], [⟨(some 9), none, none, .mov (.tmp 4)⟩, ⟨(some 10), none, none, .bin .geq 5 (.tmp 9) (.val (.int .u8 48))⟩, ⟨(some 11), none, none, .mov (.tmp 10)⟩, ⟨(some 12), (some (11, true)), none, .mov (.tmp 4)⟩, ⟨(some 13), (some (11, true)), none, .bin .leq 5 (.tmp 12) (.val (.int .u8 57))⟩, ⟨(some 14), none, none, .pick (.tmp 11) (.tmp 13) (.val (.bool false))⟩, ⟨(some 8), none, none, .mov (.tmp 14)⟩])] [9, 10, 11, 12, 13, 14]
abbrev c_expr_read_3 : SCode := .reg [([2064, 2065, 2066, 2067], [⟨(some 15), none, none, .mov (.tmp 0)⟩, ⟨(some 16), none, none, .call 170 0 [(.tmp 15)]⟩, ⟨(some 17), none, none, .ext (.tmp 16) 0⟩, ⟨(some 18), none, none, .ext (.tmp 16) 1⟩, ⟨none, none, none, .st 4 (.tmp 2) (.tmp 17)⟩, ⟨(some 3), none, none, .mov (.tmp 18)⟩])] [0, 4, 8, 15, 16, 17, 18]
abbrev c_expr_read_4 : SCode := .reg [([], [⟨(some 20), none, none, .mov (.tmp 4)⟩, ⟨(some 21), none, none, .bin .geq 5 (.tmp 20) (.val (.int .u8 97))⟩, ⟨(some 22), none, none, .mov (.tmp 21)⟩, ⟨(some 23), (some (22, true)), none, .mov (.tmp 4)⟩, ⟨(some 24), (some (22, true)), none, .bin .leq 5 (.tmp 23) (.val (.int .u8 122))⟩, ⟨(some 25), none, none, .pick (.tmp 22) (.tmp 24) (.val (.bool false))⟩, ⟨(some 19), none, none, .mov (.tmp 25)⟩])] [8, 20, 21, 22, 23, 24, 25]
abbrev c_expr_read_5 : SCode := .reg [([2108, 2109, 2110, 2111], [⟨(some 26), none, none, .mov (.tmp 0)⟩, ⟨(some 27), none, none, .call 171 0 [(.tmp 26)]⟩, ⟨(some 28), none, none, .ext (.tmp 27) 0⟩, ⟨(some 29), none, none, .ext (.tmp 27) 1⟩, ⟨none, none, none, .st 4 (.tmp 2) (.tmp 28)⟩, ⟨(some 3), none, none, .mov (.tmp 29)⟩])] [0, 4, 19, 26, 27, 28, 29]
abbrev c_expr_read_6 : SCode := .reg [([], [⟨(some 31), none, none, .mov (.tmp 4)⟩, ⟨(some 32), none, none, .bin .eql 5 (.tmp 31) (.val (.int .u8 34))⟩, ⟨(some 30), none, none, .mov (.tmp 32)⟩])] [4, 19, 31, 32]
abbrev c_expr_read_7 : SCode := .reg [([2136, 2137, 2138, 2139], [⟨(some 33), none, none, .mov (.tmp 0)⟩, ⟨(some 34), none, none, .call 172 0 [(.tmp 33)]⟩, ⟨(some 35), none, none, .ext (.tmp 34) 0⟩, ⟨(some 36), none, none, .ext (.tmp 34) 1⟩, ⟨none, none, none, .st 4 (.tmp 2) (.tmp 35)⟩, ⟨(some 3), none, none, .mov (.tmp 36)⟩])] [0, 30, 33, 34, 35, 36]
abbrev c_expr_read_8 : SCode := .reg [([2156, 2157, 2158, 2159], [⟨(some 37), none, none, .mov (.tmp 0)⟩, ⟨(some 38), none, none, .bsl 1 [(.val (.string ⟨#[61]⟩)), (.val (.string ⟨#[60, 62]⟩)), (.val (.string ⟨#[60]⟩)), (.val (.string ⟨#[60, 61]⟩)), (.val (.string ⟨#[62]⟩)), (.val (.string ⟨#[62, 61]⟩)), (.val (.string ⟨#[38]⟩)), (.val (.string ⟨#[43]⟩)), (.val (.string ⟨#[45]⟩)), (.val (.string ⟨#[42]⟩)), (.val (.string ⟨#[47]⟩)), (.val (.string ⟨#[37]⟩)), (.val (.string ⟨#[40]⟩)), (.val (.string ⟨#[41]⟩)), (.val (.string ⟨#[44]⟩))]⟩, ⟨(some 39), none, none, .call 173 0 [(.tmp 37), (.tmp 38)]⟩, ⟨(some 5), none, none, .mov (.tmp 39)⟩])] [0, 3, 30, 37, 38, 39]
abbrev c_expr_read_9 : SCode := .reg [([], [⟨(some 40), none, none, .mov (.tmp 5)⟩, ⟨(some 41), none, none, .bin .eql 9 (.tmp 40) (.val (.string ⟨#[]⟩))⟩])] [40]
abbrev c_expr_read_10 : SCode := .reg [([], [⟨(some 42), none, none, .build [(.int .i64 0), (.int .i64 0), (.string ⟨#[]⟩), (.int .i64 0)] []⟩, ⟨none, none, none, .st 4 (.tmp 2) (.tmp 42)⟩, ⟨(some 3), none, none, .mov (.val (.int .i64 0))⟩])] [5, 41, 42]
abbrev c_expr_read_11 : SCode := .reg [([], [⟨(some 43), none, none, .mov (.tmp 5)⟩, ⟨(some 44), none, none, .build [(.int .i64 0), (.int .i64 0), (.string ⟨#[]⟩), (.int .i64 0)] [(0, 1, (.val (.int .i64 4))), (2, 1, (.tmp 43))]⟩, ⟨(some 45), none, none, .mov (.tmp 5)⟩, ⟨(some 46), none, none, .slen (.tmp 45)⟩, ⟨none, none, none, .st 4 (.tmp 2) (.tmp 44)⟩, ⟨(some 3), none, none, .mov (.tmp 46)⟩])] [5, 41, 43, 44, 45, 46]
abbrev F_expr_read : SFunc := ⟨47, (.seq c_expr_read_0 (.seq (.seq c_expr_read_1 (.block 0 (.seq c_expr_read_2 (.cond (.tmp 8) (.seq c_expr_read_3 .ret) (.seq c_expr_read_4 (.cond (.tmp 19) (.seq c_expr_read_5 .ret) (.seq c_expr_read_6 (.cond (.tmp 30) (.seq c_expr_read_7 .ret) .skip)))))))) (.seq c_expr_read_8 (.seq (.seq c_expr_read_9 (.cond (.tmp 41) (.seq c_expr_read_10 .ret) .skip)) (.seq c_expr_read_11 .ret))))), [.cell true 4 2, .tmp 3], false⟩
theorem tf_expr_read : transFunc Go.Proofs.Tryz.prog 108 (hintT [(16, 0), (27, 0), (34, 0), (38, 0), (39, 0)]) (fpT []) (killT [(0, [3]), (1, [6, 7]), (2, [9, 10, 11, 12, 13, 14]), (3, [0, 4, 8, 15, 16, 17, 18]), (4, [8, 20, 21, 22, 23, 24, 25]), (5, [0, 4, 19, 26, 27, 28, 29]), (6, [4, 19, 31, 32]), (7, [0, 30, 33, 34, 35, 36]), (8, [0, 3, 30, 37, 38, 39]), (9, [40]), (10, [5, 41, 42]), (11, [5, 41, 43, 44, 45, 46])]) false = some F_expr_read := by kernel_rfl
abbrev c___expr_parser__expr_0 : SCode := .reg [([4], [⟨(some 4), none, none, .new [(.int .i64 0), (.int .i64 0), (.string ⟨#[]⟩), (.slice none 0 0)]⟩])] []
abbrev c___expr_parser__expr_1 : SCode := .regq [([2036, 2037, 2038, 2039, 5], [⟨(some 8), none, none, .mov (.tmp 0)⟩, ⟨(some 9), none, none, .call 174 3 [(.tmp 8)]⟩, ⟨(some 5), none, none, .new [(.int .i64 0), (.int .i64 0), (.string ⟨#[]⟩), (.slice none 0 0)]⟩, ⟨none, none, none, .st 4 (.tmp 5) (.tmp 9)⟩])] [8, 9, 9999]
abbrev c___expr_parser__expr_2 : SCode := .reg [([2052, 2053, 2054, 2055, 6], [⟨(some 10), none, none, .mov (.tmp 0)⟩, ⟨(some 11), none, none, .nchk (.tmp 10)⟩, ⟨(some 12), none, none, .fldA 0 (.tmp 11)⟩, ⟨(some 13), none, none, .call 111 1 [(.tmp 12)]⟩, ⟨(some 6), none, none, .new [(.int .i64 0), (.int .i64 0), (.string ⟨#[]⟩), (.int .i64 0)]⟩, ⟨none, none, none, .st 4 (.tmp 6) (.tmp 13)⟩])] [10, 11, 12, 13]
abbrev c___expr_parser__expr_3 : SCode := .reg [([], [⟨(some 14), none, none, .mov (.tmp 0)⟩, ⟨(some 15), none, none, .nchk (.tmp 14)⟩, ⟨(some 16), none, none, .fldA 3 (.tmp 15)⟩, ⟨(some 17), none, none, .ld false 1 (.tmp 16)⟩, ⟨(some 18), none, none, .fldA 2 (.tmp 6)⟩, ⟨(some 19), none, none, .ld false 1 (.tmp 18)⟩, ⟨(some 20), none, none, .lkp true (.int .i64 0) (.tmp 17) (.tmp 19)⟩, ⟨(some 7), none, none, .mov (.tmp 20)⟩])] [14, 15, 16, 17, 18, 19, 20]
abbrev c___expr_parser__expr_4 : SCode := .reg [([], [⟨(some 21), none, none, .fldA 0 (.tmp 6)⟩, ⟨(some 22), none, none, .ld false 1 (.tmp 21)⟩, ⟨(some 23), none, none, .bin .neq 3 (.tmp 22) (.val (.int .i64 4))⟩, ⟨(some 24), none, none, .mov (.tmp 23)⟩, ⟨(some 25), (some (24, false)), none, .mov (.tmp 7)⟩, ⟨(some 26), (some (24, false)), none, .mov (.tmp 1)⟩, ⟨(some 27), (some (24, false)), none, .bin .lss 3 (.tmp 25) (.tmp 26)⟩, ⟨(some 28), none, none, .pick (.tmp 24) (.val (.bool true)) (.tmp 27)⟩])] [21, 22, 23, 24, 25, 26, 27]
abbrev c___expr_parser__expr_5 : SCode := .reg [([], [⟨(some 29), none, none, .ld true 4 (.tmp 5)⟩, ⟨none, none, none, .st 4 (.tmp 4) (.tmp 29)⟩])] [0, 1, 5, 6, 7, 28, 29]
abbrev c___expr_parser__expr_6 : SCode := .reg [([], [⟨(some 30), none, none, .mov (.tmp 0)⟩, ⟨(some 31), none, none, .nchk (.tmp 30)⟩, ⟨(some 32), none, none, .fldA 0 (.tmp 31)⟩, ⟨(some 33), none, none, .fldA 1 (.tmp 32)⟩, ⟨(some 34), none, none, .ld false 1 (.tmp 33)⟩, ⟨(some 35), none, none, .bin .add 3 (.tmp 34) (.val (.int .i64 1))⟩, ⟨(some 36), none, none, .nchk (.tmp 30)⟩, ⟨(some 37), none, none, .fldA 0 (.tmp 36)⟩, ⟨(some 38), none, none, .fldA 1 (.tmp 37)⟩, ⟨none, none, none, .st 1 (.tmp 38) (.tmp 35)⟩])] [28, 30, 31, 32, 33, 34, 35, 36, 37, 38]
abbrev c___expr_parser__expr_7 : SCode := .regq [([2180, 2181, 2182, 2183], [⟨(some 39), none, none, .fldA 2 (.tmp 6)⟩, ⟨(some 40), none, (some 6), .ld false 1 (.tmp 39)⟩, ⟨(some 41), none, (some 5), .ld true 4 (.tmp 5)⟩, ⟨(some 42), none, none, .mov (.tmp 0)⟩, ⟨(some 43), none, none, .mov (.tmp 7)⟩, ⟨(some 44), none, none, .bin .add 3 (.tmp 43) (.val (.int .i64 1))⟩, ⟨(some 45), none, (some 1000), .call 110 3 [(.tmp 42), (.tmp 44)]⟩, ⟨(some 46), none, none, .bsl 4 [(.tmp 41), (.tmp 45)]⟩, ⟨(some 47), none, none, .build [(.int .i64 0), (.int .i64 0), (.string ⟨#[]⟩), (.slice none 0 0)] [(0, 1, (.val (.int .i64 4))), (2, 1, (.tmp 40)), (3, 1, (.tmp 46))]⟩, ⟨none, none, (some 5), .st 4 (.tmp 5) (.tmp 47)⟩])] [6, 7, 39, 40, 41, 42, 43, 44, 45, 46, 47, 9999]
abbrev c___expr_parser__expr_8 : SCode := (.block 1 (.seq c___expr_parser__expr_2 (.seq c___expr_parser__expr_3 (.seq (.seq c___expr_parser__expr_4 (.cond (.tmp 28) (.seq c___expr_parser__expr_5 .ret) .skip)) (.seq c___expr_parser__expr_6 c___expr_parser__expr_7)))))
abbrev F___expr_parser__expr : SFunc := ⟨48, (.seq c___expr_parser__expr_0 (.seq c___expr_parser__expr_1 (.block 0 (.loop c___expr_parser__expr_8)))), [.cell true 4 4], false⟩
theorem tf___expr_parser__expr : transFunc Go.Proofs.Tryz.prog 110 (hintT [(9, 3), (13, 1), (45, 3), (46, 0)]) (fpT [(7, [[(1, 6), (2, 5), (9, 5), (6, 1000)]])]) (killT [(1, [8, 9, 9999]), (2, [10, 11, 12, 13]), (3, [14, 15, 16, 17, 18, 19, 20]), (4, [21, 22, 23, 24, 25, 26, 27]), (5, [0, 1, 5, 6, 7, 28, 29]), (6, [28, 30, 31, 32, 33, 34, 35, 36, 37, 38]), (7, [6, 7, 39, 40, 41, 42, 43, 44, 45, 46, 47, 9999])]) false = some F___expr_parser__expr := by kernel_rfl
abbrev c___expr_stream__peek_0 : SCode := .reg [([2], [⟨(some 2), none, none, .new [(.int .i64 0), (.int .i64 0), (.string ⟨#[]⟩), (.int .i64 0)]⟩])] []
abbrev c___expr_stream__peek_1 : SCode := .reg [([], [⟨(some 3), none, none, .mov (.tmp 0)⟩, ⟨(some 4), none, none, .nchk (.tmp 3)⟩, ⟨(some 5), none, none, .fldA 1 (.tmp 4)⟩, ⟨(some 6), none, none, .ld false 1 (.tmp 5)⟩, ⟨(some 7), none, none, .mov (.tmp 0)⟩, ⟨(some 8), none, none, .nchk (.tmp 7)⟩, ⟨(some 9), none, none, .fldA 0 (.tmp 8)⟩, ⟨(some 10), none, none, .ld false 1 (.tmp 9)⟩, ⟨(some 11), none, none, .len (.tmp 10)⟩, ⟨(some 12), none, none, .bin .lss 3 (.tmp 6) (.tmp 11)⟩])] [3, 4, 5, 6, 7, 8, 9, 10, 11]
abbrev c___expr_stream__peek_2 : SCode := .reg [([], [⟨(some 13), none, none, .mov (.tmp 0)⟩, ⟨(some 14), none, none, .nchk (.tmp 13)⟩, ⟨(some 15), none, none, .fldA 0 (.tmp 14)⟩, ⟨(some 16), none, none, .ld false 1 (.tmp 15)⟩, ⟨(some 17), none, none, .mov (.tmp 0)⟩, ⟨(some 18), none, none, .nchk (.tmp 17)⟩, ⟨(some 19), none, none, .fldA 1 (.tmp 18)⟩, ⟨(some 20), none, none, .ld false 1 (.tmp 19)⟩, ⟨(some 21), none, none, .idxA 4 (.tmp 16) (.tmp 20)⟩, ⟨(some 22), none, none, .ld true 4 (.tmp 21)⟩, ⟨none, none, none, .st 4 (.tmp 2) (.tmp 22)⟩])] [0, 12, 13, 14, 15, 16, 17, 18, 19, 20, 21, 22]
abbrev c___expr_stream__peek_3 : SCode := .reg [([], [⟨(some 23), none, none, .mov (.tmp 0)⟩, ⟨(some 24), none, none, .nchk (.tmp 23)⟩, ⟨(some 25), none, none, .fldA 2 (.tmp 24)⟩, ⟨(some 26), none, none, .ld false 1 (.tmp 25)⟩, ⟨(some 27), none, none, .build [(.int .i64 0), (.int .i64 0), (.string ⟨#[]⟩), (.int .i64 0)] [(3, 1, (.tmp 26))]⟩, ⟨none, none, none, .st 4 (.tmp 2) (.tmp 27)⟩])] [0, 12, 23, 24, 25, 26, 27]
abbrev F___expr_stream__peek : SFunc := ⟨28, (.seq c___expr_stream__peek_0 (.seq (.seq c___expr_stream__peek_1 (.cond (.tmp 12) (.seq c___expr_stream__peek_2 .ret) .skip)) (.seq c___expr_stream__peek_3 .ret))), [.cell true 4 2], false⟩
theorem tf___expr_stream__peek : transFunc Go.Proofs.Tryz.prog 111 (hintT []) (fpT []) (killT [(1, [3, 4, 5, 6, 7, 8, 9, 10, 11]), (2, [0, 12, 13, 14, 15, 16, 17, 18, 19, 20, 21, 22]), (3, [0, 12, 23, 24, 25, 26, 27])]) false = some F___expr_stream__peek := by kernel_rfl
abbrev c___expr_checker__node_0 : SCode := .reg [([3], [⟨(some 3), none, none, .box (.tmp 1)⟩, ⟨(some 4), none, none, .mov (.val (.bool false))⟩])] [1, 4]
abbrev c___expr_checker__node_1 : SCode := .reg [([], [⟨(some 5), none, none, .fldA 0 (.tmp 3)⟩, ⟨(some 6), none, none, .ld false 1 (.tmp 5)⟩, ⟨(some 7), none, none, .bin .neq 3 (.tmp 6) (.val (.int .i64 1))⟩, ⟨(some 8), none, none, .mov (.tmp 7)⟩, ⟨(some 9), (some (8, true)), none, .fldA 1 (.tmp 3)⟩, ⟨(some 10), (some (8, true)), none, .ld false 1 (.tmp 9)⟩, ⟨(some 11), (some (8, true)), none, .bin .neq 3 (.tmp 10) (.val (.int .i64 0))⟩, ⟨(some 12), none, none, .pick (.tmp 8) (.tmp 11) (.val (.bool false))⟩])] [5, 6, 7, 8, 9, 10, 11]
abbrev c___expr_checker__node_2 : SCode := .reg [([], [⟨(some 4), none, none, .mov (.val (.bool false))⟩])] [0, 3, 12]
abbrev c___expr_checker__node_3 : SCode := .reg [([], [⟨(some 13), none, none, .fldA 0 (.tmp 3)⟩, ⟨(some 14), none, none, .ld false 1 (.tmp 13)⟩])] [4, 12, 13]
abbrev c___expr_checker__node_4 : SCode := .reg [([], [⟨(some 16), none, none, .bin .eql 3 (.tmp 14) (.val (.int .i64 1))⟩, ⟨(some 15), none, none, .mov (.tmp 16)⟩])] [16]
abbrev c___expr_checker__node_5 : SCode := .reg [([], [⟨(some 17), none, none, .fldA 1 (.tmp 3)⟩, ⟨(some 18), none, none, .ld false 1 (.tmp 17)⟩, ⟨(some 19), none, none, .bin .geq 3 (.tmp 18) (.val (.int .i64 0))⟩, ⟨(some 20), none, none, .mov (.tmp 19)⟩, ⟨(some 21), (some (20, true)), none, .fldA 1 (.tmp 3)⟩, ⟨(some 22), (some (20, true)), none, .ld false 1 (.tmp 21)⟩, ⟨(some 23), (some (20, true)), none, .bin .leq 3 (.tmp 22) (.val (.int .i64 1000000000000000))⟩, ⟨(some 24), none, none, .pick (.tmp 20) (.tmp 23) (.val (.bool false))⟩, ⟨(some 25), none, none, .mov (.tmp 24)⟩, ⟨(some 26), (some (25, true)), none, .fldA 2 (.tmp 3)⟩, ⟨(some 27), (some (25, true)), none, .ld false 1 (.tmp 26)⟩, ⟨(some 28), (some (25, true)), none, .bin .eql 9 (.tmp 27) (.val (.string ⟨#[]⟩))⟩, ⟨(some 29), none, none, .pick (.tmp 25) (.tmp 28) (.val (.bool false))⟩, ⟨(some 30), none, none, .mov (.tmp 29)⟩, ⟨(some 31), (some (30, true)), none, .fldA 3 (.tmp 3)⟩, ⟨(some 32), (some (30, true)), none, .ld false 1 (.tmp 31)⟩, ⟨(some 33), (some (30, true)), none, .len (.tmp 32)⟩, ⟨(some 34), (some (30, true)), none, .bin .eql 3 (.tmp 33) (.val (.int .i64 0))⟩, ⟨(some 35), none, none, .pick (.tmp 30) (.tmp 34) (.val (.bool false))⟩, ⟨(some 4), none, none, .mov (.tmp 35)⟩])] [0, 3, 14, 15, 17, 18, 19, 20, 21, 22, 23, 24, 25, 26, 27, 28, 29, 30, 31, 32, 33, 34, 35]
abbrev c___expr_checker__node_6 : SCode := .reg [([], [⟨(some 37), none, none, .bin .eql 3 (.tmp 14) (.val (.int .i64 2))⟩, ⟨(some 36), none, none, .mov (.tmp 37)⟩])] [15, 37]
abbrev c___expr_checker__node_7 : SCode := .reg [([2160, 2161, 2162, 2163], [⟨(some 38), none, none, .fldA 2 (.tmp 3)⟩, ⟨(some 39), none, none, .ld false 1 (.tmp 38)⟩, ⟨(some 40), none, none, .call 175 0 [(.tmp 39)]⟩, ⟨(some 41), none, none, .mov (.tmp 40)⟩, ⟨(some 42), (some (41, true)), none, .fldA 3 (.tmp 3)⟩, ⟨(some 43), (some (41, true)), none, .ld false 1 (.tmp 42)⟩, ⟨(some 44), (some (41, true)), none, .len (.tmp 43)⟩, ⟨(some 45), (some (41, true)), none, .bin .eql 3 (.tmp 44) (.val (.int .i64 0))⟩, ⟨(some 46), none, none, .pick (.tmp 41) (.tmp 45) (.val (.bool false))⟩, ⟨(some 4), none, none, .mov (.tmp 46)⟩])] [0, 3, 14, 36, 38, 39, 40, 41, 42, 43, 44, 45, 46]
abbrev c___expr_checker__node_8 : SCode := .reg [([], [⟨(some 48), none, none, .bin .eql 3 (.tmp 14) (.val (.int .i64 3))⟩, ⟨(some 47), none, none, .mov (.tmp 48)⟩])] [36, 48]
abbrev c___expr_checker__node_9 : SCode := .reg [([2204, 2205, 2206, 2207], [⟨(some 49), none, none, .fldA 2 (.tmp 3)⟩, ⟨(some 50), none, none, .ld false 1 (.tmp 49)⟩, ⟨(some 51), none, none, .call 176 0 [(.tmp 50)]⟩, ⟨(some 52), none, none, .mov (.tmp 51)⟩, ⟨(some 53), (some (52, true)), none, .fldA 3 (.tmp 3)⟩, ⟨(some 54), (some (52, true)), none, .ld false 1 (.tmp 53)⟩, ⟨(some 55), (some (52, true)), none, .len (.tmp 54)⟩, ⟨(some 56), (some (52, true)), none, .bin .eql 3 (.tmp 55) (.val (.int .i64 0))⟩, ⟨(some 57), none, none, .pick (.tmp 52) (.tmp 56) (.val (.bool false))⟩, ⟨(some 4), none, none, .mov (.tmp 57)⟩])] [0, 3, 14, 47, 49, 50, 51, 52, 53, 54, 55, 56, 57]
abbrev c___expr_checker__node_10 : SCode := .reg [([], [⟨(some 59), none, none, .bin .eql 3 (.tmp 14) (.val (.int .i64 4))⟩, ⟨(some 58), none, none, .mov (.tmp 59)⟩])] [47, 59]
abbrev c___expr_checker__node_11 : SCode := .reg [([], [⟨(some 60), none, none, .mov (.tmp 0)⟩, ⟨(some 61), none, none, .nchk (.tmp 60)⟩, ⟨(some 62), none, none, .fldA 0 (.tmp 61)⟩, ⟨(some 63), none, none, .ld false 1 (.tmp 62)⟩, ⟨(some 64), none, none, .fldA 2 (.tmp 3)⟩, ⟨(some 65), none, none, .ld false 1 (.tmp 64)⟩, ⟨(some 66), none, none, .lkp true (.int .i64 0) (.tmp 63) (.tmp 65)⟩, ⟨(some 67), none, none, .bin .gtr 3 (.tmp 66) (.val (.int .i64 0))⟩, ⟨(some 68), none, none, .mov (.tmp 67)⟩, ⟨(some 69), (some (68, true)), none, .fldA 3 (.tmp 3)⟩, ⟨(some 70), (some (68, true)), none, .ld false 1 (.tmp 69)⟩, ⟨(some 71), (some (68, true)), none, .len (.tmp 70)⟩, ⟨(some 72), (some (68, true)), none, .bin .eql 3 (.tmp 71) (.val (.int .i64 2))⟩, ⟨(some 73), none, none, .pick (.tmp 68) (.tmp 72) (.val (.bool false))⟩, ⟨(some 4), none, none, .mov (.tmp 73)⟩])] [0, 3, 14, 58, 60, 61, 62, 63, 64, 65, 66, 67, 68, 69, 70, 71, 72, 73]
abbrev c___expr_checker__node_12 : SCode := .reg [([], [⟨(some 75), none, none, .bin .eql 3 (.tmp 14) (.val (.int .i64 5))⟩, ⟨(some 74), none, none, .mov (.tmp 75)⟩])] [0, 58, 75]
abbrev c___expr_checker__node_13 : SCode := .reg [([], [⟨(some 76), none, none, .fldA 2 (.tmp 3)⟩, ⟨(some 77), none, none, .ld false 1 (.tmp 76)⟩, ⟨(some 78), none, none, .bin .eql 9 (.tmp 77) (.val (.string ⟨#[45]⟩))⟩, ⟨(some 79), none, none, .mov (.tmp 78)⟩, ⟨(some 80), (some (79, true)), none, .fldA 3 (.tmp 3)⟩, ⟨(some 81), (some (79, true)), none, .ld false 1 (.tmp 80)⟩, ⟨(some 82), (some (79, true)), none, .len (.tmp 81)⟩, ⟨(some 83), (some (79, true)), none, .bin .eql 3 (.tmp 82) (.val (.int .i64 1))⟩, ⟨(some 84), none, none, .pick (.tmp 79) (.tmp 83) (.val (.bool false))⟩, ⟨(some 4), none, none, .mov (.tmp 84)⟩])] [3, 14, 74, 76, 77, 78, 79, 80, 81, 82, 83, 84]
abbrev c___expr_checker__node_14 : SCode := .reg [([], [⟨(some 86), none, none, .bin .eql 3 (.tmp 14) (.val (.int .i64 6))⟩, ⟨(some 85), none, none, .mov (.tmp 86)⟩])] [14, 74, 86]
abbrev c___expr_checker__node_15 : SCode := .reg [([2356, 2357, 2358, 2359, 2388, 2389, 2390, 2391], [⟨(some 87), none, none, .fldA 2 (.tmp 3)⟩, ⟨(some 88), none, none, .ld false 1 (.tmp 87)⟩, ⟨(some 89), none, none, .call 177 0 [(.tmp 88)]⟩, ⟨(some 90), none, none, .bin .gtr 3 (.tmp 89) (.val (.int .i64 0))⟩, ⟨(some 91), none, none, .mov (.tmp 90)⟩, ⟨(some 92), (some (91, true)), none, .fldA 3 (.tmp 3)⟩, ⟨(some 93), (some (91, true)), none, .ld false 1 (.tmp 92)⟩, ⟨(some 94), (some (91, true)), none, .len (.tmp 93)⟩, ⟨(some 95), (some (91, true)), none, .fldA 2 (.tmp 3)⟩, ⟨(some 96), (some (91, true)), none, .ld false 1 (.tmp 95)⟩, ⟨(some 97), (some (91, true)), none, .call 177 0 [(.tmp 96)]⟩, ⟨(some 98), (some (91, true)), none, .bin .eql 3 (.tmp 94) (.tmp 97)⟩, ⟨(some 99), none, none, .pick (.tmp 91) (.tmp 98) (.val (.bool false))⟩, ⟨(some 4), none, none, .mov (.tmp 99)⟩])] [3, 85, 87, 88, 89, 90, 91, 92, 93, 94, 95, 96, 97, 98, 99]
abbrev c___expr_checker__node_16 : SCode := .reg [([], [⟨(some 4), none, none, .mov (.val (.bool false))⟩])] [3, 85]
abbrev F___expr_checker__node : SFunc := ⟨100, (.seq c___expr_checker__node_0 (.seq (.seq c___expr_checker__node_1 (.cond (.tmp 12) (.seq c___expr_checker__node_2 .ret) .skip)) (.seq (.seq c___expr_checker__node_3 (.block 0 (.seq c___expr_checker__node_4 (.cond (.tmp 15) (.seq c___expr_checker__node_5 .ret) (.seq c___expr_checker__node_6 (.cond (.tmp 36) (.seq c___expr_checker__node_7 .ret) (.seq c___expr_checker__node_8 (.cond (.tmp 47) (.seq c___expr_checker__node_9 .ret) (.seq c___expr_checker__node_10 (.cond (.tmp 58) (.seq c___expr_checker__node_11 .ret) (.seq c___expr_checker__node_12 (.cond (.tmp 74) (.seq c___expr_checker__node_13 .ret) (.seq c___expr_checker__node_14 (.cond (.tmp 85) (.seq c___expr_checker__node_15 .ret) .skip)))))))))))))) (.seq c___expr_checker__node_16 .ret)))), [.tmp 4], false⟩
theorem tf___expr_checker__node : transFunc Go.Proofs.Tryz.prog 112 (hintT [(40, 0), (51, 0), (89, 0), (97, 0)]) (fpT []) (killT [(0, [1, 4]), (1, [5, 6, 7, 8, 9, 10, 11]), (2, [0, 3, 12]), (3, [4, 12, 13]), (4, [16]), (5, [0, 3, 14, 15, 17, 18, 19, 20, 21, 22, 23, 24, 25, 26, 27, 28, 29, 30, 31, 32, 33, 34, 35]), (6, [15, 37]), (7, [0, 3, 14, 36, 38, 39, 40, 41, 42, 43, 44, 45, 46]), (8, [36, 48]), (9, [0, 3, 14, 47, 49, 50, 51, 52, 53, 54, 55, 56, 57]), (10, [47, 59]), (11, [0, 3, 14, 58, 60, 61, 62, 63, 64, 65, 66, 67, 68, 69, 70, 71, 72, 73]), (12, [0, 58, 75]), (13, [3, 14, 74, 76, 77, 78, 79, 80, 81, 82, 83, 84]), (14, [14, 74, 86]), (15, [3, 85, 87, 88, 89, 90, 91, 92, 93, 94, 95, 96, 97, 98, 99]), (16, [3, 85])]) false = some F___expr_checker__node := by kernel_rfl
abbrev c_moraineref05_node_0 : SCode := .reg [([1], [⟨(some 1), none, none, .box (.tmp 0)⟩, ⟨(some 2), none, none, .mov (.val (.bool false))⟩])] [0, 2]
abbrev c_moraineref05_node_1 : SCode := .reg [([], [⟨(some 3), none, none, .fldA 0 (.tmp 1)⟩, ⟨(some 4), none, none, .ld false 1 (.tmp 3)⟩])] [3]
abbrev c_moraineref05_node_2 : SCode := .reg [([], [⟨(some 6), none, none, .bin .eql 3 (.tmp 4) (.val (.int .i64 1))⟩, ⟨(some 5), none, none, .mov (.tmp 6)⟩])] [6]
abbrev c_moraineref05_node_3 : SCode := .reg [([], [⟨(some 7), none, none, .fldA 1 (.tmp 1)⟩, ⟨(some 8), none, none, .ld false 1 (.tmp 7)⟩, ⟨(some 9), none, none, .bin .geq 3 (.tmp 8) (.val (.int .i64 0))⟩, ⟨(some 10), none, none, .mov (.tmp 9)⟩, ⟨(some 11), (some (10, true)), none, .fldA 1 (.tmp 1)⟩, ⟨(some 12), (some (10, true)), none, .ld false 1 (.tmp 11)⟩, ⟨(some 13), (some (10, true)), none, .bin .leq 3 (.tmp 12) (.val (.int .i64 1000000000000000))⟩, ⟨(some 14), none, none, .pick (.tmp 10) (.tmp 13) (.val (.bool false))⟩, ⟨(some 15), none, none, .mov (.tmp 14)⟩, ⟨(some 16), (some (15, true)), none, .fldA 2 (.tmp 1)⟩, ⟨(some 17), (some (15, true)), none, .ld false 1 (.tmp 16)⟩, ⟨(some 18), (some (15, true)), none, .bin .eql 9 (.tmp 17) (.val (.string ⟨#[]⟩))⟩, ⟨(some 19), none, none, .pick (.tmp 15) (.tmp 18) (.val (.bool false))⟩, ⟨(some 20), none, none, .mov (.tmp 19)⟩, ⟨(some 21), (some (20, true)), none, .fldA 3 (.tmp 1)⟩, ⟨(some 22), (some (20, true)), none, .ld false 1 (.tmp 21)⟩, ⟨(some 23), (some (20, true)), none, .len (.tmp 22)⟩, ⟨(some 24), (some (20, true)), none, .bin .eql 3 (.tmp 23) (.val (.int .i64 0))⟩, ⟨(some 25), none, none, .pick (.tmp 20) (.tmp 24) (.val (.bool false))⟩, ⟨(some 2), none, none, .mov (.tmp 25)⟩])] [1, 4, 5, 7, 8, 9, 10, 11, 12, 13, 14, 15, 16, 17, 18, 19, 20, 21, 22, 23, 24, 25]
abbrev c_moraineref05_node_4 : SCode := .reg [([], [⟨(some 27), none, none, .bin .eql 3 (.tmp 4) (.val (.int .i64 2))⟩, ⟨(some 26), none, none, .mov (.tmp 27)⟩])] [5, 27]
abbrev c_moraineref05_node_5 : SCode := .reg [([2140, 2141, 2142, 2143], [⟨(some 28), none, none, .fldA 1 (.tmp 1)⟩, ⟨(some 29), none, none, .ld false 1 (.tmp 28)⟩, ⟨(some 30), none, none, .bin .eql 3 (.tmp 29) (.val (.int .i64 0))⟩, ⟨(some 31), none, none, .mov (.tmp 30)⟩, ⟨(some 32), (some (31, true)), none, .fldA 2 (.tmp 1)⟩, ⟨(some 33), (some (31, true)), none, .ld false 1 (.tmp 32)⟩, ⟨(some 34), (some (31, true)), none, .build [(.int .i64 0), (.int .i64 0), (.string ⟨#[]⟩), (.slice none 0 0)] [(0, 1, (.val (.int .i64 2))), (2, 1, (.tmp 33))]⟩, ⟨(some 35), (some (31, true)), none, .call 196 0 [(.tmp 34)]⟩, ⟨(some 36), none, none, .pick (.tmp 31) (.tmp 35) (.val (.bool false))⟩, ⟨(some 37), none, none, .mov (.tmp 36)⟩, ⟨(some 38), (some (37, true)), none, .fldA 3 (.tmp 1)⟩, ⟨(some 39), (some (37, true)), none, .ld false 1 (.tmp 38)⟩, ⟨(some 40), (some (37, true)), none, .len (.tmp 39)⟩, ⟨(some 41), (some (37, true)), none, .bin .eql 3 (.tmp 40) (.val (.int .i64 0))⟩, ⟨(some 42), none, none, .pick (.tmp 37) (.tmp 41) (.val (.bool false))⟩, ⟨(some 2), none, none, .mov (.tmp 42)⟩])] [1, 4, 26, 28, 29, 30, 31, 32, 33, 34, 35, 36, 37, 38, 39, 40, 41, 42]
abbrev c_moraineref05_node_6 : SCode := .reg [([], [⟨(some 44), none, none, .bin .eql 3 (.tmp 4) (.val (.int .i64 3))⟩, ⟨(some 43), none, none, .mov (.tmp 44)⟩])] [26, 44]
abbrev c_moraineref05_node_7 : SCode := .reg [([2204, 2205, 2206, 2207], [⟨(some 45), none, none, .fldA 1 (.tmp 1)⟩, ⟨(some 46), none, none, .ld false 1 (.tmp 45)⟩, ⟨(some 47), none, none, .bin .eql 3 (.tmp 46) (.val (.int .i64 0))⟩, ⟨(some 48), none, none, .mov (.tmp 47)⟩, ⟨(some 49), (some (48, true)), none, .fldA 2 (.tmp 1)⟩, ⟨(some 50), (some (48, true)), none, .ld false 1 (.tmp 49)⟩, ⟨(some 51), (some (48, true)), none, .call 197 0 [(.tmp 50)]⟩, ⟨(some 52), none, none, .pick (.tmp 48) (.tmp 51) (.val (.bool false))⟩, ⟨(some 53), none, none, .mov (.tmp 52)⟩, ⟨(some 54), (some (53, true)), none, .fldA 3 (.tmp 1)⟩, ⟨(some 55), (some (53, true)), none, .ld false 1 (.tmp 54)⟩, ⟨(some 56), (some (53, true)), none, .len (.tmp 55)⟩, ⟨(some 57), (some (53, true)), none, .bin .eql 3 (.tmp 56) (.val (.int .i64 0))⟩, ⟨(some 58), none, none, .pick (.tmp 53) (.tmp 57) (.val (.bool false))⟩, ⟨(some 2), none, none, .mov (.tmp 58)⟩])] [1, 4, 43, 45, 46, 47, 48, 49, 50, 51, 52, 53, 54, 55, 56, 57, 58]
abbrev c_moraineref05_node_8 : SCode := .reg [([], [⟨(some 60), none, none, .bin .eql 3 (.tmp 4) (.val (.int .i64 4))⟩, ⟨(some 59), none, none, .mov (.tmp 60)⟩])] [43, 60]
abbrev c_moraineref05_node_9 : SCode := .reg [([2268, 2269, 2270, 2271], [⟨(some 61), none, none, .fldA 1 (.tmp 1)⟩, ⟨(some 62), none, none, .ld false 1 (.tmp 61)⟩, ⟨(some 63), none, none, .bin .eql 3 (.tmp 62) (.val (.int .i64 0))⟩, ⟨(some 64), none, none, .mov (.tmp 63)⟩, ⟨(some 65), (some (64, true)), none, .fldA 2 (.tmp 1)⟩, ⟨(some 66), (some (64, true)), none, .ld false 1 (.tmp 65)⟩, ⟨(some 67), (some (64, true)), none, .call 198 0 [(.tmp 66)]⟩, ⟨(some 68), (some (64, true)), none, .bin .gtr 3 (.tmp 67) (.val (.int .i64 0))⟩, ⟨(some 69), none, none, .pick (.tmp 64) (.tmp 68) (.val (.bool false))⟩, ⟨(some 70), none, none, .mov (.tmp 69)⟩, ⟨(some 71), (some (70, true)), none, .fldA 3 (.tmp 1)⟩, ⟨(some 72), (some (70, true)), none, .ld false 1 (.tmp 71)⟩, ⟨(some 73), (some (70, true)), none, .len (.tmp 72)⟩, ⟨(some 74), (some (70, true)), none, .bin .eql 3 (.tmp 73) (.val (.int .i64 2))⟩, ⟨(some 75), none, none, .pick (.tmp 70) (.tmp 74) (.val (.bool false))⟩, ⟨(some 2), none, none, .mov (.tmp 75)⟩])] [1, 4, 59, 61, 62, 63, 64, 65, 66, 67, 68, 69, 70, 71, 72, 73, 74, 75]
abbrev c_moraineref05_node_10 : SCode := .reg [([], [⟨(some 77), none, none, .bin .eql 3 (.tmp 4) (.val (.int .i64 5))⟩, ⟨(some 76), none, none, .mov (.tmp 77)⟩])] [59, 77]
abbrev c_moraineref05_node_11 : SCode := .reg [([], [⟨(some 78), none, none, .fldA 1 (.tmp 1)⟩, ⟨(some 79), none, none, .ld false 1 (.tmp 78)⟩, ⟨(some 80), none, none, .bin .eql 3 (.tmp 79) (.val (.int .i64 0))⟩, ⟨(some 81), none, none, .mov (.tmp 80)⟩, ⟨(some 82), (some (81, true)), none, .fldA 2 (.tmp 1)⟩, ⟨(some 83), (some (81, true)), none, .ld false 1 (.tmp 82)⟩, ⟨(some 84), (some (81, true)), none, .bin .eql 9 (.tmp 83) (.val (.string ⟨#[45]⟩))⟩, ⟨(some 85), none, none, .pick (.tmp 81) (.tmp 84) (.val (.bool false))⟩, ⟨(some 86), none, none, .mov (.tmp 85)⟩, ⟨(some 87), (some (86, true)), none, .fldA 3 (.tmp 1)⟩, ⟨(some 88), (some (86, true)), none, .ld false 1 (.tmp 87)⟩, ⟨(some 89), (some (86, true)), none, .len (.tmp 88)⟩, ⟨(some 90), (some (86, true)), none, .bin .eql 3 (.tmp 89) (.val (.int .i64 1))⟩, ⟨(some 91), none, none, .pick (.tmp 86) (.tmp 90) (.val (.bool false))⟩, ⟨(some 2), none, none, .mov (.tmp 91)⟩])] [1, 4, 76, 78, 79, 80, 81, 82, 83, 84, 85, 86, 87, 88, 89, 90, 91]
abbrev c_moraineref05_node_12 : SCode := .reg [([], [⟨(some 93), none, none, .bin .eql 3 (.tmp 4) (.val (.int .i64 6))⟩, ⟨(some 92), none, none, .mov (.tmp 93)⟩])] [4, 76, 93]
abbrev c_moraineref05_node_13 : SCode := .reg [([2400, 2401, 2402, 2403, 2436, 2437, 2438, 2439], [⟨(some 94), none, none, .fldA 1 (.tmp 1)⟩, ⟨(some 95), none, none, .ld false 1 (.tmp 94)⟩, ⟨(some 96), none, none, .bin .eql 3 (.tmp 95) (.val (.int .i64 0))⟩, ⟨(some 97), none, none, .mov (.tmp 96)⟩, ⟨(some 98), (some (97, true)), none, .fldA 2 (.tmp 1)⟩, ⟨(some 99), (some (97, true)), none, .ld false 1 (.tmp 98)⟩, ⟨(some 100), (some (97, true)), none, .call 101 0 [(.tmp 99)]⟩, ⟨(some 101), (some (97, true)), none, .bin .gtr 3 (.tmp 100) (.val (.int .i64 0))⟩, ⟨(some 102), none, none, .pick (.tmp 97) (.tmp 101) (.val (.bool false))⟩, ⟨(some 103), none, none, .mov (.tmp 102)⟩, ⟨(some 104), (some (103, true)), none, .fldA 3 (.tmp 1)⟩, ⟨(some 105), (some (103, true)), none, .ld false 1 (.tmp 104)⟩, ⟨(some 106), (some (103, true)), none, .len (.tmp 105)⟩, ⟨(some 107), (some (103, true)), none, .fldA 2 (.tmp 1)⟩, ⟨(some 108), (some (103, true)), none, .ld false 1 (.tmp 107)⟩, ⟨(some 109), (some (103, true)), none, .call 101 0 [(.tmp 108)]⟩, ⟨(some 110), (some (103, true)), none, .bin .eql 3 (.tmp 106) (.tmp 109)⟩, ⟨(some 111), none, none, .pick (.tmp 103) (.tmp 110) (.val (.bool false))⟩, ⟨(some 2), none, none, .mov (.tmp 111)⟩])] [1, 92, 94, 95, 96, 97, 98, 99, 100, 101, 102, 103, 104, 105, 106, 107, 108, 109, 110, 111]
abbrev c_moraineref05_node_14 : SCode := .reg [([], [⟨(some 2), none, none, .mov (.val (.bool false))⟩])] [1, 92]
abbrev F_moraineref05_node : SFunc := ⟨112, (.seq c_moraineref05_node_0 (.seq (.seq c_moraineref05_node_1 (.block 0 (.seq c_moraineref05_node_2 (.cond (.tmp 5) (.seq c_moraineref05_node_3 .ret) (.seq c_moraineref05_node_4 (.cond (.tmp 26) (.seq c_moraineref05_node_5 .ret) (.seq c_moraineref05_node_6 (.cond (.tmp 43) (.seq c_moraineref05_node_7 .ret) (.seq c_moraineref05_node_8 (.cond (.tmp 59) (.seq c_moraineref05_node_9 .ret) (.seq c_moraineref05_node_10 (.cond (.tmp 76) (.seq c_moraineref05_node_11 .ret) (.seq c_moraineref05_node_12 (.cond (.tmp 92) (.seq c_moraineref05_node_13 .ret) .skip)))))))))))))) (.seq c_moraineref05_node_14 .ret))), [.tmp 2], false⟩
theorem tf_moraineref05_node : transFunc Go.Proofs.Tryz.prog 164 (hintT [(35, 0), (51, 0), (67, 0), (100, 0), (109, 0)]) (fpT []) (killT [(0, [0, 2]), (1, [3]), (2, [6]), (3, [1, 4, 5, 7, 8, 9, 10, 11, 12, 13, 14, 15, 16, 17, 18, 19, 20, 21, 22, 23, 24, 25]), (4, [5, 27]), (5, [1, 4, 26, 28, 29, 30, 31, 32, 33, 34, 35, 36, 37, 38, 39, 40, 41, 42]), (6, [26, 44]), (7, [1, 4, 43, 45, 46, 47, 48, 49, 50, 51, 52, 53, 54, 55, 56, 57, 58]), (8, [43, 60]), (9, [1, 4, 59, 61, 62, 63, 64, 65, 66, 67, 68, 69, 70, 71, 72, 73, 74, 75]), (10, [59, 77]), (11, [1, 4, 76, 78, 79, 80, 81, 82, 83, 84, 85, 86, 87, 88, 89, 90, 91]), (12, [4, 76, 93]), (13, [1, 92, 94, 95, 96, 97, 98, 99, 100, 101, 102, 103, 104, 105, 106, 107, 108, 109, 110, 111]), (14, [1, 92])]) false = some F_moraineref05_node := by kernel_rfl
abbrev c_expr_readNumber_0 : SCode := .reg [([2], [⟨(some 2), none, none, .new [(.int .i64 0), (.int .i64 0), (.string ⟨#[]⟩), (.int .i64 0)]⟩, ⟨(some 3), none, none, .mov (.val (.int .i64 0))⟩])] [3]
abbrev c_expr_readNumber_1 : SCode := .reg [([], [⟨(some 4), none, none, .mov (.val (.int .i64 0))⟩, ⟨(some 5), none, none, .mov (.val (.int .i64 0))⟩])] []
abbrev c_expr_readNumber_2 : SCode := .reg [([], [⟨(some 6), none, none, .mov (.tmp 5)⟩, ⟨(some 7), none, none, .mov (.tmp 0)⟩, ⟨(some 8), none, none, .slen (.tmp 7)⟩, ⟨(some 9), none, none, .bin .lss 3 (.tmp 6) (.tmp 8)⟩, ⟨(some 10), none, none, .mov (.tmp 9)⟩, ⟨(some 11), (some (10, true)), none, .mov (.tmp 0)⟩, ⟨(some 12), (some (10, true)), none, .mov (.tmp 5)⟩, ⟨(some 13), (some (10, true)), none, .sidx (.tmp 11) (.tmp 12)⟩, ⟨(some 14), (some (10, true)), none, .bin .geq 5 (.tmp 13) (.val (.int .u8 48))⟩, ⟨(some 15), none, none, .pick (.tmp 10) (.tmp 14) (.val (.bool false))⟩, ⟨(some 16), none, none, .mov (.tmp 15)⟩, ⟨(some 17), (some (16, true)), none, .mov (.tmp 0)⟩, ⟨(some 18), (some (16, true)), none, .mov (.tmp 5)⟩, ⟨(some 19), (some (16, true)), none, .sidx (.tmp 17) (.tmp 18)⟩, ⟨(some 20), (some (16, true)), none, .bin .leq 5 (.tmp 19) (.val (.int .u8 57))⟩, ⟨(some 21), none, none, .pick (.tmp 16) (.tmp 20) (.val (.bool false))⟩])] [6, 7, 8, 9, 10, 11, 12, 13, 14, 15, 16, 17, 18, 19, 20]
abbrev c_expr_readNumber_3 : SCode := .reg [([], [⟨(some 22), none, none, .mov (.tmp 4)⟩, ⟨(some 23), none, none, .bin .mul 3 (.val (.int .i64 10)) (.tmp 22)⟩, ⟨(some 24), none, none, .mov (.tmp 0)⟩, ⟨(some 25), none, none, .mov (.tmp 5)⟩, ⟨(some 26), none, none, .sidx (.tmp 24) (.tmp 25)⟩, ⟨(some 27), none, none, .bin .sub 5 (.tmp 26) (.val (.int .u8 48))⟩, ⟨(some 28), none, none, .cvi .i64 (.tmp 27)⟩, ⟨(some 29), none, none, .bin .add 3 (.tmp 23) (.tmp 28)⟩, ⟨(some 30), none, none, .imm false (.tmp 29) (.val (.int .i64 1000000000000001))⟩, ⟨(some 4), none, none, .mov (.tmp 30)⟩])] [21, 22, 23, 24, 25, 26, 27, 28, 29, 30]
abbrev c_expr_readNumber_4 : SCode := .reg [([], [⟨(some 31), none, none, .mov (.tmp 5)⟩, ⟨(some 32), none, none, .bin .add 3 (.tmp 31) (.val (.int .i64 1))⟩, ⟨(some 5), none, none, .mov (.tmp 32)⟩])] [31, 32]
abbrev c_expr_readNumber_5 : SCode := (.seq (.seq c_expr_readNumber_2 (.cond (.tmp 21) .skip (.exit 0))) (.block 1 (.seq c_expr_readNumber_3 c_expr_readNumber_4)))
abbrev c_expr_readNumber_6 : SCode := .reg [([], [⟨(some 33), none, none, .mov (.tmp 4)⟩, ⟨(some 34), none, none, .bin .gtr 3 (.tmp 33) (.val (.int .i64 1000000000000000))⟩])] [0, 33]
abbrev c_expr_readNumber_7 : SCode := .reg [([], [⟨(some 35), none, none, .build [(.int .i64 0), (.int .i64 0), (.string ⟨#[]⟩), (.int .i64 0)] []⟩, ⟨none, none, none, .st 4 (.tmp 2) (.tmp 35)⟩, ⟨(some 3), none, none, .mov (.val (.int .i64 0))⟩])] [4, 5, 34, 35]
abbrev c_expr_readNumber_8 : SCode := .reg [([], [⟨(some 36), none, none, .mov (.tmp 4)⟩, ⟨(some 37), none, none, .build [(.int .i64 0), (.int .i64 0), (.string ⟨#[]⟩), (.int .i64 0)] [(0, 1, (.val (.int .i64 1))), (1, 1, (.tmp 36))]⟩, ⟨(some 38), none, none, .mov (.tmp 5)⟩, ⟨none, none, none, .st 4 (.tmp 2) (.tmp 37)⟩, ⟨(some 3), none, none, .mov (.tmp 38)⟩])] [4, 5, 34, 36, 37, 38]
abbrev F_expr_readNumber : SFunc := ⟨39, (.seq c_expr_readNumber_0 (.seq c_expr_readNumber_1 (.seq (.block 0 (.loop c_expr_readNumber_5)) (.seq (.seq c_expr_readNumber_6 (.cond (.tmp 34) (.seq c_expr_readNumber_7 .ret) .skip)) (.seq c_expr_readNumber_8 .ret))))), [.cell true 4 2, .tmp 3], false⟩
theorem tf_expr_readNumber : transFunc Go.Proofs.Tryz.prog 170 (hintT []) (fpT []) (killT [(0, [3]), (2, [6, 7, 8, 9, 10, 11, 12, 13, 14, 15, 16, 17, 18, 19, 20]), (3, [21, 22, 23, 24, 25, 26, 27, 28, 29, 30]), (4, [31, 32]), (5, [0, 33]), (6, [4, 5, 34, 35]), (7, [4, 5, 34, 36, 37, 38])]) false = some F_expr_readNumber := by kernel_rfl
abbrev c_expr_readName_0 : SCode := .reg [([2], [⟨(some 2), none, none, .new [(.int .i64 0), (.int .i64 0), (.string ⟨#[]⟩), (.int .i64 0)]⟩, ⟨(some 3), none, none, .mov (.val (.int .i64 0))⟩])] [3]
abbrev c_expr_readName_1 : SCode := .reg [([], [⟨(some 4), none, none, .mov (.val (.int .i64 0))⟩])] []
abbrev c_expr_readName_2 : SCode := .reg [([], [⟨(some 5), none, none, .mov (.tmp 4)⟩, ⟨(some 6), none, none, .mov (.tmp 0)⟩, ⟨(some 7), none, none, .slen (.tmp 6)⟩, ⟨(some 8), none, none, .bin .lss 3 (.tmp 5) (.tmp 7)⟩, ⟨(some 9), none, none, .mov (.tmp 8)⟩, ⟨(some 10), (some (9, true)), none, .mov (.tmp 0)⟩, ⟨(some 11), (some (9, true)), none, .mov (.tmp 4)⟩, ⟨(some 12), (some (9, true)), none, .sidx (.tmp 10) (.tmp 11)⟩, ⟨(some 13), (some (9, true)), none, .bin .geq 5 (.tmp 12) (.val (.int .u8 97))⟩, ⟨(some 14), (some (9, true)), none, .mov (.tmp 13)⟩, ⟨(some 15), (some (14, true)), none, .mov (.tmp 0)⟩, ⟨(some 16), (some (14, true)), none, .mov (.tmp 4)⟩, ⟨(some 17), (some (14, true)), none, .sidx (.tmp 15) (.tmp 16)⟩, ⟨(some 18), (some (14, true)), none, .bin .leq 5 (.tmp 17) (.val (.int .u8 122))⟩, ⟨(some 19), (some (9, true)), none, .pick (.tmp 14) (.tmp 18) (.val (.bool false))⟩, ⟨(some 20), (some (9, true)), none, .mov (.tmp 19)⟩, ⟨(some 21), (some (20, false)), none, .mov (.tmp 0)⟩, ⟨(some 22), (some (20, false)), none, .mov (.tmp 4)⟩, ⟨(some 23), (some (20, false)), none, .sidx (.tmp 21) (.tmp 22)⟩, ⟨(some 24), (some (20, false)), none, .bin .geq 5 (.tmp 23) (.val (.int .u8 48))⟩, ⟨(some 25), (some (20, false)), none, .mov (.tmp 24)⟩, ⟨(some 26), (some (25, true)), none, .mov (.tmp 0)⟩, ⟨(some 27), (some (25, true)), none, .mov (.tmp 4)⟩, ⟨(some 28), (some (25, true)), none, .sidx (.tmp 26) (.tmp 27)⟩, ⟨(some 29), (some (25, true)), none, .bin .leq 5 (.tmp 28) (.val (.int .u8 57))⟩, ⟨(some 30), (some (20, false)), none, .pick (.tmp 25) (.tmp 29) (.val (.bool false))⟩, ⟨(some 31), (some (9, true)), none, .pick (.tmp 20) (.val (.bool true)) (.tmp 30)⟩, ⟨(some 32), (some (9, true)), none, .mov (.tmp 31)⟩, ⟨(some 33), (some (32, false)), none, .mov (.tmp 0)⟩, ⟨(some 34), (some (32, false)), none, .mov (.tmp 4)⟩, ⟨(some 35), (some (32, false)), none, .sidx (.tmp 33) (.tmp 34)⟩, ⟨(some 36), (some (32, false)), none, .bin .eql 5 (.tmp 35) (.val (.int .u8 95))⟩, ⟨(some 37), (some (9, true)), none, .pick (.tmp 32) (.val (.bool true)) (.tmp 36)⟩, ⟨(some 38), none, none, .pick (.tmp 9) (.tmp 37) (.val (.bool false))⟩])] [5, 6, 7, 8, 9, 10, 11, 12, 13, 14, 15, 16, 17, 18, 19, 20, 21, 22, 23, 24, 25, 26, 27, 28, 29, 30, 31, 32, 33, 34, 35, 36, 37]
abbrev c_expr_readName_3 : SCode := .reg [([], [⟨(some 39), none, none, .mov (.tmp 4)⟩, ⟨(some 40), none, none, .bin .add 3 (.tmp 39) (.val (.int .i64 1))⟩, ⟨(some 4), none, none, .mov (.tmp 40)⟩])] [38, 39, 40]
abbrev c_expr_readName_4 : SCode := (.seq (.seq c_expr_readName_2 (.cond (.tmp 38) .skip (.exit 0))) (.block 1 c_expr_readName_3))
abbrev c_expr_readName_5 : SCode := .reg [([2176, 2177, 2178, 2179], [⟨(some 41), none, none, .mov (.tmp 0)⟩, ⟨(some 42), none, none, .mov (.tmp 4)⟩, ⟨(some 43), none, none, .ssub (.tmp 41) none (some (.tmp 42))⟩, ⟨(some 44), none, none, .call 176 0 [(.tmp 43)]⟩, ⟨(some 45), none, none, .un .not (.tmp 44)⟩])] [41, 42, 43, 44]
abbrev c_expr_readName_6 : SCode := .reg [([], [⟨(some 46), none, none, .build [(.int .i64 0), (.int .i64 0), (.string ⟨#[]⟩), (.int .i64 0)] []⟩, ⟨none, none, none, .st 4 (.tmp 2) (.tmp 46)⟩, ⟨(some 3), none, none, .mov (.val (.int .i64 0))⟩])] [0, 4, 45, 46]
abbrev c_expr_readName_7 : SCode := .reg [([], [⟨(some 47), none, none, .mov (.tmp 0)⟩, ⟨(some 48), none, none, .mov (.tmp 4)⟩, ⟨(some 49), none, none, .ssub (.tmp 47) none (some (.tmp 48))⟩, ⟨(some 50), none, none, .build [(.int .i64 0), (.int .i64 0), (.string ⟨#[]⟩), (.int .i64 0)] [(0, 1, (.val (.int .i64 3))), (2, 1, (.tmp 49))]⟩, ⟨(some 51), none, none, .mov (.tmp 4)⟩, ⟨none, none, none, .st 4 (.tmp 2) (.tmp 50)⟩, ⟨(some 3), none, none, .mov (.tmp 51)⟩])] [0, 4, 45, 47, 48, 49, 50, 51]
abbrev F_expr_readName : SFunc := ⟨52, (.seq c_expr_readName_0 (.seq c_expr_readName_1 (.seq (.block 0 (.loop c_expr_readName_4)) (.seq (.seq c_expr_readName_5 (.cond (.tmp 45) (.seq c_expr_readName_6 .ret) .skip)) (.seq c_expr_readName_7 .ret))))), [.cell true 4 2, .tmp 3], false⟩
theorem tf_expr_readName : transFunc Go.Proofs.Tryz.prog 171 (hintT [(44, 0)]) (fpT []) (killT [(0, [3]), (2, [5, 6, 7, 8, 9, 10, 11, 12, 13, 14, 15, 16, 17, 18, 19, 20, 21, 22, 23, 24, 25, 26, 27, 28, 29, 30, 31, 32, 33, 34, 35, 36, 37]), (3, [38, 39, 40]), (4, [41, 42, 43, 44]), (5, [0, 4, 45, 46]), (6, [0, 4, 45, 47, 48, 49, 50, 51])]) false = some F_expr_readName := by kernel_rfl
abbrev c_expr_readText_0 : SCode := .reg [([2], [⟨(some 2), none, none, .new [(.int .i64 0), (.int .i64 0), (.string ⟨#[]⟩), (.int .i64 0)]⟩, ⟨(some 3), none, none, .mov (.val (.int .i64 0))⟩])] [3]
abbrev c_expr_readText_1 : SCode := .reg [([], [⟨(some 4), none, none, .mov (.val (.slice none 0 0))⟩])] []
abbrev c_expr_readText_2 : SCode := .reg [([], [⟨(some 5), none, none, .mov (.val (.int .i64 1))⟩])] []
abbrev c_expr_readText_3 : SCode := .reg [([], [⟨(some 6), none, none, .mov (.tmp 5)⟩, ⟨(some 7), none, none, .mov (.tmp 0)⟩, ⟨(some 8), none, none, .slen (.tmp 7)⟩, ⟨(some 9), none, none, .bin .lss 3 (.tmp 6) (.tmp 8)⟩])] [6, 7, 8]
abbrev c_expr_readText_4 : SCode := .reg [([], [⟨(some 12), none, none, .mov (.tmp 0)⟩, ⟨(some 13), none, none, .mov (.tmp 5)⟩, ⟨(some 14), none, none, .sidx (.tmp 12) (.tmp 13)⟩])] [9, 12, 13]
abbrev c_expr_readText_5 : SCode := .reg [([], [⟨(some 16), none, none, .bin .eql 5 (.tmp 14) (.val (.int .u8 34))⟩, ⟨(some 15), none, none, .mov (.tmp 16)⟩])] [16]
abbrev c_expr_readText_6 : SCode := .reg [([2076, 2077, 2078, 2079], [⟨(some 17), none, none, .mov (.tmp 4)⟩, ⟨(some 18), none, none, .b2s (.tmp 17)⟩, ⟨(some 19), none, none, .call 175 0 [(.tmp 18)]⟩, ⟨(some 20), none, none, .un .not (.tmp 19)⟩])] [0, 14, 15, 17, 18, 19]
abbrev c_expr_readText_7 : SCode := .reg [([], [⟨(some 21), none, none, .build [(.int .i64 0), (.int .i64 0), (.string ⟨#[]⟩), (.int .i64 0)] []⟩, ⟨none, none, none, .st 4 (.tmp 2) (.tmp 21)⟩, ⟨(some 3), none, none, .mov (.val (.int .i64 0))⟩])] [4, 5, 20, 21]
abbrev c_expr_readText_8 : SCode := .reg [([], [⟨(some 22), none, none, .mov (.tmp 4)⟩, ⟨(some 23), none, none, .b2s (.tmp 22)⟩, ⟨(some 24), none, none, .build [(.int .i64 0), (.int .i64 0), (.string ⟨#[]⟩), (.int .i64 0)] [(0, 1, (.val (.int .i64 2))), (2, 1, (.tmp 23))]⟩, ⟨(some 25), none, none, .mov (.tmp 5)⟩, ⟨(some 26), none, none, .bin .add 3 (.tmp 25) (.val (.int .i64 1))⟩, ⟨none, none, none, .st 4 (.tmp 2) (.tmp 24)⟩, ⟨(some 3), none, none, .mov (.tmp 26)⟩])] [4, 5, 20, 22, 23, 24, 25, 26]
abbrev c_expr_readText_9 : SCode := .reg [([], [⟨(some 28), none, none, .bin .eql 5 (.tmp 14) (.val (.int .u8 92))⟩, ⟨(some 27), none, none, .mov (.tmp 28)⟩])] [14, 15, 28]
abbrev c_expr_readText_10 : SCode := .reg [([], [⟨(some 29), none, none, .mov (.tmp 5)⟩, ⟨(some 30), none, none, .bin .add 3 (.tmp 29) (.val (.int .i64 1))⟩, ⟨(some 5), none, none, .mov (.tmp 30)⟩])] [27, 29, 30]
abbrev c_expr_readText_11 : SCode := .reg [([], [⟨(some 31), none, none, .mov (.tmp 5)⟩, ⟨(some 32), none, none, .mov (.tmp 0)⟩, ⟨(some 33), none, none, .slen (.tmp 32)⟩, ⟨(some 34), none, none, .bin .eql 3 (.tmp 31) (.tmp 33)⟩, ⟨(some 35), none, none, .mov (.tmp 34)⟩, ⟨(some 36), (some (35, false)), none, .mov (.tmp 0)⟩, ⟨(some 37), (some (35, false)), none, .mov (.tmp 5)⟩, ⟨(some 38), (some (35, false)), none, .sidx (.tmp 36) (.tmp 37)⟩, ⟨(some 39), (some (35, false)), none, .bin .neq 5 (.tmp 38) (.val (.int .u8 34))⟩, ⟨(some 40), (some (35, false)), none, .mov (.tmp 39)⟩, ⟨(some 41), (some (40, true)), none, .mov (.tmp 0)⟩, ⟨(some 42), (some (40, true)), none, .mov (.tmp 5)⟩, ⟨(some 43), (some (40, true)), none, .sidx (.tmp 41) (.tmp 42)⟩, ⟨(some 44), (some (40, true)), none, .bin .neq 5 (.tmp 43) (.val (.int .u8 92))⟩, ⟨(some 45), (some (35, false)), none, .pick (.tmp 40) (.tmp 44) (.val (.bool false))⟩, ⟨(some 46), none, none, .pick (.tmp 35) (.val (.bool true)) (.tmp 45)⟩])] [31, 32, 33, 34, 35, 36, 37, 38, 39, 40, 41, 42, 43, 44, 45]
abbrev c_expr_readText_12 : SCode := .reg [([], [⟨(some 47), none, none, .build [(.int .i64 0), (.int .i64 0), (.string ⟨#[]⟩), (.int .i64 0)] []⟩, ⟨none, none, none, .st 4 (.tmp 2) (.tmp 47)⟩, ⟨(some 3), none, none, .mov (.val (.int .i64 0))⟩])] [0, 4, 5, 46, 47]
abbrev c_expr_readText_13 : SCode := .reg [([], [⟨(some 48), none, none, .mov (.tmp 4)⟩, ⟨(some 49), none, none, .mov (.tmp 0)⟩, ⟨(some 50), none, none, .mov (.tmp 5)⟩, ⟨(some 51), none, none, .sidx (.tmp 49) (.tmp 50)⟩, ⟨(some 52), none, none, .bsl 1 [(.tmp 51)]⟩, ⟨(some 53), none, none, .app 5 1 1 (.tmp 48) (.tmp 52)⟩, ⟨(some 4), none, none, .mov (.tmp 53)⟩]), ([53], [⟨(some 48), none, none, .mov (.tmp 4)⟩, ⟨(some 49), none, none, .mov (.tmp 0)⟩, ⟨(some 50), none, none, .mov (.tmp 5)⟩, ⟨(some 51), none, none, .sidx (.tmp 49) (.tmp 50)⟩, ⟨(some 52), none, none, .bsl 1 [(.tmp 51)]⟩, ⟨(some 53), none, none, .appN 5 1 1 (.tmp 48) (.tmp 52)⟩, ⟨(some 4), none, none, .mov (.tmp 53)⟩])] [3, 27, 46, 48, 49, 50, 51, 52, 53]
abbrev c_expr_readText_14 : SCode := .reg [([], [⟨(some 10), none, none, .mov (.tmp 5)⟩, ⟨(some 11), none, none, .bin .add 3 (.tmp 10) (.val (.int .i64 1))⟩, ⟨(some 5), none, none, .mov (.tmp 11)⟩])] [10, 11]
abbrev c_expr_readText_15 : SCode := (.seq (.seq c_expr_readText_3 (.cond (.tmp 9) .skip (.exit 0))) (.seq (.block 1 (.seq (.seq c_expr_readText_4 (.block 2 (.seq c_expr_readText_5 (.cond (.tmp 15) (.seq (.seq c_expr_readText_6 (.cond (.tmp 20) (.seq c_expr_readText_7 .ret) .skip)) (.seq c_expr_readText_8 .ret)) (.seq c_expr_readText_9 (.cond (.tmp 27) (.seq c_expr_readText_10 (.seq c_expr_readText_11 (.cond (.tmp 46) (.seq c_expr_readText_12 .ret) .skip))) .skip)))))) c_expr_readText_13)) c_expr_readText_14))
abbrev c_expr_readText_16 : SCode := .reg [([], [⟨(some 54), none, none, .build [(.int .i64 0), (.int .i64 0), (.string ⟨#[]⟩), (.int .i64 0)] []⟩, ⟨none, none, none, .st 4 (.tmp 2) (.tmp 54)⟩, ⟨(some 3), none, none, .mov (.val (.int .i64 0))⟩])] [0, 4, 5, 54]
abbrev F_expr_readText : SFunc := ⟨55, (.seq c_expr_readText_0 (.seq c_expr_readText_1 (.seq (.seq c_expr_readText_2 (.block 0 (.loop c_expr_readText_15))) (.seq c_expr_readText_16 .ret)))), [.cell true 4 2, .tmp 3], false⟩
theorem tf_expr_readText : transFunc Go.Proofs.Tryz.prog 172 (hintT [(19, 0), (52, 0)]) (fpT []) (killT [(0, [3]), (3, [6, 7, 8]), (5, [9, 12, 13]), (6, [16]), (7, [0, 14, 15, 17, 18, 19]), (8, [4, 5, 20, 21]), (9, [4, 5, 20, 22, 23, 24, 25, 26]), (10, [14, 15, 28]), (11, [27, 29, 30]), (12, [31, 32, 33, 34, 35, 36, 37, 38, 39, 40, 41, 42, 43, 44, 45]), (13, [0, 4, 5, 46, 47]), (14, [3, 27, 46, 48, 49, 50, 51, 52, 53]), (4, [10, 11]), (15, [0, 4, 5, 54])]) false = some F_expr_readText := by kernel_rfl
abbrev c_expr_longest_0 : SCode := .reg [([], [⟨(some 4), none, none, .mov (.val (.string ⟨#[]⟩))⟩])] [4]
abbrev c_expr_longest_1 : SCode := .reg [([], [⟨(some 5), none, none, .mov (.val (.string ⟨#[]⟩))⟩])] []
abbrev c_expr_longest_2 : SCode := .reg [([], [⟨(some 8), none, none, .mov (.tmp 1)⟩, ⟨(some 9), none, none, .len (.tmp 8)⟩, ⟨(some 10), none, none, .mov (.val (.int .i64 0))⟩])] [1]
abbrev c_expr_longest_3 : SCode := .reg [([], [⟨(some 11), none, none, .bin .lss 3 (.tmp 10) (.tmp 9)⟩])] []
abbrev c_expr_longest_4 : SCode := .reg [([], [⟨(some 12), none, none, .idxA 1 (.tmp 8) (.tmp 10)⟩, ⟨(some 13), none, none, .ld false 1 (.tmp 12)⟩, ⟨(some 7), none, none, .mov (.tmp 13)⟩])] [11, 12, 13]
abbrev c_expr_longest_5 : SCode := .reg [([2064, 2065, 2066, 2067], [⟨(some 14), none, none, .mov (.tmp 0)⟩, ⟨(some 15), none, none, .mov (.tmp 7)⟩, ⟨(some 16), none, none, .call 203 0 [(.tmp 14), (.tmp 15)]⟩, ⟨(some 17), none, none, .mov (.tmp 16)⟩, ⟨(some 18), (some (17, true)), none, .mov (.tmp 7)⟩, ⟨(some 19), (some (17, true)), none, .slen (.tmp 18)⟩, ⟨(some 20), (some (17, true)), none, .mov (.tmp 5)⟩, ⟨(some 21), (some (17, true)), none, .slen (.tmp 20)⟩, ⟨(some 22), (some (17, true)), none, .bin .gtr 3 (.tmp 19) (.tmp 21)⟩, ⟨(some 23), none, none, .pick (.tmp 17) (.tmp 22) (.val (.bool false))⟩])] [14, 15, 16, 17, 18, 19, 20, 21, 22]
abbrev c_expr_longest_6 : SCode := .reg [([], [⟨(some 24), none, none, .mov (.tmp 7)⟩, ⟨(some 5), none, none, .mov (.tmp 24)⟩])] [7, 23, 24]
abbrev c_expr_longest_7 : SCode := .reg [([], [⟨(some 25), none, none, .bin .add 3 (.tmp 10) (.val (.int .i64 1))⟩, ⟨(some 10), none, none, .mov (.tmp 25)⟩])] [7, 23, 25]
abbrev c_expr_longest_8 : SCode := (.seq c_expr_longest_3 (.seq (.cond (.tmp 11) .skip (.exit 0)) (.seq (.block 1 (.seq c_expr_longest_4 (.seq c_expr_longest_5 (.cond (.tmp 23) c_expr_longest_6 .skip)))) c_expr_longest_7)))
abbrev c_expr_longest_9 : SCode := .reg [([], [⟨(some 26), none, none, .mov (.tmp 5)⟩, ⟨(some 4), none, none, .mov (.tmp 26)⟩])] [0, 5, 8, 9, 10, 26]
abbrev F_expr_longest : SFunc := ⟨27, (.seq c_expr_longest_0 (.seq c_expr_longest_1 (.seq (.seq c_expr_longest_2 (.block 0 (.loop c_expr_longest_8))) (.seq c_expr_longest_9 .ret)))), [.tmp 4], false⟩
theorem tf_expr_longest : transFunc Go.Proofs.Tryz.prog 173 (hintT [(16, 0)]) (fpT []) (killT [(0, [4]), (2, [1]), (4, [11, 12, 13]), (5, [14, 15, 16, 17, 18, 19, 20, 21, 22]), (6, [7, 23, 24]), (7, [7, 23, 25]), (8, [0, 5, 8, 9, 10, 26])]) false = some F_expr_longest := by kernel_rfl
abbrev c___expr_parser__tight_0 : SCode := .reg [([2], [⟨(some 2), none, none, .new [(.int .i64 0), (.int .i64 0), (.string ⟨#[]⟩), (.slice none 0 0)]⟩])] []
abbrev c___expr_parser__tight_1 : SCode := .reg [([2036, 2037, 2038, 2039], [⟨(some 6), none, none, .mov (.tmp 0)⟩, ⟨(some 7), none, none, .nchk (.tmp 6)⟩, ⟨(some 8), none, none, .fldA 0 (.tmp 7)⟩, ⟨(some 9), none, none, .call 204 1 [(.tmp 8), (.val (.string ⟨#[40]⟩))]⟩])] [6, 7, 8]
abbrev c___expr_parser__tight_2 : SCode := .regq [([2044, 2045, 2046, 2047, 3], [⟨(some 10), none, none, .mov (.tmp 0)⟩, ⟨(some 11), none, none, .call 110 3 [(.tmp 10), (.val (.int .i64 1))]⟩, ⟨(some 3), none, none, .new [(.int .i64 0), (.int .i64 0), (.string ⟨#[]⟩), (.slice none 0 0)]⟩, ⟨none, none, none, .st 4 (.tmp 3) (.tmp 11)⟩])] [9, 10, 11, 9999]
abbrev c___expr_parser__tight_3 : SCode := .regq [([2060, 2061, 2062, 2063], [⟨(some 12), none, none, .mov (.tmp 0)⟩, ⟨(some 13), none, none, .nchk (.tmp 12)⟩, ⟨(some 14), none, none, .fldA 0 (.tmp 13)⟩, ⟨(some 15), none, none, .call 205 3 [(.tmp 14), (.val (.string ⟨#[41]⟩))]⟩])] [0, 12, 13, 14, 15, 9999]
abbrev c___expr_parser__tight_4 : SCode := .reg [([], [⟨(some 16), none, none, .ld true 4 (.tmp 3)⟩, ⟨none, none, none, .st 4 (.tmp 2) (.tmp 16)⟩])] [3, 16]
abbrev c___expr_parser__tight_5 : SCode := .reg [([2080, 2081, 2082, 2083], [⟨(some 17), none, none, .mov (.tmp 0)⟩, ⟨(some 18), none, none, .nchk (.tmp 17)⟩, ⟨(some 19), none, none, .fldA 0 (.tmp 18)⟩, ⟨(some 20), none, none, .call 204 1 [(.tmp 19), (.val (.string ⟨#[45]⟩))]⟩])] [9, 17, 18, 19]
abbrev c___expr_parser__tight_6 : SCode := .regq [([2088, 2089, 2090, 2091], [⟨(some 21), none, none, .mov (.tmp 0)⟩, ⟨(some 22), none, none, .call 174 3 [(.tmp 21)]⟩, ⟨(some 23), none, none, .bsl 4 [(.tmp 22)]⟩, ⟨(some 24), none, none, .build [(.int .i64 0), (.int .i64 0), (.string ⟨#[]⟩), (.slice none 0 0)] [(0, 1, (.val (.int .i64 5))), (2, 1, (.val (.string ⟨#[45]⟩))), (3, 1, (.tmp 23))]⟩, ⟨none, none, none, .st 4 (.tmp 2) (.tmp 24)⟩])] [0, 20, 21, 22, 23, 24, 9999]
abbrev c___expr_parser__tight_7 : SCode := .reg [([2112, 2113, 2114, 2115, 4], [⟨(some 25), none, none, .mov (.tmp 0)⟩, ⟨(some 26), none, none, .nchk (.tmp 25)⟩, ⟨(some 27), none, none, .fldA 0 (.tmp 26)⟩, ⟨(some 28), none, none, .call 111 1 [(.tmp 27)]⟩, ⟨(some 4), none, none, .new [(.int .i64 0), (.int .i64 0), (.string ⟨#[]⟩), (.int .i64 0)]⟩, ⟨none, none, none, .st 4 (.tmp 4) (.tmp 28)⟩])] [20, 25, 26, 27, 28]
abbrev c___expr_parser__tight_8 : SCode := .reg [([], [⟨(some 29), none, none, .mov (.tmp 0)⟩, ⟨(some 30), none, none, .nchk (.tmp 29)⟩, ⟨(some 31), none, none, .fldA 0 (.tmp 30)⟩, ⟨(some 32), none, none, .fldA 1 (.tmp 31)⟩, ⟨(some 33), none, none, .ld false 1 (.tmp 32)⟩, ⟨(some 34), none, none, .bin .add 3 (.tmp 33) (.val (.int .i64 1))⟩, ⟨(some 35), none, none, .nchk (.tmp 29)⟩, ⟨(some 36), none, none, .fldA 0 (.tmp 35)⟩, ⟨(some 37), none, none, .fldA 1 (.tmp 36)⟩, ⟨none, none, none, .st 1 (.tmp 37) (.tmp 34)⟩])] [29, 30, 31, 32, 33, 34, 35, 36, 37]
abbrev c___expr_parser__tight_9 : SCode := .reg [([], [⟨(some 38), none, none, .fldA 0 (.tmp 4)⟩, ⟨(some 39), none, none, .ld false 1 (.tmp 38)⟩])] [38]
abbrev c___expr_parser__tight_10 : SCode := .reg [([], [⟨(some 41), none, none, .bin .eql 3 (.tmp 39) (.val (.int .i64 1))⟩, ⟨(some 40), none, none, .mov (.tmp 41)⟩])] [41]
abbrev c___expr_parser__tight_11 : SCode := .reg [([], [⟨(some 42), none, none, .fldA 1 (.tmp 4)⟩, ⟨(some 43), none, none, .ld false 1 (.tmp 42)⟩, ⟨(some 44), none, none, .build [(.int .i64 0), (.int .i64 0), (.string ⟨#[]⟩), (.slice none 0 0)] [(0, 1, (.val (.int .i64 1))), (1, 1, (.tmp 43))]⟩, ⟨none, none, none, .st 4 (.tmp 2) (.tmp 44)⟩])] [0, 4, 39, 40, 42, 43, 44]
abbrev c___expr_parser__tight_12 : SCode := .reg [([], [⟨(some 46), none, none, .bin .eql 3 (.tmp 39) (.val (.int .i64 2))⟩, ⟨(some 45), none, none, .mov (.tmp 46)⟩])] [40, 46]
abbrev c___expr_parser__tight_13 : SCode := .reg [([], [⟨(some 47), none, none, .fldA 2 (.tmp 4)⟩, ⟨(some 48), none, none, .ld false 1 (.tmp 47)⟩, ⟨(some 49), none, none, .build [(.int .i64 0), (.int .i64 0), (.string ⟨#[]⟩), (.slice none 0 0)] [(0, 1, (.val (.int .i64 2))), (2, 1, (.tmp 48))]⟩, ⟨none, none, none, .st 4 (.tmp 2) (.tmp 49)⟩])] [0, 4, 39, 45, 47, 48, 49]
abbrev c___expr_parser__tight_14 : SCode := .reg [([], [⟨(some 51), none, none, .bin .eql 3 (.tmp 39) (.val (.int .i64 3))⟩, ⟨(some 50), none, none, .mov (.tmp 51)⟩])] [39, 45, 51]
abbrev c___expr_parser__tight_15 : SCode := .reg [([2216, 2217, 2218, 2219], [⟨(some 52), none, none, .fldA 2 (.tmp 4)⟩, ⟨(some 53), none, none, .ld false 1 (.tmp 52)⟩, ⟨(some 54), none, none, .call 177 0 [(.tmp 53)]⟩, ⟨(some 5), none, none, .mov (.tmp 54)⟩])] [50, 52, 53, 54]
abbrev c___expr_parser__tight_16 : SCode := .reg [([2244, 2245, 2246, 2247], [⟨(some 55), none, none, .mov (.tmp 5)⟩, ⟨(some 56), none, none, .bin .gtr 3 (.tmp 55) (.val (.int .i64 0))⟩, ⟨(some 57), none, none, .mov (.tmp 56)⟩, ⟨(some 58), (some (57, true)), none, .mov (.tmp 0)⟩, ⟨(some 59), (some (57, true)), none, .nchk (.tmp 58)⟩, ⟨(some 60), (some (57, true)), none, .fldA 0 (.tmp 59)⟩, ⟨(some 61), (some (57, true)), none, .call 204 1 [(.tmp 60), (.val (.string ⟨#[40]⟩))]⟩, ⟨(some 62), none, none, .pick (.tmp 57) (.tmp 61) (.val (.bool false))⟩])] [55, 56, 57, 58, 59, 60, 61]
abbrev c___expr_parser__tight_17 : SCode := .regq [([2268, 2269, 2270, 2271], [⟨(some 63), none, none, .fldA 2 (.tmp 4)⟩, ⟨(some 64), none, (some 4), .ld false 1 (.tmp 63)⟩, ⟨(some 65), none, none, .mov (.tmp 0)⟩, ⟨(some 66), none, none, .mov (.tmp 5)⟩, ⟨(some 67), none, (some 1000), .call 206 3 [(.tmp 65), (.tmp 66)]⟩, ⟨(some 68), none, none, .build [(.int .i64 0), (.int .i64 0), (.string ⟨#[]⟩), (.slice none 0 0)] [(0, 1, (.val (.int .i64 6))), (2, 1, (.tmp 64)), (3, 1, (.tmp 67))]⟩, ⟨none, none, (some 2), .st 4 (.tmp 2) (.tmp 68)⟩])] [0, 4, 5, 62, 63, 64, 65, 66, 67, 68, 9999]
abbrev c___expr_parser__tight_18 : SCode := .reg [([], [⟨(some 69), none, none, .fldA 2 (.tmp 4)⟩, ⟨(some 70), none, none, .ld false 1 (.tmp 69)⟩, ⟨(some 71), none, none, .build [(.int .i64 0), (.int .i64 0), (.string ⟨#[]⟩), (.slice none 0 0)] [(0, 1, (.val (.int .i64 3))), (2, 1, (.tmp 70))]⟩, ⟨none, none, none, .st 4 (.tmp 2) (.tmp 71)⟩])] [0, 4, 5, 62, 69, 70, 71]
abbrev c___expr_parser__tight_19 : SCode := .regq [([], [⟨(some 72), none, none, .fldA 3 (.tmp 4)⟩, ⟨(some 73), none, none, .ld false 1 (.tmp 72)⟩, ⟨(some 74), none, none, .mkI 168 (.tmp 73)⟩, ⟨none, none, none, .pan (.tmp 74)⟩])] [0, 4, 50, 72, 73, 74, 9999]
abbrev F___expr_parser__tight : SFunc := ⟨75, (.seq c___expr_parser__tight_0 (.seq (.seq c___expr_parser__tight_1 (.cond (.tmp 9) (.seq c___expr_parser__tight_2 (.seq c___expr_parser__tight_3 (.seq c___expr_parser__tight_4 .ret))) .skip)) (.seq (.seq c___expr_parser__tight_5 (.cond (.tmp 20) (.seq c___expr_parser__tight_6 .ret) .skip)) (.seq c___expr_parser__tight_7 (.seq c___expr_parser__tight_8 (.seq (.seq c___expr_parser__tight_9 (.block 0 (.seq c___expr_parser__tight_10 (.cond (.tmp 40) (.seq c___expr_parser__tight_11 .ret) (.seq c___expr_parser__tight_12 (.cond (.tmp 45) (.seq c___expr_parser__tight_13 .ret) (.seq c___expr_parser__tight_14 (.cond (.tmp 50) (.seq (.seq c___expr_parser__tight_15 (.seq c___expr_parser__tight_16 (.cond (.tmp 62) (.seq c___expr_parser__tight_17 .ret) .skip))) (.seq c___expr_parser__tight_18 .ret)) .skip)))))))) c___expr_parser__tight_19)))))), [.cell true 4 2], false⟩
theorem tf___expr_parser__tight : transFunc Go.Proofs.Tryz.prog 174 (hintT [(9, 1), (11, 3), (15, 3), (20, 1), (22, 3), (23, 0), (28, 1), (54, 0), (61, 1), (67, 3)]) (fpT [(17, [[(1, 4), (6, 2), (4, 1000)]])]) (killT [(1, [6, 7, 8]), (2, [9, 10, 11, 9999]), (3, [0, 12, 13, 14, 15, 9999]), (4, [3, 16]), (5, [9, 17, 18, 19]), (6, [0, 20, 21, 22, 23, 24, 9999]), (7, [20, 25, 26, 27, 28]), (8, [29, 30, 31, 32, 33, 34, 35, 36, 37]), (9, [38]), (10, [41]), (11, [0, 4, 39, 40, 42, 43, 44]), (12, [40, 46]), (13, [0, 4, 39, 45, 47, 48, 49]), (14, [39, 45, 51]), (15, [50, 52, 53, 54]), (16, [55, 56, 57, 58, 59, 60, 61]), (17, [0, 4, 5, 62, 63, 64, 65, 66, 67, 68, 9999]), (18, [0, 4, 5, 62, 69, 70, 71]), (19, [0, 4, 50, 72, 73, 74, 9999])]) false = some F___expr_parser__tight := by kernel_rfl
abbrev c_expr_rightText_0 : SCode := .reg [([], [⟨(some 2), none, none, .mov (.val (.bool false))⟩])] [2]
abbrev c_expr_rightText_1 : SCode := .reg [([2020, 2021, 2022, 2023], [⟨(some 3), none, none, .mov (.tmp 0)⟩, ⟨(some 4), none, none, .build [(.int .i64 0), (.int .i64 0), (.string ⟨#[]⟩), (.slice none 0 0)] [(0, 1, (.val (.int .i64 2))), (2, 1, (.tmp 3))]⟩, ⟨(some 5), none, none, .call 52 0 [(.tmp 4)]⟩, ⟨(some 2), none, none, .mov (.tmp 5)⟩])] [0, 3, 4, 5]
abbrev F_expr_rightText : SFunc := ⟨6, (.seq c_expr_rightText_0 (.seq c_expr_rightText_1 .ret)), [.tmp 2], false⟩
theorem tf_expr_rightText : transFunc Go.Proofs.Tryz.prog 175 (hintT [(5, 0)]) (fpT []) (killT [(0, [2]), (1, [0, 3, 4, 5])]) false = some F_expr_rightText := by kernel_rfl
abbrev c_expr_rightName_0 : SCode := .reg [([], [⟨(some 2), none, none, .mov (.val (.bool false))⟩])] [2]
abbrev c_expr_rightName_1 : SCode := .reg [([2020, 2021, 2022, 2023], [⟨(some 3), none, none, .mov (.tmp 0)⟩, ⟨(some 4), none, none, .build [(.string ⟨#[]⟩), (.slice none 0 0)] [(0, 1, (.tmp 3))]⟩, ⟨(some 5), none, none, .call 69 0 [(.tmp 4)]⟩, ⟨(some 2), none, none, .mov (.tmp 5)⟩])] [0, 3, 4, 5]
abbrev F_expr_rightName : SFunc := ⟨6, (.seq c_expr_rightName_0 (.seq c_expr_rightName_1 .ret)), [.tmp 2], false⟩
theorem tf_expr_rightName : transFunc Go.Proofs.Tryz.prog 176 (hintT [(5, 0)]) (fpT []) (killT [(0, [2]), (1, [0, 3, 4, 5])]) false = some F_expr_rightName := by kernel_rfl
abbrev c_expr_takes_0 : SCode := .reg [([], [⟨(some 2), none, none, .mov (.val (.int .i64 0))⟩])] [2]
abbrev c_expr_takes_1 : SCode := .reg [([], [⟨(some 3), none, none, .mov (.tmp 0)⟩])] [0]
abbrev c_expr_takes_2 : SCode := .reg [([], [⟨(some 5), none, none, .bin .eql 9 (.tmp 3) (.val (.string ⟨#[108, 101, 110]⟩))⟩, ⟨(some 4), none, none, .mov (.tmp 5)⟩])] [5]
abbrev c_expr_takes_3 : SCode := .reg [([], [⟨(some 6), none, none, .bin .eql 9 (.tmp 3) (.val (.string ⟨#[116, 101, 120, 116]⟩))⟩, ⟨(some 4), none, none, .mov (.tmp 6)⟩])] [6]
abbrev c_expr_takes_4 : SCode := .reg [([], [⟨(some 7), none, none, .bin .eql 9 (.tmp 3) (.val (.string ⟨#[110, 117, 109]⟩))⟩, ⟨(some 4), none, none, .mov (.tmp 7)⟩])] [7]
abbrev c_expr_takes_5 : SCode := .reg [([], [⟨(some 2), none, none, .mov (.val (.int .i64 1))⟩])] [3, 4]
abbrev c_expr_takes_6 : SCode := .reg [([], [⟨(some 9), none, none, .bin .eql 9 (.tmp 3) (.val (.string ⟨#[108, 101, 102, 116]⟩))⟩, ⟨(some 8), none, none, .mov (.tmp 9)⟩])] [4, 9]
abbrev c_expr_takes_7 : SCode := .reg [([], [⟨(some 10), none, none, .bin .eql 9 (.tmp 3) (.val (.string ⟨#[114, 105, 103, 104, 116]⟩))⟩, ⟨(some 8), none, none, .mov (.tmp 10)⟩])] [10]
abbrev c_expr_takes_8 : SCode := .reg [([], [⟨(some 11), none, none, .bin .eql 9 (.tmp 3) (.val (.string ⟨#[102, 114, 111, 109]⟩))⟩, ⟨(some 8), none, none, .mov (.tmp 11)⟩])] [11]
abbrev c_expr_takes_9 : SCode := .reg [([], [⟨(some 12), none, none, .bin .eql 9 (.tmp 3) (.val (.string ⟨#[102, 105, 110, 100]⟩))⟩, ⟨(some 8), none, none, .mov (.tmp 12)⟩])] [12]
abbrev c_expr_takes_10 : SCode := .reg [([], [⟨(some 13), none, none, .bin .eql 9 (.tmp 3) (.val (.string ⟨#[109, 105, 110]⟩))⟩, ⟨(some 8), none, none, .mov (.tmp 13)⟩])] [13]
abbrev c_expr_takes_11 : SCode := .reg [([], [⟨(some 14), none, none, .bin .eql 9 (.tmp 3) (.val (.string ⟨#[109, 97, 120]⟩))⟩, ⟨(some 8), none, none, .mov (.tmp 14)⟩])] [14]
abbrev c_expr_takes_12 : SCode := .reg [([], [⟨(some 2), none, none, .mov (.val (.int .i64 2))⟩])] [3, 8]
abbrev c_expr_takes_13 : SCode := .reg [([], [⟨(some 16), none, none, .bin .eql 9 (.tmp 3) (.val (.string ⟨#[105, 102]⟩))⟩, ⟨(some 15), none, none, .mov (.tmp 16)⟩])] [3, 8, 16]
abbrev c_expr_takes_14 : SCode := .reg [([], [⟨(some 2), none, none, .mov (.val (.int .i64 3))⟩])] [15]
abbrev c_expr_takes_15 : SCode := .reg [([], [⟨(some 2), none, none, .mov (.val (.int .i64 0))⟩])] [15]
abbrev F_expr_takes : SFunc := ⟨17, (.seq c_expr_takes_0 (.seq (.seq c_expr_takes_1 (.block 0 (.seq (.seq c_expr_takes_2 (.cond (.tmp 4) .skip (.seq c_expr_takes_3 (.cond (.tmp 4) .skip c_expr_takes_4)))) (.cond (.tmp 4) (.seq c_expr_takes_5 .ret) (.seq (.seq c_expr_takes_6 (.cond (.tmp 8) .skip (.seq c_expr_takes_7 (.cond (.tmp 8) .skip (.seq c_expr_takes_8 (.cond (.tmp 8) .skip (.seq c_expr_takes_9 (.cond (.tmp 8) .skip (.seq c_expr_takes_10 (.cond (.tmp 8) .skip c_expr_takes_11)))))))))) (.cond (.tmp 8) (.seq c_expr_takes_12 .ret) (.seq c_expr_takes_13 (.cond (.tmp 15) (.seq c_expr_takes_14 .ret) .skip)))))))) (.seq c_expr_takes_15 .ret))), [.tmp 2], false⟩
theorem tf_expr_takes : transFunc Go.Proofs.Tryz.prog 177 (hintT []) (fpT []) (killT [(0, [2]), (1, [0]), (2, [5]), (3, [6]), (4, [7]), (5, [3, 4]), (6, [4, 9]), (7, [10]), (8, [11]), (9, [12]), (10, [13]), (11, [14]), (12, [3, 8]), (13, [3, 8, 16]), (14, [15]), (15, [15])]) false = some F_expr_takes := by kernel_rfl
abbrev c_moraineref03_Right_0 : SCode := .reg [([1], [⟨(some 1), none, none, .box (.tmp 0)⟩, ⟨(some 2), none, none, .mov (.val (.bool false))⟩])] [0, 2]
abbrev c_moraineref03_Right_1 : SCode := .reg [([], [⟨(some 6), none, none, .fldA 0 (.tmp 1)⟩, ⟨(some 7), none, none, .ld false 1 (.tmp 6)⟩])] [6]
abbrev c_moraineref03_Right_2 : SCode := .reg [([], [⟨(some 9), none, none, .bin .eql 3 (.tmp 7) (.val (.int .i64 0))⟩, ⟨(some 8), none, none, .mov (.tmp 9)⟩])] [9]
abbrev c_moraineref03_Right_3 : SCode := .reg [([], [⟨(some 10), none, none, .fldA 1 (.tmp 1)⟩, ⟨(some 11), none, none, .ld false 1 (.tmp 10)⟩, ⟨(some 12), none, none, .bin .eql 3 (.tmp 11) (.val (.int .i64 0))⟩, ⟨(some 13), none, none, .mov (.tmp 12)⟩, ⟨(some 14), (some (13, true)), none, .fldA 2 (.tmp 1)⟩, ⟨(some 15), (some (13, true)), none, .ld false 1 (.tmp 14)⟩, ⟨(some 16), (some (13, true)), none, .bin .eql 9 (.tmp 15) (.val (.string ⟨#[]⟩))⟩, ⟨(some 17), none, none, .pick (.tmp 13) (.tmp 16) (.val (.bool false))⟩, ⟨(some 18), none, none, .mov (.tmp 17)⟩, ⟨(some 19), (some (18, true)), none, .fldA 3 (.tmp 1)⟩, ⟨(some 20), (some (18, true)), none, .ld false 1 (.tmp 19)⟩, ⟨(some 21), (some (18, true)), none, .len (.tmp 20)⟩, ⟨(some 22), (some (18, true)), none, .bin .eql 3 (.tmp 21) (.val (.int .i64 0))⟩, ⟨(some 23), none, none, .pick (.tmp 18) (.tmp 22) (.val (.bool false))⟩, ⟨(some 2), none, none, .mov (.tmp 23)⟩])] [1, 7, 8, 10, 11, 12, 13, 14, 15, 16, 17, 18, 19, 20, 21, 22, 23]
abbrev c_moraineref03_Right_4 : SCode := .reg [([], [⟨(some 25), none, none, .bin .eql 3 (.tmp 7) (.val (.int .i64 1))⟩, ⟨(some 24), none, none, .mov (.tmp 25)⟩])] [8, 25]
abbrev c_moraineref03_Right_5 : SCode := .reg [([], [⟨(some 26), none, none, .fldA 1 (.tmp 1)⟩, ⟨(some 27), none, none, .ld false 1 (.tmp 26)⟩, ⟨(some 28), none, none, .bin .geq 3 (.tmp 27) (.val (.int .i64 (-1000000000000000)))⟩, ⟨(some 29), none, none, .mov (.tmp 28)⟩, ⟨(some 30), (some (29, true)), none, .fldA 1 (.tmp 1)⟩, ⟨(some 31), (some (29, true)), none, .ld false 1 (.tmp 30)⟩, ⟨(some 32), (some (29, true)), none, .bin .leq 3 (.tmp 31) (.val (.int .i64 1000000000000000))⟩, ⟨(some 33), none, none, .pick (.tmp 29) (.tmp 32) (.val (.bool false))⟩, ⟨(some 34), none, none, .mov (.tmp 33)⟩, ⟨(some 35), (some (34, true)), none, .fldA 2 (.tmp 1)⟩, ⟨(some 36), (some (34, true)), none, .ld false 1 (.tmp 35)⟩, ⟨(some 37), (some (34, true)), none, .bin .eql 9 (.tmp 36) (.val (.string ⟨#[]⟩))⟩, ⟨(some 38), none, none, .pick (.tmp 34) (.tmp 37) (.val (.bool false))⟩, ⟨(some 39), none, none, .mov (.tmp 38)⟩, ⟨(some 40), (some (39, true)), none, .fldA 3 (.tmp 1)⟩, ⟨(some 41), (some (39, true)), none, .ld false 1 (.tmp 40)⟩, ⟨(some 42), (some (39, true)), none, .len (.tmp 41)⟩, ⟨(some 43), (some (39, true)), none, .bin .eql 3 (.tmp 42) (.val (.int .i64 0))⟩, ⟨(some 44), none, none, .pick (.tmp 39) (.tmp 43) (.val (.bool false))⟩, ⟨(some 2), none, none, .mov (.tmp 44)⟩])] [1, 7, 24, 26, 27, 28, 29, 30, 31, 32, 33, 34, 35, 36, 37, 38, 39, 40, 41, 42, 43, 44]
abbrev c_moraineref03_Right_6 : SCode := .reg [([], [⟨(some 46), none, none, .bin .eql 3 (.tmp 7) (.val (.int .i64 2))⟩, ⟨(some 45), none, none, .mov (.tmp 46)⟩])] [24, 46]
abbrev c_moraineref03_Right_7 : SCode := .reg [([2196, 2197, 2198, 2199], [⟨(some 47), none, none, .fldA 2 (.tmp 1)⟩, ⟨(some 48), none, none, .ld false 1 (.tmp 47)⟩, ⟨(some 49), none, none, .call 87 0 [(.tmp 48)]⟩, ⟨(some 3), none, none, .mov (.tmp 49)⟩])] [7, 45, 47, 48, 49]
abbrev c_moraineref03_Right_8 : SCode := .reg [([], [⟨(some 50), none, none, .fldA 1 (.tmp 1)⟩, ⟨(some 51), none, none, .ld false 1 (.tmp 50)⟩, ⟨(some 52), none, none, .bin .eql 3 (.tmp 51) (.val (.int .i64 0))⟩, ⟨(some 53), none, none, .mov (.tmp 52)⟩, ⟨(some 54), (some (53, true)), none, .mov (.tmp 3)⟩, ⟨(some 55), none, none, .pick (.tmp 53) (.tmp 54) (.val (.bool false))⟩, ⟨(some 56), none, none, .mov (.tmp 55)⟩, ⟨(some 57), (some (56, true)), none, .fldA 2 (.tmp 1)⟩, ⟨(some 58), (some (56, true)), none, .ld false 1 (.tmp 57)⟩, ⟨(some 59), (some (56, true)), none, .slen (.tmp 58)⟩, ⟨(some 60), (some (56, true)), none, .bin .leq 3 (.tmp 59) (.val (.int .i64 60))⟩, ⟨(some 61), none, none, .pick (.tmp 56) (.tmp 60) (.val (.bool false))⟩, ⟨(some 62), none, none, .mov (.tmp 61)⟩, ⟨(some 63), (some (62, true)), none, .fldA 3 (.tmp 1)⟩, ⟨(some 64), (some (62, true)), none, .ld false 1 (.tmp 63)⟩, ⟨(some 65), (some (62, true)), none, .len (.tmp 64)⟩, ⟨(some 66), (some (62, true)), none, .bin .eql 3 (.tmp 65) (.val (.int .i64 0))⟩, ⟨(some 67), none, none, .pick (.tmp 62) (.tmp 66) (.val (.bool false))⟩, ⟨(some 2), none, none, .mov (.tmp 67)⟩])] [1, 3, 50, 51, 52, 53, 54, 55, 56, 57, 58, 59, 60, 61, 62, 63, 64, 65, 66, 67]
abbrev c_moraineref03_Right_9 : SCode := .reg [([], [⟨(some 69), none, none, .bin .eql 3 (.tmp 7) (.val (.int .i64 3))⟩, ⟨(some 68), none, none, .mov (.tmp 69)⟩])] [45, 69]
abbrev c_moraineref03_Right_10 : SCode := .reg [([], [⟨(some 70), none, none, .bin .eql 3 (.tmp 7) (.val (.int .i64 4))⟩, ⟨(some 68), none, none, .mov (.tmp 70)⟩])] [70]
abbrev c_moraineref03_Right_11 : SCode := .reg [([], [⟨(some 71), none, none, .fldA 1 (.tmp 1)⟩, ⟨(some 72), none, none, .ld false 1 (.tmp 71)⟩, ⟨(some 73), none, none, .bin .geq 3 (.tmp 72) (.val (.int .i64 1))⟩, ⟨(some 74), none, none, .mov (.tmp 73)⟩, ⟨(some 75), (some (74, true)), none, .fldA 1 (.tmp 1)⟩, ⟨(some 76), (some (74, true)), none, .ld false 1 (.tmp 75)⟩, ⟨(some 77), (some (74, true)), none, .bin .leq 3 (.tmp 76) (.val (.int .i64 100000))⟩, ⟨(some 78), none, none, .pick (.tmp 74) (.tmp 77) (.val (.bool false))⟩, ⟨(some 79), none, none, .mov (.tmp 78)⟩, ⟨(some 80), (some (79, false)), none, .fldA 1 (.tmp 1)⟩, ⟨(some 81), (some (79, false)), none, .ld false 1 (.tmp 80)⟩, ⟨(some 82), (some (79, false)), none, .bin .geq 3 (.tmp 81) (.val (.int .i64 (-20)))⟩, ⟨(some 83), (some (79, false)), none, .mov (.tmp 82)⟩, ⟨(some 84), (some (83, true)), none, .fldA 1 (.tmp 1)⟩, ⟨(some 85), (some (83, true)), none, .ld false 1 (.tmp 84)⟩, ⟨(some 86), (some (83, true)), none, .bin .leq 3 (.tmp 85) (.val (.int .i64 (-1)))⟩, ⟨(some 87), (some (79, false)), none, .pick (.tmp 83) (.tmp 86) (.val (.bool false))⟩, ⟨(some 88), none, none, .pick (.tmp 79) (.val (.bool true)) (.tmp 87)⟩, ⟨(some 89), none, none, .mov (.tmp 88)⟩, ⟨(some 90), (some (89, true)), none, .fldA 2 (.tmp 1)⟩, ⟨(some 91), (some (89, true)), none, .ld false 1 (.tmp 90)⟩, ⟨(some 92), (some (89, true)), none, .bin .eql 9 (.tmp 91) (.val (.string ⟨#[]⟩))⟩, ⟨(some 93), none, none, .pick (.tmp 89) (.tmp 92) (.val (.bool false))⟩, ⟨(some 94), none, none, .mov (.tmp 93)⟩, ⟨(some 95), (some (94, true)), none, .fldA 3 (.tmp 1)⟩, ⟨(some 96), (some (94, true)), none, .ld false 1 (.tmp 95)⟩, ⟨(some 97), (some (94, true)), none, .len (.tmp 96)⟩, ⟨(some 98), (some (94, true)), none, .bin .eql 3 (.tmp 97) (.val (.int .i64 0))⟩, ⟨(some 99), none, none, .pick (.tmp 94) (.tmp 98) (.val (.bool false))⟩, ⟨(some 2), none, none, .mov (.tmp 99)⟩])] [1, 7, 68, 71, 72, 73, 74, 75, 76, 77, 78, 79, 80, 81, 82, 83, 84, 85, 86, 87, 88, 89, 90, 91, 92, 93, 94, 95, 96, 97, 98, 99]
abbrev c_moraineref03_Right_12 : SCode := .reg [([], [⟨(some 101), none, none, .bin .eql 3 (.tmp 7) (.val (.int .i64 5))⟩, ⟨(some 100), none, none, .mov (.tmp 101)⟩])] [7, 68, 101]
abbrev c_moraineref03_Right_13 : SCode := .reg [([], [⟨(some 102), none, none, .fldA 1 (.tmp 1)⟩, ⟨(some 103), none, none, .ld false 1 (.tmp 102)⟩, ⟨(some 104), none, none, .bin .neq 3 (.tmp 103) (.val (.int .i64 0))⟩, ⟨(some 105), none, none, .mov (.tmp 104)⟩, ⟨(some 106), (some (105, false)), none, .fldA 2 (.tmp 1)⟩, ⟨(some 107), (some (105, false)), none, .ld false 1 (.tmp 106)⟩, ⟨(some 108), (some (105, false)), none, .bin .neq 9 (.tmp 107) (.val (.string ⟨#[]⟩))⟩, ⟨(some 109), none, none, .pick (.tmp 105) (.val (.bool true)) (.tmp 108)⟩, ⟨(some 110), none, none, .mov (.tmp 109)⟩, ⟨(some 111), (some (110, false)), none, .fldA 3 (.tmp 1)⟩, ⟨(some 112), (some (110, false)), none, .ld false 1 (.tmp 111)⟩, ⟨(some 113), (some (110, false)), none, .len (.tmp 112)⟩, ⟨(some 114), (some (110, false)), none, .bin .gtr 3 (.tmp 113) (.val (.int .i64 12))⟩, ⟨(some 115), none, none, .pick (.tmp 110) (.val (.bool true)) (.tmp 114)⟩])] [100, 102, 103, 104, 105, 106, 107, 108, 109, 110, 111, 112, 113, 114]
abbrev c_moraineref03_Right_14 : SCode := .reg [([], [⟨(some 2), none, none, .mov (.val (.bool false))⟩])] [1, 115]
abbrev c_moraineref03_Right_15 : SCode := .reg [([], [⟨(some 4), none, none, .mov (.val (.int .i64 0))⟩])] [2, 115]
abbrev c_moraineref03_Right_16 : SCode := .reg [([], [⟨(some 116), none, none, .mov (.tmp 4)⟩, ⟨(some 117), none, none, .fldA 3 (.tmp 1)⟩, ⟨(some 118), none, none, .ld false 1 (.tmp 117)⟩, ⟨(some 119), none, none, .len (.tmp 118)⟩, ⟨(some 120), none, none, .bin .lss 3 (.tmp 116) (.tmp 119)⟩])] [116, 117, 118, 119]
abbrev c_moraineref03_Right_17 : SCode := .reg [([], [⟨(some 123), none, none, .fldA 3 (.tmp 1)⟩, ⟨(some 124), none, none, .ld false 1 (.tmp 123)⟩, ⟨(some 125), none, none, .mov (.tmp 4)⟩, ⟨(some 126), none, none, .idxA 4 (.tmp 124) (.tmp 125)⟩, ⟨(some 127), none, none, .fldA 0 (.tmp 126)⟩, ⟨(some 128), none, none, .ld false 1 (.tmp 127)⟩, ⟨(some 129), none, none, .bin .eql 3 (.tmp 128) (.val (.int .i64 5))⟩])] [120, 123, 124, 125, 126, 127, 128]
abbrev c_moraineref03_Right_18 : SCode := .reg [([], [⟨(some 2), none, none, .mov (.val (.bool false))⟩])] [1, 4, 129]
abbrev c_moraineref03_Right_19 : SCode := .reg [([2540, 2541, 2542, 2543], [⟨(some 130), none, none, .fldA 3 (.tmp 1)⟩, ⟨(some 131), none, none, .ld false 1 (.tmp 130)⟩, ⟨(some 132), none, none, .mov (.tmp 4)⟩, ⟨(some 133), none, none, .idxA 4 (.tmp 131) (.tmp 132)⟩, ⟨(some 134), none, none, .ld true 4 (.tmp 133)⟩, ⟨(some 135), none, none, .call 196 0 [(.tmp 134)]⟩, ⟨(some 5), none, none, .mov (.tmp 135)⟩])] [2, 129, 130, 131, 132, 133, 134, 135]
abbrev c_moraineref03_Right_20 : SCode := .reg [([], [⟨(some 136), none, none, .mov (.tmp 5)⟩, ⟨(some 137), none, none, .un .not (.tmp 136)⟩])] [5, 136]
abbrev c_moraineref03_Right_21 : SCode := .reg [([], [⟨(some 2), none, none, .mov (.val (.bool false))⟩])] [1, 4, 137]
abbrev c_moraineref03_Right_22 : SCode := .reg [([], [⟨(some 121), none, none, .mov (.tmp 4)⟩, ⟨(some 122), none, none, .bin .add 3 (.tmp 121) (.val (.int .i64 1))⟩, ⟨(some 4), none, none, .mov (.tmp 122)⟩])] [2, 121, 122, 137]
abbrev c_moraineref03_Right_23 : SCode := (.seq (.seq c_moraineref03_Right_16 (.cond (.tmp 120) .skip (.exit 1))) (.seq (.block 2 (.seq (.seq c_moraineref03_Right_17 (.cond (.tmp 129) (.seq c_moraineref03_Right_18 .ret) .skip)) (.seq c_moraineref03_Right_19 (.seq c_moraineref03_Right_20 (.cond (.tmp 137) (.seq c_moraineref03_Right_21 .ret) .skip))))) c_moraineref03_Right_22))
abbrev c_moraineref03_Right_24 : SCode := .reg [([], [⟨(some 2), none, none, .mov (.val (.bool true))⟩])] [1, 4]
abbrev c_moraineref03_Right_25 : SCode := .reg [([], [⟨(some 2), none, none, .mov (.val (.bool false))⟩])] [1, 100]
abbrev F_moraineref03_Right : SFunc := ⟨138, (.seq c_moraineref03_Right_0 (.seq (.seq c_moraineref03_Right_1 (.block 0 (.seq c_moraineref03_Right_2 (.cond (.tmp 8) (.seq c_moraineref03_Right_3 .ret) (.seq c_moraineref03_Right_4 (.cond (.tmp 24) (.seq c_moraineref03_Right_5 .ret) (.seq c_moraineref03_Right_6 (.cond (.tmp 45) (.seq c_moraineref03_Right_7 (.seq c_moraineref03_Right_8 .ret)) (.seq (.seq c_moraineref03_Right_9 (.cond (.tmp 68) .skip c_moraineref03_Right_10)) (.cond (.tmp 68) (.seq c_moraineref03_Right_11 .ret) (.seq c_moraineref03_Right_12 (.cond (.tmp 100) (.seq (.seq c_moraineref03_Right_13 (.cond (.tmp 115) (.seq c_moraineref03_Right_14 .ret) .skip)) (.seq (.seq c_moraineref03_Right_15 (.block 1 (.loop c_moraineref03_Right_23))) (.seq c_moraineref03_Right_24 .ret))) .skip)))))))))))) (.seq c_moraineref03_Right_25 .ret))), [.tmp 2], false⟩
theorem tf_moraineref03_Right : transFunc Go.Proofs.Tryz.prog 196 (hintT [(49, 0), (135, 0)]) (fpT []) (killT [(0, [0, 2]), (1, [6]), (2, [9]), (3, [1, 7, 8, 10, 11, 12, 13, 14, 15, 16, 17, 18, 19, 20, 21, 22, 23]), (4, [8, 25]), (5, [1, 7, 24, 26, 27, 28, 29, 30, 31, 32, 33, 34, 35, 36, 37, 38, 39, 40, 41, 42, 43, 44]), (6, [24, 46]), (7, [7, 45, 47, 48, 49]), (8, [1, 3, 50, 51, 52, 53, 54, 55, 56, 57, 58, 59, 60, 61, 62, 63, 64, 65, 66, 67]), (9, [45, 69]), (10, [70]), (11, [1, 7, 68, 71, 72, 73, 74, 75, 76, 77, 78, 79, 80, 81, 82, 83, 84, 85, 86, 87, 88, 89, 90, 91, 92, 93, 94, 95, 96, 97, 98, 99]), (12, [7, 68, 101]), (13, [100, 102, 103, 104, 105, 106, 107, 108, 109, 110, 111, 112, 113, 114]), (14, [1, 115]), (15, [2, 115]), (16, [116, 117, 118, 119]), (18, [120, 123, 124, 125, 126, 127, 128]), (19, [1, 4, 129]), (20, [2, 129, 130, 131, 132, 133, 134, 135]), (21, [5, 136]), (22, [1, 4, 137]), (17, [2, 121, 122, 137]), (23, [1, 4]), (24, [1, 100])]) false = some F_moraineref03_Right := by kernel_rfl
abbrev c_moraineref04_Name_0 : SCode := .reg [([], [⟨(some 2), none, none, .mov (.val (.bool false))⟩])] [2]
abbrev c_moraineref04_Name_1 : SCode := .reg [([], [⟨(some 6), none, none, .mov (.tmp 0)⟩, ⟨(some 7), none, none, .slen (.tmp 6)⟩, ⟨(some 8), none, none, .bin .lss 3 (.tmp 7) (.val (.int .i64 1))⟩, ⟨(some 9), none, none, .mov (.tmp 8)⟩, ⟨(some 10), (some (9, false)), none, .mov (.tmp 0)⟩, ⟨(some 11), (some (9, false)), none, .slen (.tmp 10)⟩, ⟨(some 12), (some (9, false)), none, .bin .gtr 3 (.tmp 11) (.val (.int .i64 20))⟩, ⟨(some 13), none, none, .pick (.tmp 9) (.val (.bool true)) (.tmp 12)⟩])] [6, 7, 8, 9, 10, 11, 12]
abbrev c_moraineref04_Name_2 : SCode := .reg [([], [⟨(some 2), none, none, .mov (.val (.bool false))⟩])] [0, 13]
abbrev c_moraineref04_Name_3 : SCode := .reg [([], [⟨(some 3), none, none, .mov (.val (.int .i64 0))⟩])] [2, 13]
abbrev c_moraineref04_Name_4 : SCode := .reg [([], [⟨(some 14), none, none, .mov (.tmp 3)⟩, ⟨(some 15), none, none, .mov (.tmp 0)⟩, ⟨(some 16), none, none, .slen (.tmp 15)⟩, ⟨(some 17), none, none, .bin .lss 3 (.tmp 14) (.tmp 16)⟩])] [14, 15, 16]
abbrev c_moraineref04_Name_5 : SCode := .reg [([], [⟨(some 20), none, none, .mov (.tmp 0)⟩, ⟨(some 21), none, none, .mov (.tmp 3)⟩, ⟨(some 22), none, none, .sidx (.tmp 20) (.tmp 21)⟩, ⟨(some 23), none, none, .bin .geq 5 (.tmp 22) (.val (.int .u8 97))⟩, ⟨(some 24), none, none, .mov (.tmp 23)⟩, ⟨(some 25), (some (24, true)), none, .mov (.tmp 0)⟩, ⟨(some 26), (some (24, true)), none, .mov (.tmp 3)⟩, ⟨(some 27), (some (24, true)), none, .sidx (.tmp 25) (.tmp 26)⟩, ⟨(some 28), (some (24, true)), none, .bin .leq 5 (.tmp 27) (.val (.int .u8 122))⟩, ⟨(some 29), none, none, .pick (.tmp 24) (.tmp 28) (.val (.bool false))⟩, ⟨(some 4), none, none, .mov (.tmp 29)⟩])] [17, 20, 21, 22, 23, 24, 25, 26, 27, 28, 29]
abbrev c_moraineref04_Name_6 : SCode := .reg [([], [⟨(some 30), none, none, .mov (.tmp 0)⟩, ⟨(some 31), none, none, .mov (.tmp 3)⟩, ⟨(some 32), none, none, .sidx (.tmp 30) (.tmp 31)⟩, ⟨(some 33), none, none, .bin .geq 5 (.tmp 32) (.val (.int .u8 48))⟩, ⟨(some 34), none, none, .mov (.tmp 33)⟩, ⟨(some 35), (some (34, true)), none, .mov (.tmp 0)⟩, ⟨(some 36), (some (34, true)), none, .mov (.tmp 3)⟩, ⟨(some 37), (some (34, true)), none, .sidx (.tmp 35) (.tmp 36)⟩, ⟨(some 38), (some (34, true)), none, .bin .leq 5 (.tmp 37) (.val (.int .u8 57))⟩, ⟨(some 39), none, none, .pick (.tmp 34) (.tmp 38) (.val (.bool false))⟩, ⟨(some 40), none, none, .mov (.tmp 39)⟩, ⟨(some 41), (some (40, false)), none, .mov (.tmp 0)⟩, ⟨(some 42), (some (40, false)), none, .mov (.tmp 3)⟩, ⟨(some 43), (some (40, false)), none, .sidx (.tmp 41) (.tmp 42)⟩, ⟨(some 44), (some (40, false)), none, .bin .eql 5 (.tmp 43) (.val (.int .u8 95))⟩, ⟨(some 45), none, none, .pick (.tmp 40) (.val (.bool true)) (.tmp 44)⟩, ⟨(some 5), none, none, .mov (.tmp 45)⟩])] [30, 31, 32, 33, 34, 35, 36, 37, 38, 39, 40, 41, 42, 43, 44, 45]
abbrev c_moraineref04_Name_7 : SCode := .reg [([], [⟨(some 46), none, none, .mov (.tmp 4)⟩, ⟨(some 47), none, none, .un .not (.tmp 46)⟩, ⟨(some 48), none, none, .mov (.tmp 47)⟩, ⟨(some 49), (some (48, true)), none, .mov (.tmp 3)⟩, ⟨(some 50), (some (48, true)), none, .bin .eql 3 (.tmp 49) (.val (.int .i64 0))⟩, ⟨(some 51), (some (48, true)), none, .mov (.tmp 50)⟩, ⟨(some 52), (some (51, false)), none, .mov (.tmp 5)⟩, ⟨(some 53), (some (51, false)), none, .un .not (.tmp 52)⟩, ⟨(some 54), (some (48, true)), none, .pick (.tmp 51) (.val (.bool true)) (.tmp 53)⟩, ⟨(some 55), none, none, .pick (.tmp 48) (.tmp 54) (.val (.bool false))⟩])] [4, 5, 46, 47, 48, 49, 50, 51, 52, 53, 54]
abbrev c_moraineref04_Name_8 : SCode := .reg [([], [⟨(some 2), none, none, .mov (.val (.bool false))⟩])] [0, 3, 55]
abbrev c_moraineref04_Name_9 : SCode := .reg [([], [⟨(some 18), none, none, .mov (.tmp 3)⟩, ⟨(some 19), none, none, .bin .add 3 (.tmp 18) (.val (.int .i64 1))⟩, ⟨(some 3), none, none, .mov (.tmp 19)⟩])] [2, 18, 19, 55]
abbrev c_moraineref04_Name_10 : SCode := (.seq (.seq c_moraineref04_Name_4 (.cond (.tmp 17) .skip (.exit 0))) (.seq (.block 1 (.seq c_moraineref04_Name_5 (.seq c_moraineref04_Name_6 (.seq c_moraineref04_Name_7 (.cond (.tmp 55) (.seq c_moraineref04_Name_8 .ret) .skip))))) c_moraineref04_Name_9))
abbrev c_moraineref04_Name_11 : SCode := .reg [([], [⟨(some 2), none, none, .mov (.val (.bool true))⟩])] [0, 3]
abbrev F_moraineref04_Name : SFunc := ⟨56, (.seq c_moraineref04_Name_0 (.seq (.seq c_moraineref04_Name_1 (.cond (.tmp 13) (.seq c_moraineref04_Name_2 .ret) .skip)) (.seq (.seq c_moraineref04_Name_3 (.block 0 (.loop c_moraineref04_Name_10))) (.seq c_moraineref04_Name_11 .ret)))), [.tmp 2], false⟩
theorem tf_moraineref04_Name : transFunc Go.Proofs.Tryz.prog 197 (hintT []) (fpT []) (killT [(0, [2]), (1, [6, 7, 8, 9, 10, 11, 12]), (2, [0, 13]), (3, [2, 13]), (4, [14, 15, 16]), (6, [17, 20, 21, 22, 23, 24, 25, 26, 27, 28, 29]), (7, [30, 31, 32, 33, 34, 35, 36, 37, 38, 39, 40, 41, 42, 43, 44, 45]), (8, [4, 5, 46, 47, 48, 49, 50, 51, 52, 53, 54]), (9, [0, 3, 55]), (5, [2, 18, 19, 55]), (10, [0, 3])]) false = some F_moraineref04_Name := by kernel_rfl
abbrev c_moraineref05_Binds_0 : SCode := .reg [([], [⟨(some 2), none, none, .mov (.val (.int .i64 0))⟩])] [2]
abbrev c_moraineref05_Binds_1 : SCode := .reg [([], [⟨(some 3), none, none, .mov (.tmp 0)⟩])] [0]
abbrev c_moraineref05_Binds_2 : SCode := .reg [([], [⟨(some 5), none, none, .bin .eql 9 (.tmp 3) (.val (.string ⟨#[42]⟩))⟩, ⟨(some 4), none, none, .mov (.tmp 5)⟩])] [5]
abbrev c_moraineref05_Binds_3 : SCode := .reg [([], [⟨(some 6), none, none, .bin .eql 9 (.tmp 3) (.val (.string ⟨#[47]⟩))⟩, ⟨(some 4), none, none, .mov (.tmp 6)⟩])] [6]
abbrev c_moraineref05_Binds_4 : SCode := .reg [([], [⟨(some 7), none, none, .bin .eql 9 (.tmp 3) (.val (.string ⟨#[37]⟩))⟩, ⟨(some 4), none, none, .mov (.tmp 7)⟩])] [7]
abbrev c_moraineref05_Binds_5 : SCode := .reg [([], [⟨(some 2), none, none, .mov (.val (.int .i64 4))⟩])] [3, 4]
abbrev c_moraineref05_Binds_6 : SCode := .reg [([], [⟨(some 9), none, none, .bin .eql 9 (.tmp 3) (.val (.string ⟨#[43]⟩))⟩, ⟨(some 8), none, none, .mov (.tmp 9)⟩])] [4, 9]
abbrev c_moraineref05_Binds_7 : SCode := .reg [([], [⟨(some 10), none, none, .bin .eql 9 (.tmp 3) (.val (.string ⟨#[45]⟩))⟩, ⟨(some 8), none, none, .mov (.tmp 10)⟩])] [10]
abbrev c_moraineref05_Binds_8 : SCode := .reg [([], [⟨(some 2), none, none, .mov (.val (.int .i64 3))⟩])] [3, 8]
abbrev c_moraineref05_Binds_9 : SCode := .reg [([], [⟨(some 12), none, none, .bin .eql 9 (.tmp 3) (.val (.string ⟨#[38]⟩))⟩, ⟨(some 11), none, none, .mov (.tmp 12)⟩])] [8, 12]
abbrev c_moraineref05_Binds_10 : SCode := .reg [([], [⟨(some 2), none, none, .mov (.val (.int .i64 2))⟩])] [3, 11]
abbrev c_moraineref05_Binds_11 : SCode := .reg [([], [⟨(some 14), none, none, .bin .eql 9 (.tmp 3) (.val (.string ⟨#[61]⟩))⟩, ⟨(some 13), none, none, .mov (.tmp 14)⟩])] [11, 14]
abbrev c_moraineref05_Binds_12 : SCode := .reg [([], [⟨(some 15), none, none, .bin .eql 9 (.tmp 3) (.val (.string ⟨#[60, 62]⟩))⟩, ⟨(some 13), none, none, .mov (.tmp 15)⟩])] [15]
abbrev c_moraineref05_Binds_13 : SCode := .reg [([], [⟨(some 16), none, none, .bin .eql 9 (.tmp 3) (.val (.string ⟨#[60]⟩))⟩, ⟨(some 13), none, none, .mov (.tmp 16)⟩])] [16]
abbrev c_moraineref05_Binds_14 : SCode := .reg [([], [⟨(some 17), none, none, .bin .eql 9 (.tmp 3) (.val (.string ⟨#[60, 61]⟩))⟩, ⟨(some 13), none, none, .mov (.tmp 17)⟩])] [17]
abbrev c_moraineref05_Binds_15 : SCode := .reg [([], [⟨(some 18), none, none, .bin .eql 9 (.tmp 3) (.val (.string ⟨#[62]⟩))⟩, ⟨(some 13), none, none, .mov (.tmp 18)⟩])] [18]
abbrev c_moraineref05_Binds_16 : SCode := .reg [([], [⟨(some 19), none, none, .bin .eql 9 (.tmp 3) (.val (.string ⟨#[62, 61]⟩))⟩, ⟨(some 13), none, none, .mov (.tmp 19)⟩])] [3, 19]
abbrev c_moraineref05_Binds_17 : SCode := .reg [([], [⟨(some 2), none, none, .mov (.val (.int .i64 1))⟩])] [3, 13]
abbrev c_moraineref05_Binds_18 : SCode := .reg [([], [⟨(some 2), none, none, .mov (.val (.int .i64 0))⟩])] [3, 13]
abbrev F_moraineref05_Binds : SFunc := ⟨20, (.seq c_moraineref05_Binds_0 (.seq (.seq c_moraineref05_Binds_1 (.block 0 (.seq (.seq c_moraineref05_Binds_2 (.cond (.tmp 4) .skip (.seq c_moraineref05_Binds_3 (.cond (.tmp 4) .skip c_moraineref05_Binds_4)))) (.cond (.tmp 4) (.seq c_moraineref05_Binds_5 .ret) (.seq (.seq c_moraineref05_Binds_6 (.cond (.tmp 8) .skip c_moraineref05_Binds_7)) (.cond (.tmp 8) (.seq c_moraineref05_Binds_8 .ret) (.seq c_moraineref05_Binds_9 (.cond (.tmp 11) (.seq c_moraineref05_Binds_10 .ret) (.seq (.seq c_moraineref05_Binds_11 (.cond (.tmp 13) .skip (.seq c_moraineref05_Binds_12 (.cond (.tmp 13) .skip (.seq c_moraineref05_Binds_13 (.cond (.tmp 13) .skip (.seq c_moraineref05_Binds_14 (.cond (.tmp 13) .skip (.seq c_moraineref05_Binds_15 (.cond (.tmp 13) .skip c_moraineref05_Binds_16)))))))))) (.cond (.tmp 13) (.seq c_moraineref05_Binds_17 .ret) .skip)))))))))) (.seq c_moraineref05_Binds_18 .ret))), [.tmp 2], false⟩
theorem tf_moraineref05_Binds : transFunc Go.Proofs.Tryz.prog 198 (hintT []) (fpT []) (killT [(0, [2]), (1, [0]), (2, [5]), (3, [6]), (4, [7]), (5, [3, 4]), (6, [4, 9]), (7, [10]), (8, [3, 8]), (9, [8, 12]), (10, [3, 11]), (11, [11, 14]), (12, [15]), (13, [16]), (14, [17]), (15, [18]), (16, [3, 19]), (17, [3, 13]), (18, [3, 13])]) false = some F_moraineref05_Binds := by kernel_rfl
abbrev c_strings_HasPrefix_0 : SCode := .reg [([], [⟨(some 4), none, none, .mov (.val (.bool false))⟩])] [4]
abbrev c_strings_HasPrefix_1 : SCode := .reg [([2028, 2029, 2030, 2031], [⟨(some 5), none, none, .mov (.tmp 0)⟩, ⟨(some 6), none, none, .mov (.tmp 1)⟩, ⟨(some 7), none, none, .call 223 0 [(.tmp 5), (.tmp 6)]⟩, ⟨(some 4), none, none, .mov (.tmp 7)⟩])] [0, 1, 5, 6, 7]
abbrev F_strings_HasPrefix : SFunc := ⟨8, (.seq c_strings_HasPrefix_0 (.seq c_strings_HasPrefix_1 .ret)), [.tmp 4], false⟩
theorem tf_strings_HasPrefix : transFunc Go.Proofs.Tryz.prog 203 (hintT [(7, 0)]) (fpT []) (killT [(0, [4]), (1, [0, 1, 5, 6, 7])]) false = some F_strings_HasPrefix := by kernel_rfl
abbrev c___expr_stream__take_0 : SCode := .reg [([], [⟨(some 4), none, none, .mov (.val (.bool false))⟩])] [4]
abbrev c___expr_stream__take_1 : SCode := .reg [([2028, 2029, 2030, 2031, 5], [⟨(some 6), none, none, .mov (.tmp 0)⟩, ⟨(some 7), none, none, .call 111 1 [(.tmp 6)]⟩, ⟨(some 5), none, none, .new [(.int .i64 0), (.int .i64 0), (.string ⟨#[]⟩), (.int .i64 0)]⟩, ⟨none, none, none, .st 4 (.tmp 5) (.tmp 7)⟩])] [6, 7]
abbrev c___expr_stream__take_2 : SCode := .reg [([], [⟨(some 8), none, none, .fldA 0 (.tmp 5)⟩, ⟨(some 9), none, none, .ld false 1 (.tmp 8)⟩, ⟨(some 10), none, none, .bin .neq 3 (.tmp 9) (.val (.int .i64 4))⟩, ⟨(some 11), none, none, .mov (.tmp 10)⟩, ⟨(some 12), (some (11, false)), none, .fldA 2 (.tmp 5)⟩, ⟨(some 13), (some (11, false)), none, .ld false 1 (.tmp 12)⟩, ⟨(some 14), (some (11, false)), none, .mov (.tmp 1)⟩, ⟨(some 15), (some (11, false)), none, .bin .neq 9 (.tmp 13) (.tmp 14)⟩, ⟨(some 16), none, none, .pick (.tmp 11) (.val (.bool true)) (.tmp 15)⟩])] [1, 5, 8, 9, 10, 11, 12, 13, 14, 15]
abbrev c___expr_stream__take_3 : SCode := .reg [([], [⟨(some 4), none, none, .mov (.val (.bool false))⟩])] [0, 16]
abbrev c___expr_stream__take_4 : SCode := .reg [([], [⟨(some 17), none, none, .mov (.tmp 0)⟩, ⟨(some 18), none, none, .nchk (.tmp 17)⟩, ⟨(some 19), none, none, .fldA 1 (.tmp 18)⟩, ⟨(some 20), none, none, .ld false 1 (.tmp 19)⟩, ⟨(some 21), none, none, .bin .add 3 (.tmp 20) (.val (.int .i64 1))⟩, ⟨(some 22), none, none, .nchk (.tmp 17)⟩, ⟨(some 23), none, none, .fldA 1 (.tmp 22)⟩, ⟨none, none, none, .st 1 (.tmp 23) (.tmp 21)⟩])] [0, 4, 16, 17, 18, 19, 20, 21, 22, 23]
abbrev c___expr_stream__take_5 : SCode := .reg [([], [⟨(some 4), none, none, .mov (.val (.bool true))⟩])] []
abbrev F___expr_stream__take : SFunc := ⟨24, (.seq c___expr_stream__take_0 (.seq (.seq c___expr_stream__take_1 (.seq c___expr_stream__take_2 (.cond (.tmp 16) (.seq c___expr_stream__take_3 .ret) .skip))) (.seq c___expr_stream__take_4 (.seq c___expr_stream__take_5 .ret)))), [.tmp 4], false⟩
theorem tf___expr_stream__take : transFunc Go.Proofs.Tryz.prog 204 (hintT [(7, 1)]) (fpT []) (killT [(0, [4]), (1, [6, 7]), (2, [1, 5, 8, 9, 10, 11, 12, 13, 14, 15]), (3, [0, 16]), (4, [0, 4, 16, 17, 18, 19, 20, 21, 22, 23])]) false = some F___expr_stream__take := by kernel_rfl
abbrev c___expr_stream__need_0 : SCode := .reg [([2024, 2025, 2026, 2027], [⟨(some 4), none, none, .mov (.tmp 0)⟩, ⟨(some 5), none, none, .mov (.tmp 1)⟩, ⟨(some 6), none, none, .call 204 1 [(.tmp 4), (.tmp 5)]⟩, ⟨(some 7), none, none, .un .not (.tmp 6)⟩])] [1, 4, 5, 6]
abbrev c___expr_stream__need_1 : SCode := .regq [([2036, 2037, 2038, 2039], [⟨(some 8), none, none, .mov (.tmp 0)⟩, ⟨(some 9), none, none, .call 111 1 [(.tmp 8)]⟩, ⟨(some 10), none, none, .fld false 3 1 (.tmp 9)⟩, ⟨(some 11), none, none, .mkI 168 (.tmp 10)⟩, ⟨none, none, none, .pan (.tmp 11)⟩])] [0, 7, 8, 9, 10, 11, 9999]
abbrev F___expr_stream__need : SFunc := ⟨12, (.seq c___expr_stream__need_0 (.cond (.tmp 7) c___expr_stream__need_1 .skip)), [], false⟩
theorem tf___expr_stream__need : transFunc Go.Proofs.Tryz.prog 205 (hintT [(6, 1), (9, 1)]) (fpT []) (killT [(0, [1, 4, 5, 6]), (1, [0, 7, 8, 9, 10, 11, 9999])]) false = some F___expr_stream__need := by kernel_rfl
abbrev c___expr_parser__things_0 : SCode := .reg [([], [⟨(some 4), none, none, .mov (.val (.slice none 0 0))⟩])] [4]
abbrev c___expr_parser__things_1 : SCode := .reg [([], [⟨(some 5), none, none, .mov (.val (.slice none 0 0))⟩])] []
abbrev c___expr_parser__things_2 : SCode := .reg [([], [⟨(some 7), none, none, .mov (.tmp 1)⟩, ⟨(some 8), none, none, .mov (.val (.int .i64 0))⟩])] [1]
abbrev c___expr_parser__things_3 : SCode := .reg [([], [⟨(some 9), none, none, .bin .lss 3 (.tmp 8) (.tmp 7)⟩])] []
abbrev c___expr_parser__things_4 : SCode := .reg [([], [⟨(some 10), none, none, .mov (.tmp 8)⟩, ⟨(some 6), none, none, .mov (.tmp 10)⟩])] [9, 10]
abbrev c___expr_parser__things_5 : SCode := .reg [([], [⟨(some 11), none, none, .mov (.tmp 6)⟩, ⟨(some 12), none, none, .bin .gtr 3 (.tmp 11) (.val (.int .i64 0))⟩])] [6, 11]
abbrev c___expr_parser__things_6 : SCode := .regq [([2064, 2065, 2066, 2067], [⟨(some 13), none, none, .mov (.tmp 0)⟩, ⟨(some 14), none, none, .nchk (.tmp 13)⟩, ⟨(some 15), none, none, .fldA 0 (.tmp 14)⟩, ⟨(some 16), none, none, .call 205 3 [(.tmp 15), (.val (.string ⟨#[44]⟩))]⟩])] [12, 13, 14, 15, 16, 9999]
abbrev c___expr_parser__things_7 : SCode := .regq [([2076, 2077, 2078, 2079], [⟨(some 17), none, none, .mov (.tmp 5)⟩, ⟨(some 18), none, none, .mov (.tmp 0)⟩, ⟨(some 19), none, none, .call 110 3 [(.tmp 18), (.val (.int .i64 1))]⟩, ⟨(some 20), none, none, .bsl 4 [(.tmp 19)]⟩, ⟨(some 21), none, none, .app 26 4 56 (.tmp 17) (.tmp 20)⟩, ⟨(some 5), none, none, .mov (.tmp 21)⟩]), ([2076, 2077, 2078, 2079, 21], [⟨(some 17), none, none, .mov (.tmp 5)⟩, ⟨(some 18), none, none, .mov (.tmp 0)⟩, ⟨(some 19), none, none, .call 110 3 [(.tmp 18), (.val (.int .i64 1))]⟩, ⟨(some 20), none, none, .bsl 4 [(.tmp 19)]⟩, ⟨(some 21), none, none, .appN 26 4 56 (.tmp 17) (.tmp 20)⟩, ⟨(some 5), none, none, .mov (.tmp 21)⟩])] [12, 17, 18, 19, 20, 21, 9999]
abbrev c___expr_parser__things_8 : SCode := .reg [([], [⟨(some 22), none, none, .bin .add 3 (.tmp 8) (.val (.int .i64 1))⟩, ⟨(some 8), none, none, .mov (.tmp 22)⟩])] [22]
abbrev c___expr_parser__things_9 : SCode := (.seq c___expr_parser__things_3 (.seq (.cond (.tmp 9) .skip (.exit 0)) (.seq (.block 1 (.seq c___expr_parser__things_4 (.seq (.seq c___expr_parser__things_5 (.cond (.tmp 12) c___expr_parser__things_6 .skip)) c___expr_parser__things_7))) c___expr_parser__things_8)))
abbrev c___expr_parser__things_10 : SCode := .regq [([2104, 2105, 2106, 2107], [⟨(some 23), none, none, .mov (.tmp 0)⟩, ⟨(some 24), none, none, .nchk (.tmp 23)⟩, ⟨(some 25), none, none, .fldA 0 (.tmp 24)⟩, ⟨(some 26), none, none, .call 205 3 [(.tmp 25), (.val (.string ⟨#[41]⟩))]⟩])] [0, 7, 8, 23, 24, 25, 26, 9999]
abbrev c___expr_parser__things_11 : SCode := .reg [([], [⟨(some 27), none, none, .mov (.tmp 5)⟩, ⟨(some 4), none, none, .mov (.tmp 27)⟩])] [5, 27]
abbrev F___expr_parser__things : SFunc := ⟨28, (.seq c___expr_parser__things_0 (.seq c___expr_parser__things_1 (.seq (.seq c___expr_parser__things_2 (.block 0 (.loop c___expr_parser__things_9))) (.seq c___expr_parser__things_10 (.seq c___expr_parser__things_11 .ret))))), [.tmp 4], false⟩
theorem tf___expr_parser__things : transFunc Go.Proofs.Tryz.prog 206 (hintT [(16, 3), (19, 3), (20, 0), (26, 3)]) (fpT []) (killT [(0, [4]), (2, [1]), (4, [9, 10]), (5, [6, 11]), (6, [12, 13, 14, 15, 16, 9999]), (7, [12, 17, 18, 19, 20, 21, 9999]), (8, [22]), (9, [0, 7, 8, 23, 24, 25, 26, 9999]), (10, [5, 27])]) false = some F___expr_parser__things := by kernel_rfl
abbrev c_internal_stringslite_HasPrefix_0 : SCode := .reg [([], [⟨(some 4), none, none, .mov (.val (.bool false))⟩])] [4]
abbrev c_internal_stringslite_HasPrefix_1 : SCode := .reg [([], [⟨(some 5), none, none, .mov (.tmp 0)⟩, ⟨(some 6), none, none, .slen (.tmp 5)⟩, ⟨(some 7), none, none, .mov (.tmp 1)⟩, ⟨(some 8), none, none, .slen (.tmp 7)⟩, ⟨(some 9), none, none, .bin .geq 3 (.tmp 6) (.tmp 8)⟩, ⟨(some 10), none, none, .mov (.tmp 9)⟩, ⟨(some 11), (some (10, true)), none, .mov (.tmp 0)⟩, ⟨(some 12), (some (10, true)), none, .mov (.tmp 1)⟩, ⟨(some 13), (some (10, true)), none, .slen (.tmp 12)⟩, ⟨(some 14), (some (10, true)), none, .ssub (.tmp 11) none (some (.tmp 13))⟩, ⟨(some 15), (some (10, true)), none, .mov (.tmp 1)⟩, ⟨(some 16), (some (10, true)), none, .bin .eql 9 (.tmp 14) (.tmp 15)⟩, ⟨(some 17), none, none, .pick (.tmp 10) (.tmp 16) (.val (.bool false))⟩, ⟨(some 4), none, none, .mov (.tmp 17)⟩])] [0, 1, 5, 6, 7, 8, 9, 10, 11, 12, 13, 14, 15, 16, 17]
abbrev F_internal_stringslite_HasPrefix : SFunc := ⟨18, (.seq c_internal_stringslite_HasPrefix_0 (.seq c_internal_stringslite_HasPrefix_1 .ret)), [.tmp 4], false⟩
theorem tf_internal_stringslite_HasPrefix : transFunc Go.Proofs.Tryz.prog 223 (hintT []) (fpT []) (killT [(0, [4]), (1, [0, 1, 5, 6, 7, 8, 9, 10, 11, 12, 13, 14, 15, 16, 17])]) false = some F_internal_stringslite_HasPrefix := by kernel_rfl
noncomputable def funcs : Nat → Option SFunc
  | 14 => some F_morainelaw05_shown
  | 16 => some F_expr_Print
  | 17 => some F_expr_Parse
  | 18 => some F_expr_Right
  | 19 => some F_expr_Same
  | 60 => some F__expr_printer__text
  | 61 => some F_expr_pieces
  | 63 => some F___expr_checker__right
  | 64 => some F_slices_EqualFunc___api_Expr___api_Expr_api_Expr_api_Expr_
  | 105 => some F__expr_printer__kid
  | 107 => some F_expr_pieces_1
  | 108 => some F_expr_read
  | 112 => some F___expr_checker__node
  | 170 => some F_expr_readNumber
  | 171 => some F_expr_readName
  | 172 => some F_expr_readText
  | 173 => some F_expr_longest
  | 175 => some F_expr_rightText
  | 176 => some F_expr_rightName
  | 177 => some F_expr_takes
  | 203 => some F_strings_HasPrefix
  | 223 => some F_internal_stringslite_HasPrefix
  | _ => none
end Go.Sh.Cd5
end

section
/- Expressions in plain words: what is printed is read, piece by piece. No statement of the program is proved here. -/
namespace Go.Mor
open Go
set_option maxHeartbeats 2000000
abbrev T3 := Int × Int × List UInt8
def er (q : Pc) : T3 := (q.k, q.n, q.s)
def sg (s : List UInt8) : T3 := (4, 0, s)
def kidK (e : V) (least : Int) (t : List T3) : List T3 := if e.k = 4 ∧ bindsV e.s < least then sg [40] :: (t ++ [sg [41]]) else t
def sepK : List (List T3) → List T3
  | [] => []
  | x :: r => x ++ (r.map fun y => sg [44] :: y).flatten
def tokE : Nat → V → List T3
  | 0, _ => []
  | d + 1, e =>
    if e.k = 1 then [(1, e.n, [])]
    else if e.k = 2 then [(2, 0, e.s)]
    else if e.k = 5 then sg [45] :: kidK (e.l.getD 0 V.nil) 5 (tokE d (e.l.getD 0 V.nil))
    else if e.k = 4 then kidK (e.l.getD 0 V.nil) (bindsV e.s) (tokE d (e.l.getD 0 V.nil)) ++ sg e.s :: kidK (e.l.getD 1 V.nil) (bindsV e.s + 1) (tokE d (e.l.getD 1 V.nil))
    else if e.k = 6 then (3, 0, e.s) :: sg [40] :: (sepK (e.l.map (tokE d)) ++ [sg [41]])
    else [(3, 0, e.s)]
def LexP (t : List UInt8) (ts : List T3) (post : List UInt8) : Prop :=
  ∀ (f a : Nat) (acc : List Pc), t.length + post.length < f → ∃ f' L, post.length < f' ∧ L.map er = ts ∧ lexG f (t ++ post) a acc = lexG f' post (a + t.length) (acc ++ L)
theorem LexP.nil (post : List UInt8) : LexP [] [] post := fun f a acc h => ⟨f, [], by simpa using h, rfl, by simp⟩
theorem LexP.app {t1 t2 : List UInt8} {ts1 ts2 : List T3} {post : List UInt8} (h1 : LexP t1 ts1 (t2 ++ post)) (h2 : LexP t2 ts2 post) : LexP (t1 ++ t2) (ts1 ++ ts2) post := by
  intro f a acc hf
  obtain ⟨f1, L1, a1, a2, a3⟩ := h1 f a acc (by simp only [List.length_append] at hf ⊢; omega)
  obtain ⟨f2, L2, b1, b2, b3⟩ := h2 f1 (a + t1.length) (acc ++ L1) (by simpa using a1)
  refine ⟨f2, L1 ++ L2, b1, by rw [List.map_append, a2, b2], ?_⟩
  rw [List.append_assoc, a3, b3, List.append_assoc, List.length_append, Nat.add_assoc]
theorem LexP.blank (post : List UInt8) : LexP [32] [] post := by
  intro f a acc hf
  obtain ⟨f, rfl⟩ : ∃ g, f = g + 1 := ⟨f - 1, by simp at hf; omega⟩
  refine ⟨f, [], by simp at hf; omega, rfl, ?_⟩
  simp [lexG]
theorem LexP.one {t : List UInt8} {q : T3} {post : List UInt8} {b : UInt8} {r : List UInt8} (ht : t = b :: r) (hb : b ≠ 32) (h : ∀ a, ∃ p, readP (t ++ post) a = some (p, t.length) ∧ er p = q) : LexP t [q] post := by
  intro f a acc hf
  obtain ⟨f, rfl⟩ : ∃ g, f = g + 1 := ⟨f - 1, by omega⟩
  obtain ⟨p, h1, h2⟩ := h a
  refine ⟨f, [p], by subst ht; simp at hf; omega, by simp [h2], ?_⟩
  subst ht
  rw [List.cons_append] at h1 ⊢
  rw [lexG]
  simp only [if_neg hb, h1]
  congr 1
  rw [← List.cons_append, List.drop_left' rfl]
def NoWord (l : List UInt8) : Prop := ∀ c r, l = c :: r → nameB c = false
theorem digB_name {b : UInt8} (h : digB b = true) : nameB b = true := by
  unfold digB at h; unfold nameB
  simp only [decide_eq_true_eq] at h
  simp [h]
theorem numG_end {l : List UInt8} (h : NoWord l) (n : Int) (z : Nat) : numG l n z = (n, z) := by
  cases l with
  | nil => rfl
  | cons c r =>
    have hc := h c r rfl
    rw [numG]
    cases hd : digB c with
    | false => simp
    | true => rw [digB_name hd] at hc; cases hc
theorem digC (d : Nat) (hd : d < 10) : (UInt8.ofNat (48 + d)).toNat = 48 + d := by rw [UInt8.toNat_ofNat']; omega
theorem numG_digits : ∀ (m : Nat), m ≤ 1000000000000000 → ∀ (r : List UInt8) (z : Nat), numG (Lib.decDigits m ++ r) 0 z = numG r m (z + (Lib.decDigits m).length) := by
  have step : ∀ (n d : Nat), d < 10 → 10 * n + d ≤ 1000000000000000 → ∀ r z, numG (UInt8.ofNat (48 + d) :: r) n z = numG r ((10 * n + d : Nat) : Int) (z + 1) := by
    intro n d hd hn r z
    rw [numG, if_pos (by unfold digB; rw [digC d hd]; simp; omega), digC d hd]
    congr 1
    omega
  intro m
  induction m using Nat.strongRecOn with
  | _ m ih =>
    intro h1 r z
    by_cases hm : m < 10
    · rw [Lib.decDigits_one hm]
      have := step 0 m hm (by omega) r z
      simpa using this
    · have e0 : Lib.decDigits m = Lib.decDigits (m / 10) ++ [UInt8.ofNat (48 + m % 10)] := by rw [Lib.decDigits, dif_neg hm]
      have e1 := ih (m / 10) (by omega) (by omega) (UInt8.ofNat (48 + m % 10) :: r) z
      have e2 := step (m / 10) (m % 10) (by omega) (by omega) r (z + (Lib.decDigits (m / 10)).length)
      have e3 : 10 * (m / 10) + m % 10 = m := by omega
      rw [e3] at e2
      rw [e0, List.append_assoc, List.singleton_append, e1, e2]
      congr 1
      simp; omega
theorem decDigits_cons (m : Nat) : ∃ c r, Lib.decDigits m = c :: r ∧ digB c = true := by
  induction m using Nat.strongRecOn with
  | _ m ih =>
    by_cases hm : m < 10
    · exact ⟨UInt8.ofNat (48 + m), [], Lib.decDigits_one hm, by unfold digB; rw [digC m hm]; simp; omega⟩
    · obtain ⟨c, r, h1, h2⟩ := ih (m / 10) (by omega)
      exact ⟨c, r ++ [UInt8.ofNat (48 + m % 10)], by rw [Lib.decDigits, dif_neg hm, h1]; rfl, h2⟩
theorem lex_num {n : Int} (h0 : 0 ≤ n) (h1 : n ≤ 1000000000000000) {post : List UInt8} (hp : NoWord post) : LexP (Lib.itoa n) [(1, n, [])] post := by
  obtain ⟨m, rfl⟩ := Int.eq_ofNat_of_zero_le h0
  have hi : Lib.itoa (m : Int) = Lib.decDigits m := by unfold Lib.itoa; simp
  rw [hi]
  obtain ⟨c, r, e1, e2⟩ := decDigits_cons m
  refine LexP.one e1 (by rintro rfl; revert e2; decide) (fun a => ⟨⟨1, m, [], a⟩, ?_, rfl⟩)
  have hg : numG (Lib.decDigits m ++ post) 0 0 = ((m : Int), (Lib.decDigits m).length) := by
    rw [numG_digits m (by omega), numG_end hp, Nat.zero_add]
  rw [e1] at hg ⊢
  rw [List.cons_append] at hg ⊢
  unfold readP
  simp only [e2, if_true, hg]
  rw [if_neg (by omega)]
theorem nameZ_all : ∀ {s post : List UInt8}, s.all nameB = true → NoWord post → nameZ (s ++ post) = s.length
  | [], [], _, _ => rfl
  | [], c :: r, _, hp => by rw [List.nil_append, nameZ, hp c r rfl]; rfl
  | b :: s, post, h, hp => by
    rw [List.all_cons, Bool.and_eq_true] at h
    rw [List.cons_append, nameZ, h.1, if_pos rfl, nameZ_all h.2 hp]; rfl
theorem rightName_cons {s : List UInt8} (h : rightName s = true) : ∃ b r, s = b :: r ∧ small b = true ∧ s.all nameB = true := by
  unfold rightName at h
  simp only [Bool.and_eq_true, decide_eq_true_eq] at h
  obtain ⟨⟨⟨h1, _⟩, h2⟩, h3⟩ := h
  cases s with
  | nil => simp at h1
  | cons b r => exact ⟨b, r, rfl, by simpa using h2, h3⟩
theorem small_dig {b : UInt8} (h : small b = true) : digB b = false ∧ b ≠ 32 := by
  unfold small at h; unfold digB
  simp only [decide_eq_true_eq] at h
  exact ⟨by simp; omega, by rintro rfl; revert h; decide⟩
theorem lex_name {s : List UInt8} (h : rightName s = true) {post : List UInt8} (hp : NoWord post) : LexP s [(3, 0, s)] post := by
  obtain ⟨b, r, e1, e2, e3⟩ := rightName_cons h
  obtain ⟨d1, d2⟩ := small_dig e2
  refine LexP.one e1 d2 (fun a => ⟨⟨3, 0, s, a⟩, ?_, rfl⟩)
  have hz := nameZ_all e3 hp
  have ht : (s ++ post).take s.length = s := List.take_left' rfl
  rw [e1] at hz ht h ⊢
  rw [List.cons_append] at hz ht ⊢
  unfold readP
  simp only [d1, e2, Bool.false_eq_true, if_false, if_true, hz, ht, h]
theorem quoG_34 (post acc : List UInt8) (k : Nat) : quoG (34 :: post) acc k = if rightText acc then some (acc, k + 1) else none := by
  rw [quoG.eq_def]; rfl
theorem quoG_92 (c : UInt8) (r acc : List UInt8) (k : Nat) : quoG (92 :: c :: r) acc k = if c = 34 ∨ c = 92 then quoG r (acc ++ [c]) (k + 2) else none := by
  rw [quoG.eq_def]; rfl
theorem quoG_c {b : UInt8} (h1 : b ≠ 34) (h2 : b ≠ 92) (r acc : List UInt8) (k : Nat) : quoG (b :: r) acc k = quoG r (acc ++ [b]) (k + 1) := by
  rw [quoG.eq_def]; simp only [if_neg h1, if_neg h2]
theorem quoG_esc : ∀ (s acc : List UInt8) (k : Nat) (post : List UInt8), rightText (acc ++ s) = true → quoG (qesc s ++ 34 :: post) acc k = some (acc ++ s, k + (qesc s).length + 1)
  | [], acc, k, post, h => by
    rw [List.append_nil] at h
    simp [qesc, quoG_34, h]
  | b :: s, acc, k, post, h => by
    have e1 : acc ++ b :: s = (acc ++ [b]) ++ s := by simp
    rw [e1] at h
    by_cases hb : b = 34 ∨ b = 92
    · have e2 : qesc (b :: s) = 92 :: b :: qesc s := by simp [qesc, hb]
      rw [e2, List.cons_append, List.cons_append, quoG_92, if_pos hb, quoG_esc s _ _ _ h, e1]
      simp only [List.length_cons]
      congr 2; omega
    · have e2 : qesc (b :: s) = b :: qesc s := by simp [qesc, hb]
      rw [not_or] at hb
      rw [e2, List.cons_append, quoG_c hb.1 hb.2, quoG_esc s _ _ _ h, e1]
      simp only [List.length_cons]
      congr 2; omega
theorem lex_text {s : List UInt8} (h : rightText s = true) (post : List UInt8) : LexP (34 :: (qesc s ++ [34])) [(2, 0, s)] post := by
  refine LexP.one rfl (by decide) (fun a => ⟨⟨2, 0, s, a⟩, ?_, rfl⟩)
  have hq := quoG_esc s [] 1 post (by simpa using h)
  rw [List.nil_append] at hq
  rw [List.cons_append, List.append_assoc, List.singleton_append]
  unfold readP
  simp only [show digB 34 = false by decide, show small 34 = false by decide, Bool.false_eq_true, if_false, if_true, hq]
  congr 2
  simp; omega
theorem lex_sign1 {b : UInt8} (h : b = 40 ∨ b = 41 ∨ b = 44 ∨ b = 45) (post : List UInt8) : LexP [b] [sg [b]] post := by
  refine LexP.one rfl (by rcases h with rfl | rfl | rfl | rfl <;> decide) (fun a => ⟨⟨4, 0, [b], a⟩, ?_, rfl⟩)
  rcases h with rfl | rfl | rfl | rfl <;> rfl
theorem binds_cases {s : List UInt8} (h : 0 < bindsV s) : s = [42] ∨ s = [47] ∨ s = [37] ∨ s = [43] ∨ s = [45] ∨ s = [38] ∨ s = [61] ∨ s = [60, 62] ∨ s = [60] ∨ s = [60, 61] ∨ s = [62] ∨ s = [62, 61] := by
  unfold bindsV at h
  split at h
  · rename_i h1; rcases h1 with h1 | h1 | h1 <;> simp [h1]
  split at h
  · rename_i h1; rcases h1 with h1 | h1 <;> simp [h1]
  split at h
  · rename_i h1; simp [h1]
  split at h
  · rename_i h1; rcases h1 with h1 | h1 | h1 | h1 | h1 | h1 <;> simp [h1]
  · omega
theorem lex_op {s : List UInt8} (h : 0 < bindsV s) (post : List UInt8) : LexP s [sg s] (32 :: post) := by
  have hs := binds_cases h
  rcases hs with rfl | rfl | rfl | rfl | rfl | rfl | rfl | rfl | rfl | rfl | rfl | rfl <;>
    exact LexP.one rfl (by decide) (fun a => ⟨⟨4, 0, _, a⟩, rfl, rfl⟩)
def StopT (l : List UInt8) : Prop := ∀ c r, l = c :: r → c = 32 ∨ c = 41 ∨ c = 44
theorem StopT.word {l : List UInt8} (h : StopT l) : NoWord l := by
  intro c r e
  rcases h c r e with rfl | rfl | rfl <;> decide
theorem stop32 (l : List UInt8) : StopT (32 :: l) := by intro c r e; cases e; exact .inl rfl
theorem stop41 (l : List UInt8) : StopT (41 :: l) := by intro c r e; cases e; exact .inr (.inl rfl)
theorem stop44 (l : List UInt8) : StopT (44 :: l) := by intro c r e; cases e; exact .inr (.inr rfl)
theorem stop0 : StopT [] := by intro c r e; cases e
theorem word40 (l : List UInt8) : NoWord (40 :: l) := by intro c r e; cases e; decide
theorem lex_kid {e : V} {least : Int} {t : List UInt8} {ts : List T3} (h : ∀ post, StopT post → LexP t ts post) (post : List UInt8) (hp : StopT post) : LexP (kidT e least t) (kidK e least ts) post := by
  unfold kidT kidK
  split
  · have h1 := lex_sign1 (b := 40) (by simp) (t ++ ([41] ++ post))
    have h2 := h ([41] ++ post) (stop41 _)
    have h3 := lex_sign1 (b := 41) (by simp) post
    have := LexP.app (t2 := t ++ [41]) (by simpa using h1) (h2.app h3)
    simpa [brk] using this
  · exact h post hp
theorem takes_name {s : List UInt8} (h : 0 < takesV s) : rightName s = true := by
  unfold takesV at h
  split at h
  · rename_i h1; rcases h1 with rfl | rfl | rfl <;> decide
  split at h
  · rename_i h1; rcases h1 with rfl | rfl | rfl | rfl | rfl | rfl <;> decide
  split at h
  · rename_i h1; subst h1; decide
  · omega
theorem ok_kids {d : Nat} {e : V} (h : okE (d + 1) e = true) : nodeE e = true ∧ ∀ x ∈ e.l, okE d x = true := by
  rw [okE, Bool.and_eq_true] at h
  exact ⟨h.1, fun x hx => List.all_eq_true.1 h.2 x hx⟩
theorem node1 {e : V} (h : nodeE e = true) (hk : e.k = 1) : 0 ≤ e.n ∧ e.n ≤ 1000000000000000 ∧ e.s = [] ∧ e.l = [] := by
  unfold nodeE at h
  rw [if_neg (by simp [hk]), if_pos hk] at h
  simp only [Bool.and_eq_true, decide_eq_true_eq, beq_iff_eq, List.length_eq_zero_iff] at h
  exact ⟨h.1.1.1, h.1.1.2, h.1.2, h.2⟩
theorem node0 {e : V} (h : nodeE e = true) (hk : e.k ≠ 1) : e.n = 0 := by
  unfold nodeE at h
  split at h
  · cases h
  · rename_i hh; simpa [hk] using hh
theorem node2 {e : V} (h : nodeE e = true) (hk : e.k = 2) : e.n = 0 ∧ rightText e.s = true ∧ e.l = [] := by
  have h0 := node0 h (by omega)
  unfold nodeE at h
  rw [if_neg (by simp [h0]), if_neg (by omega), if_pos hk] at h
  simp only [Bool.and_eq_true, beq_iff_eq, List.length_eq_zero_iff] at h
  exact ⟨h0, h⟩
theorem node3 {e : V} (h : nodeE e = true) (hk : e.k = 3) : e.n = 0 ∧ rightName e.s = true ∧ e.l = [] := by
  have h0 := node0 h (by omega)
  unfold nodeE at h
  rw [if_neg (by simp [h0]), if_neg (by omega), if_neg (by omega), if_pos hk] at h
  simp only [Bool.and_eq_true, beq_iff_eq, List.length_eq_zero_iff] at h
  exact ⟨h0, h⟩
theorem node4 {e : V} (h : nodeE e = true) (hk : e.k = 4) : e.n = 0 ∧ 0 < bindsV e.s ∧ ∃ a b, e.l = [a, b] := by
  have h0 := node0 h (by omega)
  unfold nodeE at h
  rw [if_neg (by simp [h0]), if_neg (by omega), if_neg (by omega), if_neg (by omega), if_pos hk] at h
  simp only [Bool.and_eq_true, decide_eq_true_eq, beq_iff_eq] at h
  refine ⟨h0, h.1, ?_⟩
  match hl : e.l, h.2 with
  | [a, b], _ => exact ⟨a, b, rfl⟩
theorem node5 {e : V} (h : nodeE e = true) (hk : e.k = 5) : e.n = 0 ∧ e.s = [45] ∧ ∃ a, e.l = [a] := by
  have h0 := node0 h (by omega)
  unfold nodeE at h
  rw [if_neg (by simp [h0]), if_neg (by omega), if_neg (by omega), if_neg (by omega), if_neg (by omega), if_pos hk] at h
  simp only [Bool.and_eq_true, beq_iff_eq] at h
  refine ⟨h0, h.1, ?_⟩
  match hl : e.l, h.2 with
  | [a], _ => exact ⟨a, rfl⟩
theorem node6 {e : V} (h : nodeE e = true) (hk : e.k = 6) : e.n = 0 ∧ 0 < takesV e.s ∧ (e.l.length : Int) = takesV e.s := by
  have h0 := node0 h (by omega)
  unfold nodeE at h
  rw [if_neg (by simp [h0]), if_neg (by omega), if_neg (by omega), if_neg (by omega), if_neg (by omega), if_neg (by omega), if_pos hk] at h
  simp only [Bool.and_eq_true, decide_eq_true_eq] at h
  exact ⟨h0, h⟩
theorem node_kind {e : V} (h : nodeE e = true) : e.k = 1 ∨ e.k = 2 ∨ e.k = 3 ∨ e.k = 4 ∨ e.k = 5 ∨ e.k = 6 := by
  unfold nodeE at h
  split at h
  · cases h
  repeat (split at h; · simp [*])
  cases h
theorem lex_sep {d : Nat} (hd : ∀ e, okE d e = true → ∀ post, StopT post → LexP (txtE d e) (tokE d e) post) : ∀ (l : List V), (∀ x ∈ l, okE d x = true) → ∀ post, StopT post → LexP ((l.map fun y => [44, 32] ++ txtE d y).flatten) ((l.map fun y => sg [44] :: tokE d y).flatten) post
  | [], _, post, _ => by simpa using LexP.nil post
  | y :: l, hl, post, hp => by
    have ih := lex_sep hd l (fun x hx => hl x (List.mem_cons_of_mem _ hx)) post hp
    have hst : StopT ((l.map fun y => [44, 32] ++ txtE d y).flatten ++ post) := by
      cases l with
      | nil => simpa using hp
      | cons z l => simpa using stop44 _
    have h1 := hd y (hl y (List.mem_cons_self ..)) _ hst
    have h2 := LexP.blank (txtE d y ++ ((l.map fun y => [44, 32] ++ txtE d y).flatten ++ post))
    have h3 := lex_sign1 (b := 44) (by simp) ([32] ++ (txtE d y ++ ((l.map fun y => [44, 32] ++ txtE d y).flatten ++ post)))
    have := LexP.app (t2 := [32] ++ (txtE d y ++ (l.map fun y => [44, 32] ++ txtE d y).flatten)) (by simpa using h3) (LexP.app (t2 := txtE d y ++ (l.map fun y => [44, 32] ++ txtE d y).flatten) (by simpa using h2) (h1.app ih))
    simpa using this
theorem lex_tree : ∀ (d : Nat) (e : V), okE d e = true → ∀ post, StopT post → LexP (txtE d e) (tokE d e) post
  | 0, e, h, _, _ => by cases h
  | d + 1, e, h, post, hp => by
    obtain ⟨hn, hk⟩ := ok_kids h
    have ih := lex_tree d
    unfold txtE tokE
    rcases node_kind hn with k | k | k | k | k | k
    · obtain ⟨h1, h2, _, _⟩ := node1 hn k
      simp only [k, if_true]
      exact lex_num h1 h2 hp.word
    · obtain ⟨_, h2, _⟩ := node2 hn k
      simp only [k, Int.reduceEq, if_false, if_true]
      exact lex_text h2 post
    · obtain ⟨_, h2, _⟩ := node3 hn k
      simp only [k, Int.reduceEq, if_false]
      exact lex_name h2 hp.word
    · obtain ⟨_, h2, a, b, hl⟩ := node4 hn k
      simp only [k, Int.reduceEq, if_false, if_true, hl, List.getD_cons_zero, List.getD_cons_succ]
      have ha := hk a (by simp [hl])
      have hb := hk b (by simp [hl])
      have q1 := lex_kid (e := a) (least := bindsV e.s) (ih a ha) (32 :: (e.s ++ 32 :: (kidT b (bindsV e.s + 1) (txtE d b) ++ post))) (stop32 _)
      have q2 := LexP.blank (e.s ++ 32 :: (kidT b (bindsV e.s + 1) (txtE d b) ++ post))
      have q3 := lex_op h2 (kidT b (bindsV e.s + 1) (txtE d b) ++ post)
      have q4 := LexP.blank (kidT b (bindsV e.s + 1) (txtE d b) ++ post)
      have q5 := lex_kid (e := b) (least := bindsV e.s + 1) (ih b hb) post hp
      have r4 := LexP.app q4 q5
      have r3 := LexP.app (t2 := [32] ++ kidT b (bindsV e.s + 1) (txtE d b)) (by simpa using q3) r4
      have r2 := LexP.app (t2 := e.s ++ ([32] ++ kidT b (bindsV e.s + 1) (txtE d b))) (by simpa using q2) r3
      have r1 := LexP.app (t2 := [32] ++ (e.s ++ ([32] ++ kidT b (bindsV e.s + 1) (txtE d b)))) (by simpa using q1) r2
      simpa using r1
    · obtain ⟨_, h2, a, hl⟩ := node5 hn k
      simp only [k, Int.reduceEq, if_false, if_true, hl, List.getD_cons_zero]
      have ha := hk a (by simp [hl])
      have q1 := lex_kid (e := a) (least := 5) (ih a ha) post hp
      have q0 := lex_sign1 (b := 45) (by simp) (kidT a 5 (txtE d a) ++ post)
      have := LexP.app (by simpa using q0) q1
      simpa using this
    · obtain ⟨_, h2, hl⟩ := node6 hn k
      simp only [k, Int.reduceEq, if_false, if_true]
      obtain ⟨y, l, hyl⟩ : ∃ y l, e.l = y :: l := by
        cases hh : e.l with
        | nil => rw [hh] at hl; simp at hl; omega
        | cons y l => exact ⟨y, l, rfl⟩
      rw [hyl, List.map_cons, List.map_cons, Lib.join_cons, sepK]
      unfold Lib.joinTail
      rw [List.map_map, List.map_map]
      have hks : ∀ x ∈ l, okE d x = true := fun x hx => hk x (by rw [hyl]; exact List.mem_cons_of_mem _ hx)
      have hy := hk y (by rw [hyl]; exact List.mem_cons_self ..)
      have s1 := lex_sign1 (b := 41) (by simp) post
      have s2 := lex_sep ih l hks ([41] ++ post) (stop41 _)
      have hst : StopT ((l.map fun y => [44, 32] ++ txtE d y).flatten ++ ([41] ++ post)) := by
        cases l with
        | nil => simpa using stop41 _
        | cons z l => simpa using stop44 _
      have s3 := ih y hy _ hst
      have s4 := lex_sign1 (b := 40) (by simp) (txtE d y ++ ((l.map fun y => [44, 32] ++ txtE d y).flatten ++ ([41] ++ post)))
      have s5 := lex_name (takes_name h2) (word40 (txtE d y ++ ((l.map fun y => [44, 32] ++ txtE d y).flatten ++ ([41] ++ post))))
      have r1 := LexP.app s2 s1
      have r2 := LexP.app (t2 := (l.map fun y => [44, 32] ++ txtE d y).flatten ++ [41]) (by simpa using s3) r1
      have r3 := LexP.app (t2 := txtE d y ++ ((l.map fun y => [44, 32] ++ txtE d y).flatten ++ [41])) (by simpa using s4) r2
      have r4 := LexP.app (t2 := [40] ++ (txtE d y ++ ((l.map fun y => [44, 32] ++ txtE d y).flatten ++ [41]))) (by simpa using s5) r3
      simpa [Function.comp_def] using r4
end Go.Mor
end

section
/- Expressions in plain words: the pieces of a tree are parsed as that tree. No statement of the program is proved here. -/
namespace Go.Mor
open Go
set_option maxHeartbeats 2000000
section
variable {L : List Pc} {sz p : Nat} {t : T3} {ts r post : List T3}
theorem pk_cons (h : (L.drop p).map er = t :: r) : er (pkP L sz p) = t ∧ (L.drop (p + 1)).map er = r := by
  cases hd : L.drop p with
  | nil => rw [hd] at h; cases h
  | cons q l =>
    rw [hd, List.map_cons] at h
    injection h with h1 h2
    have hq : L[p]? = some q := by
      have := congrArg (·[0]?) hd
      simpa using this
    refine ⟨by simp [pkP, hq, h1], ?_⟩
    have : L.drop (p + 1) = l := by
      have := congrArg (List.drop 1) hd
      simpa [List.drop_drop, Nat.add_comm] using this
    rw [this]; exact h2
theorem pk_nil (h : (L.drop p).map er = []) : pkP L sz p = ⟨0, 0, [], sz⟩ := by
  have h1 : L.drop p = [] := by simpa using h
  have h2 : L.length ≤ p := by simpa using h1
  simp [pkP, List.getElem?_eq_none h2]
theorem drop_len (h : (L.drop p).map er = ts ++ r) : (L.drop (p + ts.length)).map er = r := by
  have := congrArg (List.drop ts.length) h
  simpa [← List.map_drop, List.drop_drop] using this
theorem er_k {q : Pc} (h : er q = t) : q.k = t.1 ∧ q.n = t.2.1 ∧ q.s = t.2.2 := by subst h; exact ⟨rfl, rfl, rfl⟩
theorem isSg_er {q : Pc} (h : er q = t) (s : List UInt8) : isSg q s = (t.1 == 4 && t.2.2 == s) := by subst h; rfl
end
def NP (post : List T3) : Prop := ∀ t r, post = t :: r → t.1 = 4 ∧ t.2.2 ≠ [40]
def StopK (least : Int) (post : List T3) : Prop := ∀ t r, post = t :: r → t.1 = 4 → bindsV t.2.2 < least
theorem np_sg {s : List UInt8} (h : s ≠ [40]) (r : List T3) : NP (sg s :: r) := by intro t r e; cases e; exact ⟨rfl, h⟩
theorem stopK_sg {s : List UInt8} {m : Int} (h : bindsV s < m) (r : List T3) : StopK m (sg s :: r) := by intro t r e _; cases e; exact h
theorem np_nil : NP [] := by intro t r e; cases e
theorem stopK_nil (m : Int) : StopK m [] := by intro t r e; cases e
theorem binds_ne {s : List UInt8} (h : 0 < bindsV s) : s ≠ [40] := by rintro rfl; revert h; decide
def PT (d : Nat) : Prop := ∀ e, okE d e = true → e.k ≠ 4 → ∀ (L : List Pc) (sz p : Nat) (post : List T3), (L.drop p).map er = tokE d e ++ post → NP post → ∃ F, ∀ f, F ≤ f → pT L sz f p = some (.ok e (p + (tokE d e).length))
def PC (d : Nat) : Prop := ∀ e, okE d e = true → ∀ (least : Int) (L : List Pc) (sz p : Nat) (post : List T3), (L.drop p).map er = tokE d e ++ post → NP post → (e.k = 4 → least ≤ bindsV e.s ∧ StopK (bindsV e.s + 1) post) →
  ∃ F j, ∀ f, F ≤ f → pE L sz (f + j) least p = pL L sz f least e (p + (tokE d e).length)
def PK (d : Nat) : Prop := ∀ e, okE d e = true → ∀ (m least : Int), least ≤ m → ∀ (L : List Pc) (sz p : Nat) (post : List T3), (L.drop p).map er = kidK e m (tokE d e) ++ post → NP post → (e.k = 4 → m ≤ bindsV e.s → StopK (bindsV e.s + 1) post) →
  ∃ F j, ∀ f, F ≤ f → pE L sz (f + j) least p = pL L sz f least e (p + (kidK e m (tokE d e)).length)
def PD (d : Nat) : Prop := ∀ e, okE d e = true → ∀ (m : Int) (L : List Pc) (sz p : Nat) (post : List T3), (L.drop p).map er = kidK e m (tokE d e) ++ post → NP post → StopK m post →
  ∃ F, ∀ f, F ≤ f → pE L sz f m p = some (.ok e (p + (kidK e m (tokE d e)).length))
theorem pL_stop {L : List Pc} {sz p : Nat} {post : List T3} {m : Int} {e : V} (h : (L.drop p).map er = post) (hs : StopK m post) (f : Nat) : pL L sz (f + 1) m e p = some (.ok e p) := by
  rw [pL, if_pos]
  cases post with
  | nil => rw [pk_nil h]; simp
  | cons t r =>
    obtain ⟨h1, h2, h3⟩ := er_k (pk_cons (sz := sz) h).1
    rw [h1, h3]
    by_cases hk : t.1 = 4
    · exact .inr (hs t r rfl hk)
    · exact .inl hk
theorem pd_of {d : Nat} (hk : PK d) : PD d := by
  intro e he m L sz p post h hnp hst
  obtain ⟨F, j, hF⟩ := hk e he m m (Int.le_refl _) L sz p post h hnp (fun h4 hm t r e1 e2 => by have := hst t r e1 e2; omega)
  refine ⟨F + 1 + j, fun f hf => ?_⟩
  obtain ⟨g, rfl⟩ : ∃ g, f = g + 1 + j := ⟨f - 1 - j, by omega⟩
  rw [hF (g + 1) (by omega)]
  exact pL_stop (drop_len h) hst g
theorem b41 : bindsV [41] = 0 := by decide
theorem pk_of {d : Nat} (hc : PC d) : PK d := by
  intro e he m least hle L sz p post h hnp hst
  unfold kidK at h ⊢
  by_cases hb : e.k = 4 ∧ bindsV e.s < m
  · rw [if_pos hb] at h ⊢
    have hn := (by cases d with | zero => cases he | succ d => exact (ok_kids he).1 : nodeE e = true)
    obtain ⟨_, hb0, _⟩ := node4 hn hb.1
    rw [List.cons_append] at h
    obtain ⟨h1, h2⟩ := pk_cons (sz := sz) h
    rw [List.append_assoc, List.singleton_append] at h2
    obtain ⟨F, j, hF⟩ := hc e he 1 L sz (p + 1) (sg [41] :: post) h2 (np_sg (by decide) _) (fun _ => ⟨by omega, stopK_sg (by rw [b41]; omega) _⟩)
    have h3 := drop_len h2
    obtain ⟨h4, h5⟩ := pk_cons (sz := sz) h3
    have hT : ∀ f, F + j + 2 ≤ f → pT L sz f p = some (.ok e (p + (sg [40] :: (tokE d e ++ [sg [41]])).length)) := by
      intro f hf
      obtain ⟨g, rfl⟩ : ∃ g, f = g + 1 + j + 1 := ⟨f - j - 2, by omega⟩
      rw [pT, isSg_er h1, show ((sg [40]).1 == 4 && (sg [40]).2.2 == [40]) = true from rfl, if_pos rfl, hF (g + 1) (by omega),
        pL_stop h3 (stopK_sg (by decide) _) g]
      simp only
      rw [isSg_er h4, show ((sg [41]).1 == 4 && (sg [41]).2.2 == [41]) = true from rfl, if_pos rfl]
      simp only [List.length_cons, List.length_append, List.length_nil]
      congr 2; omega
    refine ⟨F + j + 2, 1, fun f hf => ?_⟩
    rw [pE, hT f hf]
  · rw [if_neg hb] at h ⊢
    exact hc e he least L sz p post h hnp (fun h4 => by
      have : m ≤ bindsV e.s := by
        have : ¬ bindsV e.s < m := fun hlt => hb ⟨h4, hlt⟩
        omega
      exact ⟨by omega, hst h4 this⟩)
theorem kidK_1 {d : Nat} {e : V} (he : okE d e = true) (ts : List T3) : kidK e 1 ts = ts := by
  cases d with
  | zero => cases he
  | succ d =>
    unfold kidK
    rw [if_neg]
    rintro ⟨h4, hb⟩
    obtain ⟨_, h0, _⟩ := node4 (ok_kids he).1 h4
    omega
theorem pH_tail {d : Nat} (hd : PD d) (n : Nat) (L : List Pc) (sz : Nat) (post : List T3) : ∀ (l : List V), (∀ x ∈ l, okE d x = true) → ∀ (acc : List V) (p : Nat), 0 < acc.length → acc.length + l.length = n → (L.drop p).map er = (l.map fun y => sg [44] :: tokE d y).flatten ++ (sg [41] :: post) →
    ∃ F, ∀ f, F ≤ f → pH L sz f n acc.length p acc = some (.ok (acc ++ l) (p + ((l.map fun y => sg [44] :: tokE d y).flatten).length + 1))
  | [], _, acc, p, h0, hn, h => by
    rw [List.map_nil, List.flatten_nil, List.nil_append] at h
    obtain ⟨h1, _⟩ := pk_cons (sz := sz) h
    refine ⟨1, fun f hf => ?_⟩
    obtain ⟨g, rfl⟩ : ∃ g, f = g + 1 := ⟨f - 1, by omega⟩
    rw [pH, if_neg (by simp at hn; omega), isSg_er h1, show ((sg [41]).1 == 4 && (sg [41]).2.2 == [41]) = true from rfl, if_pos rfl]
    simp
  | y :: l, hl, acc, p, h0, hn, h => by
    rw [List.map_cons, List.flatten_cons, List.append_assoc, List.cons_append] at h
    obtain ⟨h1, h2⟩ := pk_cons (sz := sz) h
    have hy := hl y (List.mem_cons_self ..)
    have hp : NP ((l.map fun y => sg [44] :: tokE d y).flatten ++ (sg [41] :: post)) ∧ StopK 1 ((l.map fun y => sg [44] :: tokE d y).flatten ++ (sg [41] :: post)) := by
      cases l with
      | nil => exact ⟨np_sg (by decide) _, stopK_sg (by decide) _⟩
      | cons z l => exact ⟨np_sg (by decide) _, stopK_sg (by decide) _⟩
    obtain ⟨F1, hF1⟩ := hd y hy 1 L sz (p + 1) _ (by rw [kidK_1 hy]; exact h2) hp.1 hp.2
    rw [kidK_1 hy] at hF1
    have h3 := drop_len h2
    obtain ⟨F2, hF2⟩ := pH_tail hd n L sz post l (fun x hx => hl x (List.mem_cons_of_mem _ hx)) (acc ++ [y]) (p + 1 + (tokE d y).length) (by simp) (by simp at hn ⊢; omega) h3
    refine ⟨F1 + F2 + 1, fun f hf => ?_⟩
    obtain ⟨g, rfl⟩ : ∃ g, f = g + 1 := ⟨f - 1, by omega⟩
    rw [pH, if_pos (by simp at hn; omega), isSg_er h1, show ((sg [44]).1 == 4 && (sg [44]).2.2 == [44]) = true from rfl, if_neg (by simp), if_pos h0, hF1 g (by omega)]
    simp only
    have := hF2 g (by omega)
    rw [List.length_append, List.length_singleton] at this
    rw [this]
    simp only [List.map_cons, List.flatten_cons, List.length_append, List.length_cons, List.append_assoc, List.singleton_append]
    congr 2; omega
theorem pt_of {d : Nat} (hd : PD d) : PT (d + 1) := by
  intro e he h4 L sz p post h hnp
  obtain ⟨hn, hk⟩ := ok_kids he
  have heta := V.eta e
  unfold tokE at h ⊢
  rcases node_kind hn with k | k | k | k | k | k
  · obtain ⟨_, _, hs, hl⟩ := node1 hn k
    simp only [k, if_true] at h ⊢
    obtain ⟨h1, _⟩ := pk_cons (sz := sz) h
    obtain ⟨q1, q2, q3⟩ := er_k h1
    refine ⟨1, fun f hf => ?_⟩
    obtain ⟨g, rfl⟩ : ∃ g, f = g + 1 := ⟨f - 1, by omega⟩
    rw [pT, isSg_er h1, isSg_er h1, q1, q2]
    simp only [Int.reduceBEq, Bool.false_and, Bool.false_eq_true, if_false, if_true]
    rw [k, hs, hl] at heta
    rw [heta]; rfl
  · obtain ⟨hn0, _, hl⟩ := node2 hn k
    simp only [k, Int.reduceEq, if_false, if_true] at h ⊢
    obtain ⟨h1, _⟩ := pk_cons (sz := sz) h
    obtain ⟨q1, q2, q3⟩ := er_k h1
    refine ⟨1, fun f hf => ?_⟩
    obtain ⟨g, rfl⟩ : ∃ g, f = g + 1 := ⟨f - 1, by omega⟩
    rw [pT, isSg_er h1, isSg_er h1, q1, q3]
    simp only [Int.reduceBEq, Bool.false_and, Bool.false_eq_true, if_false, Int.reduceEq, if_true]
    rw [k, hn0, hl] at heta
    rw [heta]; rfl
  · obtain ⟨hn0, _, hl⟩ := node3 hn k
    simp only [k, Int.reduceEq, if_false] at h ⊢
    obtain ⟨h1, h2⟩ := pk_cons (sz := sz) h
    obtain ⟨q1, q2, q3⟩ := er_k h1
    have hne : isSg (pkP L sz (p + 1)) [40] = false := by
      cases post with
      | nil => rw [pk_nil h2]; rfl
      | cons t r =>
        obtain ⟨h3, _⟩ := pk_cons (sz := sz) h2
        rw [isSg_er h3]
        have := (hnp t r rfl).2
        simp [this]
    refine ⟨1, fun f hf => ?_⟩
    obtain ⟨g, rfl⟩ : ∃ g, f = g + 1 := ⟨f - 1, by omega⟩
    rw [pT, isSg_er h1, isSg_er h1, q1, q3, hne]
    simp only [Int.reduceBEq, Bool.false_and, Bool.false_eq_true, if_false, Int.reduceEq, and_false, if_true]
    rw [k, hn0, hl] at heta
    rw [heta]; rfl
  · exact absurd k h4
  · obtain ⟨hn0, hs, a, hl⟩ := node5 hn k
    simp only [k, Int.reduceEq, if_false, if_true, hl, List.getD_cons_zero] at h ⊢
    rw [List.cons_append] at h
    obtain ⟨h1, h2⟩ := pk_cons (sz := sz) h
    have ha := hk a (by simp [hl])
    have ht : ∃ F, ∀ f, F ≤ f → pT L sz f (p + 1) = some (.ok a (p + 1 + (kidK a 5 (tokE d a)).length)) := by
      -- what stands ahead is tight: read as an expression that binds more than any operator
      obtain ⟨F, hF⟩ := hd a ha 5 L sz (p + 1) post h2 hnp (fun t r e1 e2 => by
        have : bindsV t.2.2 ≤ 4 := by unfold bindsV; repeat' split
                                      all_goals omega
        omega)
      refine ⟨F + 1, fun f hf => ?_⟩
      have h5 := hF (f + 1) (by omega)
      rw [pE] at h5
      cases hp : pT L sz f (p + 1) with
      | none => rw [hp] at h5; cases h5
      | some q =>
        rw [hp] at h5
        cases q with
        | bad x y => cases h5
        | ok e' p' =>
          simp only at h5
          obtain ⟨g, rfl⟩ : ∃ g, f = g + 1 := ⟨f - 1, by omega⟩
          rw [pL, if_pos] at h5
          · exact h5
          · by_cases hk4 : (pkP L sz p').k = 4
            · right
              unfold bindsV; repeat' split
              all_goals omega
            · exact .inl hk4
    obtain ⟨F, hF⟩ := ht
    refine ⟨F + 1, fun f hf => ?_⟩
    obtain ⟨g, rfl⟩ : ∃ g, f = g + 1 := ⟨f - 1, by omega⟩
    rw [pT, isSg_er h1, isSg_er h1, show ((sg [45]).1 == 4 && (sg [45]).2.2 == [40]) = false from rfl, show ((sg [45]).1 == 4 && (sg [45]).2.2 == [45]) = true from rfl, if_neg (by simp), if_pos rfl, hF g (by omega)]
    simp only
    rw [k, hn0, hs, hl] at heta
    rw [heta]
    simp only [List.length_cons]
    congr 2; omega
  · obtain ⟨hn0, ht, hl⟩ := node6 hn k
    simp only [k, Int.reduceEq, if_false, if_true] at h ⊢
    obtain ⟨y, l, hyl⟩ : ∃ y l, e.l = y :: l := by
      cases hh : e.l with
      | nil => rw [hh] at hl; simp at hl; omega
      | cons y l => exact ⟨y, l, rfl⟩
    have hy := hk y (by rw [hyl]; exact List.mem_cons_self ..)
    have hks : ∀ x ∈ l, okE d x = true := fun x hx => hk x (by rw [hyl]; exact List.mem_cons_of_mem _ hx)
    rw [hyl, List.map_cons, sepK, List.map_map] at h ⊢
    rw [List.cons_append, List.cons_append, List.append_assoc, List.append_assoc] at h
    obtain ⟨h1, h2⟩ := pk_cons (sz := sz) h
    obtain ⟨q1, q2, q3⟩ := er_k h1
    obtain ⟨h3, h5⟩ := pk_cons (sz := sz) h2
    have hp : NP ((l.map fun y => sg [44] :: tokE d y).flatten ++ (sg [41] :: post)) ∧ StopK 1 ((l.map fun y => sg [44] :: tokE d y).flatten ++ (sg [41] :: post)) := by
      cases l with
      | nil => exact ⟨np_sg (by decide) _, stopK_sg (by decide) _⟩
      | cons z l => exact ⟨np_sg (by decide) _, stopK_sg (by decide) _⟩
    have h5' : (L.drop (p + 1 + 1)).map er = tokE d y ++ ((l.map fun y => sg [44] :: tokE d y).flatten ++ (sg [41] :: post)) := by simpa [Function.comp_def] using h5
    obtain ⟨F1, hF1⟩ := hd y hy 1 L sz (p + 1 + 1) _ (by rw [kidK_1 hy]; exact h5') hp.1 hp.2
    rw [kidK_1 hy] at hF1
    have h6 := drop_len h5'
    obtain ⟨F2, hF2⟩ := pH_tail hd (takesV e.s).toNat L sz post l hks [y] (p + 1 + 1 + (tokE d y).length) (by simp) (by rw [hyl] at hl; simp at hl ⊢; omega) h6
    refine ⟨F1 + F2 + 2, fun f hf => ?_⟩
    obtain ⟨g, rfl⟩ : ∃ g, f = g + 1 + 1 := ⟨f - 2, by omega⟩
    rw [pT, isSg_er h1, isSg_er h1, q1, q3, isSg_er h3, show ((sg [40]).1 == 4 && (sg [40]).2.2 == [40]) = true from rfl]
    simp only [Int.reduceBEq, Bool.false_and, Bool.false_eq_true, if_false, Int.reduceEq, and_true, ht, if_true]
    rw [pH, if_pos (by omega), if_neg (by simp), if_neg (by simp), hF1 g (by omega)]
    simp only [List.nil_append]
    have h7 := hF2 g (by omega)
    rw [show ([y] : List V).length = 0 + 1 from rfl] at h7
    rw [h7]
    rw [k, hn0, hyl] at heta
    simp only [List.singleton_append]
    rw [heta]
    simp only [List.length_cons, List.length_append, List.length_nil, Function.comp_def]
    congr 2; omega
theorem pc_of {d : Nat} (ht : PT (d + 1)) (hk : PK d) (hd : PD d) : PC (d + 1) := by
  intro e he least L sz p post h hnp hst
  by_cases h4 : e.k = 4
  · obtain ⟨hle, hst⟩ := hst h4
    obtain ⟨hn, hks⟩ := ok_kids he
    obtain ⟨hn0, hb0, a, b, hl⟩ := node4 hn h4
    have ha := hks a (by simp [hl])
    have hb := hks b (by simp [hl])
    have htk : tokE (d + 1) e = kidK a (bindsV e.s) (tokE d a) ++ sg e.s :: kidK b (bindsV e.s + 1) (tokE d b) := by
      rw [tokE]
      simp only [h4, Int.reduceEq, if_false, if_true, hl, List.getD_cons_zero, List.getD_cons_succ]
    rw [htk, List.append_assoc, List.cons_append] at h
    obtain ⟨F1, j, hF1⟩ := hk a ha (bindsV e.s) least hle L sz p _ h (np_sg (binds_ne hb0) _) (fun _ hm => stopK_sg (by omega) _)
    have h2 := drop_len h
    obtain ⟨h3, h5⟩ := pk_cons (sz := sz) h2
    obtain ⟨q1, q2, q3⟩ := er_k h3
    obtain ⟨F2, hF2⟩ := hd b hb (bindsV e.s + 1) L sz (p + (kidK a (bindsV e.s) (tokE d a)).length + 1) post h5 hnp hst
    refine ⟨F1 + F2, j + 1, fun f hf => ?_⟩
    rw [show f + (j + 1) = f + 1 + j by omega, hF1 (f + 1) (by omega), pL, q1, q3, if_neg (by simp only [sg, ne_eq, not_true_eq_false, false_or]; omega), show (sg e.s).2.2 = e.s from rfl, hF2 f (by omega)]
    simp only
    have heta := V.eta e
    rw [h4, hn0, hl] at heta
    rw [heta, htk]
    congr 1
    simp only [List.length_append, List.length_cons]; omega
  · obtain ⟨F, hF⟩ := ht e he h4 L sz p post h hnp
    exact ⟨F, 1, fun f hf => by rw [pE, hF f hf]⟩
theorem parse_tree : ∀ d, PT d ∧ PC d ∧ PK d ∧ PD d
  | 0 => by
    have hc : PC 0 := fun e he => absurd he (by simp [okE])
    exact ⟨fun e he => absurd he (by simp [okE]), hc, pk_of hc, pd_of (pk_of hc)⟩
  | d + 1 => by
    obtain ⟨_, _, hk, hd⟩ := parse_tree d
    have ht := pt_of hd
    have hc := pc_of ht hk hd
    exact ⟨ht, hc, pk_of hc, pd_of (pk_of hc)⟩
end Go.Mor
end

section
/- Expressions: the stream of pieces. No statement of the program is proved here. -/
namespace Go.Proofs.YtmiokadmddjccaaGreatDoor
open Go Go.RowKit Go.Mor Go.Sh Go.Sh.Cd1 Go.Sh.Cd5
set_option maxRecDepth 100000
set_option maxHeartbeats 4000000
def pcR (q : Pc) : List PV := [.v (.int .i64 q.k), .v (.int .i64 q.n), .v (.string (str q.s)), .v (.int .i64 (q.p : Int))]
def pcT (q : Pc) : TV := .agg [I q.k, I q.n, S (str q.s), I (q.p : Int)]
def pcs (L : List Pc) : TV := .pv (.sl 4 (L.map pcR))
def pB (L : List Pc) (p sz : Nat) : List TV := [pcs L, I (p : Int), I (sz : Int), bindM]
theorem peek_ok (g : Sh.Glob) (L : List Pc) (p sz : Nat) (hL : L.length ≤ maxLen) : SCalls Tryz.prog g 111 [.ptr 1000 0] [.box (pB L p sz)] (pcT (pkP L sz p)) [.box (pB L p sz)] := by
  refine call_of hmix tf___expr_stream__peek rfl rfl rfl ?_
  unfold pB pcs pcT
  by_cases hlt : p < L.length
  · have d1 : (p : Int) < (L.length : Int) := by omega
    obtain ⟨q, eq⟩ : ∃ q, L[p]? = some q := ⟨_, List.getElem?_eq_getElem hlt⟩
    have hq : pkP L sz p = q := by simp [pkP, eq]
    rw [hq]
    simp only [vcA, seval, vV, d1, eq, pcR, bmV]
  · have d1 : ¬ (p : Int) < (L.length : Int) := by omega
    have hq : pkP L sz p = ⟨0, 0, [], sz⟩ := by simp [pkP, List.getElem?_eq_none (Nat.le_of_not_lt hlt)]
    rw [hq]
    simp only [vcA, seval, vV, d1, bmV]
    rfl
theorem take_ok (g : Sh.Glob) (L : List Pc) (p sz : Nat) (t : List UInt8) (hL : L.length ≤ maxLen) (hp : p < maxLen) : SCalls Tryz.prog g 204 [.ptr 1000 0, S (str t)] [.box (pB L p sz)] (B (isSg (pkP L sz p) t)) [.box (pB L (if isSg (pkP L sz p) t then p + 1 else p) sz)] := by
  refine call_of hmix tf___expr_stream__take rfl rfl rfl ?_
  have HP := peek_ok g L p sz hL
  have w1 : IntKind.i64.wrap ((p : Int) + 1) = ((p + 1 : Nat) : Int) := by unfold maxLen at hp; rw [wrap64 (by omega) (by omega)]; omega
  unfold isSg at *
  generalize pkP L sz p = q at *
  unfold pB pcs pcT B at *
  by_cases hk : q.k = 4
  · have hb : (q.k == 4) = true := by simp [hk]
    cases ht : q.s == t
    · simp only [vcA, seval, vV]
      (with_reducible apply v_call); (· simp only [vcA, seval, vV, bmV]; with_reducible rfl); (· rfl); (· exact HP); (· first | rfl | (simp only [vcA, seval]; omega)); (· simp only [vcA, seval, vV, bmV]; with_reducible rfl)
      simp only [vcA, seval, vV, bmV, hk, hb, ht]
    · simp only [vcA, seval, vV]
      (with_reducible apply v_call); (· simp only [vcA, seval, vV, bmV]; with_reducible rfl); (· rfl); (· exact HP); (· first | rfl | (simp only [vcA, seval]; omega)); (· simp only [vcA, seval, vV, bmV]; with_reducible rfl)
      simp only [vcA, seval, vV, bmV, hk, hb, ht, w1]
  · have hb : (q.k == 4) = false := by simp [hk]
    simp only [vcA, seval, vV]
    (with_reducible apply v_call); (· simp only [vcA, seval, vV, bmV]; with_reducible rfl); (· rfl); (· exact HP); (· first | rfl | (simp only [vcA, seval]; omega)); (· simp only [vcA, seval, vV, bmV]; with_reducible rfl)
    simp only [vcA, seval, vV, bmV, hk, hb]
def wrongV (a : Nat) : Value := .iface 168 (.int .i64 (a : Int))
theorem need_ok (g : Sh.Glob) (L : List Pc) (p sz : Nat) (t : List UInt8) (hL : L.length ≤ maxLen) (hp : p < maxLen) (h : isSg (pkP L sz p) t = true) : SCalls Tryz.prog g 205 [.ptr 1000 0, S (str t)] [.box (pB L p sz)] (.tuple []) [.box (pB L (p + 1) sz)] := by
  refine call_of hmix tf___expr_stream__need rfl rfl rfl ?_
  have HT := take_ok g L p sz t hL hp
  rw [h, if_pos rfl] at HT
  unfold pB pcs B at *
  simp only [vcA, seval, vV]
  (with_reducible apply v_call); (· simp only [vcA, seval, vV, bmV]; with_reducible rfl); (· rfl); (· exact HT); (· first | rfl | (simp only [vcA, seval]; omega)); (· simp only [vcA, seval, vV, bmV]; with_reducible rfl)
  simp only [vcA, seval, vV, bmV]
theorem need_pan (g : Sh.Glob) (L : List Pc) (p sz : Nat) (t : List UInt8) (hL : L.length ≤ maxLen) (hp : p < maxLen) (h : isSg (pkP L sz p) t = false) : SPan Tryz.prog g 205 [.ptr 1000 0, S (str t)] [.box (pB L p sz)] (wrongV (pkP L sz p).p) [.box (pB L p sz)] := by
  refine pan_of hmix tf___expr_stream__need rfl rfl rfl ?_
  have HT := take_ok g L p sz t hL hp
  have HP := peek_ok g L p sz hL
  rw [h, if_neg (by simp)] at HT
  unfold pB pcs B pcT wrongV at *
  simp only [vcA, seval, vV]
  (with_reducible apply v_call); (· simp only [vcA, seval, vV, bmV]; with_reducible rfl); (· rfl); (· exact HT); (· first | rfl | (simp only [vcA, seval]; omega)); (· simp only [vcA, seval, vV, bmV]; with_reducible rfl)
  simp only [vcA, seval, vV, bmV]
  (with_reducible apply vq_p)
  simp only [vcA, seval, vV]
  (with_reducible apply vp_ret); (· simp only [vcA, seval, vV, bmV]; with_reducible rfl); (· rfl); (· exact HP); (· first | rfl | (simp only [vcA, seval]; omega)); (· simp only [vcA, seval, vV, bmV]; with_reducible rfl); simp only [vcA, seval, vV, bmV]
end Go.Proofs.YtmiokadmddjccaaGreatDoor
end

section
/- Expressions: the parser. No statement of the program is proved here. -/
namespace Go.Proofs.YtmiokadmddjccaaGreatDoor
open Go Go.RowKit Go.Mor Go.Sh Go.Sh.Cd1 Go.Sh.Cd5
set_option maxRecDepth 100000
set_option maxHeartbeats 4000000
theorem takes_ok (g : Sh.Glob) (s : List UInt8) : SCalls Tryz.prog g 177 [S (str s)] [] (I (takesV s)) [] := by
  refine call_of0 hmix tf_expr_takes rfl ?_
  have q1 : (⟨#[108, 101, 110]⟩ : ByteArray) = str [108, 101, 110] := rfl
  have q2 : (⟨#[116, 101, 120, 116]⟩ : ByteArray) = str [116, 101, 120, 116] := rfl
  have q3 : (⟨#[110, 117, 109]⟩ : ByteArray) = str [110, 117, 109] := rfl
  have q4 : (⟨#[108, 101, 102, 116]⟩ : ByteArray) = str [108, 101, 102, 116] := rfl
  have q5 : (⟨#[114, 105, 103, 104, 116]⟩ : ByteArray) = str [114, 105, 103, 104, 116] := rfl
  have q6 : (⟨#[102, 114, 111, 109]⟩ : ByteArray) = str [102, 114, 111, 109] := rfl
  have q7 : (⟨#[102, 105, 110, 100]⟩ : ByteArray) = str [102, 105, 110, 100] := rfl
  have q8 : (⟨#[109, 105, 110]⟩ : ByteArray) = str [109, 105, 110] := rfl
  have q9 : (⟨#[109, 97, 120]⟩ : ByteArray) = str [109, 97, 120] := rfl
  have q10 : (⟨#[105, 102]⟩ : ByteArray) = str [105, 102] := rfl
  have hb : ∀ t : List UInt8, (s == t) = decide (s = t) := fun t => by rw [Bool.eq_iff_iff]; simp
  unfold takesV
  simp only [vcA, seval, vV, q1, q2, q3, q4, q5, q6, q7, q8, q9, q10, hb]
  repeat' (first | (apply And.intro) | (intro _))
  all_goals simp_all
end Go.Proofs.YtmiokadmddjccaaGreatDoor
end

section
/- Expressions: the parser. No statement of the program is proved here. -/
namespace Go.Proofs.YtmiokadmddjccaaGreatDoor
open Go Go.RowKit Go.Mor Go.Sh Go.Sh.Cd1 Go.Sh.Cd5
set_option maxRecDepth 100000
set_option maxHeartbeats 4000000
section
variable (g : Sh.Glob) (L : List Pc) (sz : Nat)
def EOk (f : Nat) : Prop := ∀ (least : Int) (p : Nat) (e : V) (p' : Nat), 0 ≤ least → least ≤ 5 → p ≤ L.length → pE L sz f least p = some (.ok e p') → SCalls Tryz.prog g 110 [.ptr 1000 0, I least] [.box (pB L p sz)] (tv e) [.box (pB L p' sz)]
def EBad (f : Nat) : Prop := ∀ (least : Int) (p a p' : Nat), 0 ≤ least → least ≤ 5 → p ≤ L.length → pE L sz f least p = some (.bad a p') → SPan Tryz.prog g 110 [.ptr 1000 0, I least] [.box (pB L p sz)] (wrongV a) [.box (pB L p' sz)]
def TOk (f : Nat) : Prop := ∀ (p : Nat) (e : V) (p' : Nat), p ≤ L.length → pT L sz f p = some (.ok e p') → SCalls Tryz.prog g 174 [.ptr 1000 0] [.box (pB L p sz)] (tv e) [.box (pB L p' sz)]
def TBad (f : Nat) : Prop := ∀ (p a p' : Nat), p ≤ L.length → pT L sz f p = some (.bad a p') → SPan Tryz.prog g 174 [.ptr 1000 0] [.box (pB L p sz)] (wrongV a) [.box (pB L p' sz)]
theorem pk_in {q : Pc} {p : Nat} (h : pkP L sz p = q) (hk : q.k ≠ 0) : p < L.length := by
  rcases Nat.lt_or_ge p L.length with h1 | h1
  · exact h1
  · rw [pkP, List.getElem?_eq_none h1] at h; subst h; exact absurd rfl hk
theorem isSg_in {p : Nat} {t : List UInt8} (h : isSg (pkP L sz p) t = true) : p < L.length := by
  refine pk_in L sz rfl ?_
  unfold isSg at h
  simp only [Bool.and_eq_true, beq_iff_eq] at h
  rw [h.1]; decide
theorem binds_rng (s : List UInt8) : 0 ≤ bindsV s ∧ bindsV s ≤ 4 := by
  unfold bindsV
  repeat' split
  all_goals omega
theorem takes_rng (s : List UInt8) : 0 ≤ takesV s ∧ takesV s ≤ 3 := by
  unfold takesV
  repeat' split
  all_goals omega
theorem p_le : ∀ f, (∀ least p e p', p ≤ L.length → pE L sz f least p = some (.ok e p') → p' ≤ L.length) ∧ (∀ least e0 p e p', p ≤ L.length → pL L sz f least e0 p = some (.ok e p') → p' ≤ L.length) ∧
    (∀ p e p', p ≤ L.length → pT L sz f p = some (.ok e p') → p' ≤ L.length) ∧ (∀ n k p acc l p', p ≤ L.length → pH L sz f n k p acc = some (.ok l p') → p' ≤ L.length)
  | 0 => ⟨fun _ _ _ _ _ h => by simp [pE] at h, fun _ _ _ _ _ _ h => by simp [pL] at h, fun _ _ _ _ h => by simp [pT] at h, fun _ _ _ _ _ _ _ h => by simp [pH] at h⟩
  | f + 1 => by
    obtain ⟨h1, h2, h3, h4⟩ := p_le f
    refine ⟨fun least p e p' hp h => ?_, fun least e0 p e p' hp h => ?_, fun p e p' hp h => ?_, fun n k p acc l p' hp h => ?_⟩
    · rw [pE] at h
      split at h
      · rename_i e1 p1 ht; exact h2 _ _ _ _ _ (h3 _ _ _ hp ht) h
      · cases h
      · cases h
    · rw [pL] at h
      split at h
      · cases h; exact hp
      · rename_i hk
        rw [not_or] at hk
        have hlt := pk_in L sz (p := p) rfl (by have := hk.1; simp only [ne_eq, Decidable.not_not] at this; rw [this]; decide)
        split at h
        · rename_i e2 p2 he; exact h2 _ _ _ _ _ (h1 _ _ _ _ hlt he) h
        · cases h
        · cases h
    · rw [pT] at h
      split at h
      · rename_i hs
        have hlt := isSg_in L sz hs
        split at h
        · rename_i e1 p1 he
          split at h
          · rename_i hs2; cases h; exact isSg_in L sz hs2
          · cases h
        · cases h
        · cases h
      split at h
      · rename_i hs
        have hlt := isSg_in L sz hs
        split at h
        · rename_i e1 p1 he; cases h; exact h3 _ _ _ hlt he
        · cases h
        · cases h
      split at h
      · rename_i hk; cases h; exact pk_in L sz rfl (by rw [hk]; decide)
      split at h
      · rename_i hk; cases h; exact pk_in L sz rfl (by rw [hk]; decide)
      split at h
      · rename_i hk
        have hlt := pk_in L sz (p := p) rfl (by rw [hk]; decide)
        split at h
        · rename_i ht
          have hlt2 := isSg_in L sz ht.2
          split at h
          · rename_i l p1 he; cases h; exact h4 _ _ _ _ _ _ hlt2 he
          · cases h
          · cases h
        · cases h; exact hlt
      · cases h
    · rw [pH] at h
      split at h
      · split at h
        · cases h
        · rename_i hk hs
          have hp2 : (if 0 < k then p + 1 else p) ≤ L.length := by
            split
            · rename_i h0
              refine isSg_in L sz (t := [44]) ?_
              cases hh : isSg (pkP L sz p) [44] with
              | true => rfl
              | false => exact absurd ⟨h0, hh⟩ hs
            · exact hp
          split at h
          · rename_i e1 p1 he; exact h4 _ _ _ _ _ _ (h1 _ _ _ _ hp2 he) h
          · cases h
          · cases h
      · split at h
        · rename_i hs; cases h; exact isSg_in L sz hs
        · cases h
variable {g L sz}
theorem expr_ok_of {f : Nat} (hL : L.length ≤ 4611686018427387904) (ih : ∀ f', f' < f → EOk g L sz f' ∧ EBad g L sz f' ∧ TOk g L sz f' ∧ TBad g L sz f') : EOk g L sz f := by
  intro least p e p' h0 h5 hp h
  cases f with
  | zero => simp [pE] at h
  | succ f =>
  rw [pE] at h
  cases ht : pT L sz f p with
  | none => rw [ht] at h; cases h
  | some r =>
  cases r with
  | bad a q => rw [ht] at h; cases h
  | ok e1 p1 =>
  rw [ht] at h
  simp only at h
  have HT := (ih f (Nat.lt_succ_self f)).2.2.1 p e1 p1 hp ht
  have hp1 := (p_le L sz f).2.2.1 p e1 p1 hp ht
  refine call_of hmix tf___expr_parser__expr rfl rfl rfl ?_
  have hml : L.length ≤ maxLen := by unfold maxLen; omega
  unfold pB pcs at HT ⊢
  simp only [vcA, seval, vV, bmV]
  (with_reducible apply vq_n)
  simp only [vcA, seval, vV, bmV]
  (with_reducible apply v_call); (· simp only [vcA, seval, vV, bmV]; with_reducible rfl); (· rfl); (· exact HT); (· first | rfl | (simp only [vcA, seval]; omega)); (· simp only [vcA, seval, vV, bmV]; with_reducible rfl)
  simp only [vcA, seval, vV, bmV]
  refine v_loop (σ := {x : Nat × V × Nat // x.1 ≤ f ∧ x.2.2 ≤ L.length ∧ pL L sz x.1 least x.2.1 x.2.2 = some (.ok e p')})
    (fun x => ⟨[(0, .ptr 1000 0), (1, I least), (4, .ptr 4 0), (5, .ptr 5 0)], [(1000, [.pv (.sl 4 (L.map pcR)), I (x.1.2.2 : Int), I (sz : Int), bindM]), (4, [I 0, I 0, S ⟨#[]⟩, .pv (.v (.slice none 0 0))]),
      (5, [I x.1.2.1.k, I x.1.2.1.n, S (str x.1.2.1.s), .pv (.sl 4 (V.rows x.1.2.1.l))])], [], []⟩) (fun x => x.1.1) ⟨(f, e1, p1), Nat.le_refl _, hp1, h⟩ (lw_eq rfl) ?_
  rintro ⟨⟨f1, e2, p2⟩, hf1, hp2, hl⟩
  simp only at hf1 hp2 hl
  cases f1 with
  | zero => simp [pL] at hl
  | succ f1 =>
  have HP := peek_ok g L p2 sz hml
  rw [pL] at hl
  generalize hq : pkP L sz p2 = q at HP hl
  obtain ⟨b0, b4⟩ := binds_rng q.s
  unfold pB pcs pcT at HP
  simp only [vcA, seval, vV, bmV]
  (with_reducible apply v_call); (· simp only [vcA, seval, vV, bmV]; with_reducible rfl); (· rfl); (· exact HP); (· first | rfl | (simp only [vcA, seval]; omega)); (· simp only [vcA, seval, vV, bmV]; with_reducible rfl)
  by_cases hk : q.k = 4
  · by_cases hb : bindsV q.s < least
    · rw [if_pos (.inr hb)] at hl
      cases hl
      simp only [vcA, seval, vV, bmV, hk, hb]
    · rw [if_neg (by rw [not_or]; exact ⟨by simpa using hk, hb⟩)] at hl
      have hlt := pk_in L sz hq (by rw [hk]; decide)
      cases he : pE L sz f1 (bindsV q.s + 1) (p2 + 1) with
      | none => rw [he] at hl; cases hl
      | some r =>
      cases r with
      | bad a q' => rw [he] at hl; cases hl
      | ok e3 p3 =>
      rw [he] at hl
      simp only at hl
      have HE := (ih f1 (by omega)).1 (bindsV q.s + 1) (p2 + 1) e3 p3 (by omega) (by omega) hlt he
      have hp3 := (p_le L sz f1).1 _ _ _ _ hlt he
      have w1 : IntKind.i64.wrap ((p2 : Int) + 1) = ((p2 + 1 : Nat) : Int) := by rw [wrap64 (by omega) (by omega)]; omega
      have w2 : IntKind.i64.wrap (bindsV q.s + 1) = bindsV q.s + 1 := wrap64 (by omega) (by omega)
      unfold pB pcs at HE
      simp only [vcA, seval, vV, bmV, hk, hb, w1]
      (with_reducible apply vq_n)
      simp only [vcA, seval, vV, bmV, w2]
      (with_reducible apply v_call); (· simp only [vcA, seval, vV, bmV, w2]; with_reducible rfl); (· rfl); (· exact HE); (· first | rfl | (simp only [vcA, seval]; omega)); (· simp only [vcA, seval, vV, bmV, w2]; with_reducible rfl)
      simp only [vcA, seval, vV, bmV]
      refine loopK_of ⟨(f1, .mk 4 0 q.s [e2, e3], p3), by omega, hp3, hl⟩ (Nat.lt_succ_self f1) ?_
      apply lw_of <;> simp [leL, lk, sv, Nat.beq, I, S, ES.kill, has, drp, nilT, bmV]
      exact ⟨rfl, rfl, rfl, by rw [Vl, show V.rows [e2, e3] = [V.row e2, V.row e3] from rfl, row4, row4]⟩
  · rw [if_pos (.inl hk)] at hl
    cases hl
    simp only [vcA, seval, vV, bmV, hk]
theorem expr_bad_of {f : Nat} (hL : L.length ≤ 4611686018427387904) (ih : ∀ f', f' < f → EOk g L sz f' ∧ EBad g L sz f' ∧ TOk g L sz f' ∧ TBad g L sz f') : EBad g L sz f := by
  intro least p a p' h0 h5 hp h
  cases f with
  | zero => simp [pE] at h
  | succ f =>
  have hml : L.length ≤ maxLen := by unfold maxLen; omega
  rw [pE] at h
  cases ht : pT L sz f p with
  | none => rw [ht] at h; cases h
  | some r =>
  cases r with
  | bad a q =>
    rw [ht] at h; cases h
    have HT := (ih f (Nat.lt_succ_self f)).2.2.2 p a p' hp ht
    refine pan_of hmix tf___expr_parser__expr rfl rfl rfl ?_
    unfold pB pcs at HT ⊢
    unfold wrongV at *
    simp only [vcA, seval, vV, bmV]
    (with_reducible apply vq_p)
    simp only [vcA, seval, vV, bmV]
    (with_reducible apply vp_call); (· rfl); (· simp only [vcA, seval, vV, bmV]; with_reducible rfl); (· exact HT); (· first | rfl | (simp only [vcA, seval]; omega)); (· simp only [vcA, seval, vV, bmV]; with_reducible rfl); simp only [vcA, seval, vV, bmV]
  | ok e1 p1 =>
  rw [ht] at h
  simp only at h
  have HT := (ih f (Nat.lt_succ_self f)).2.2.1 p e1 p1 hp ht
  have hp1 := (p_le L sz f).2.2.1 p e1 p1 hp ht
  refine pan_of hmix tf___expr_parser__expr rfl rfl rfl ?_
  unfold pB pcs at HT ⊢
  unfold wrongV
  simp only [vcA, seval, vV, bmV]
  (with_reducible apply vq_n)
  simp only [vcA, seval, vV, bmV]
  (with_reducible apply v_call); (· simp only [vcA, seval, vV, bmV]; with_reducible rfl); (· rfl); (· exact HT); (· first | rfl | (simp only [vcA, seval]; omega)); (· simp only [vcA, seval, vV, bmV]; with_reducible rfl)
  simp only [vcA, seval, vV, bmV]
  refine v_loop (σ := {x : Nat × V × Nat // x.1 ≤ f ∧ x.2.2 ≤ L.length ∧ pL L sz x.1 least x.2.1 x.2.2 = some (.bad a p')})
    (fun x => ⟨[(0, .ptr 1000 0), (1, I least), (4, .ptr 4 0), (5, .ptr 5 0)], [(1000, [.pv (.sl 4 (L.map pcR)), I (x.1.2.2 : Int), I (sz : Int), bindM]), (4, [I 0, I 0, S ⟨#[]⟩, .pv (.v (.slice none 0 0))]),
      (5, [I x.1.2.1.k, I x.1.2.1.n, S (str x.1.2.1.s), .pv (.sl 4 (V.rows x.1.2.1.l))])], [], []⟩) (fun x => x.1.1) ⟨(f, e1, p1), Nat.le_refl _, hp1, h⟩ (lw_eq rfl) ?_
  rintro ⟨⟨f1, e2, p2⟩, hf1, hp2, hl⟩
  simp only at hf1 hp2 hl
  cases f1 with
  | zero => simp [pL] at hl
  | succ f1 =>
  have HP := peek_ok g L p2 sz hml
  rw [pL] at hl
  generalize hq : pkP L sz p2 = q at HP hl
  obtain ⟨b0, b4⟩ := binds_rng q.s
  unfold pB pcs pcT at HP
  simp only [vcA, seval, vV, bmV]
  (with_reducible apply v_call); (· simp only [vcA, seval, vV, bmV]; with_reducible rfl); (· rfl); (· exact HP); (· first | rfl | (simp only [vcA, seval]; omega)); (· simp only [vcA, seval, vV, bmV]; with_reducible rfl)
  by_cases hk : q.k = 4
  · by_cases hb : bindsV q.s < least
    · rw [if_pos (.inr hb)] at hl
      cases hl
    · rw [if_neg (by rw [not_or]; exact ⟨by simpa using hk, hb⟩)] at hl
      have hlt := pk_in L sz hq (by rw [hk]; decide)
      have w1 : IntKind.i64.wrap ((p2 : Int) + 1) = ((p2 + 1 : Nat) : Int) := by rw [wrap64 (by omega) (by omega)]; omega
      have w2 : IntKind.i64.wrap (bindsV q.s + 1) = bindsV q.s + 1 := wrap64 (by omega) (by omega)
      cases he : pE L sz f1 (bindsV q.s + 1) (p2 + 1) with
      | none => rw [he] at hl; cases hl
      | some r =>
      cases r with
      | bad a2 q' =>
        rw [he] at hl; cases hl
        have HE := (ih f1 (by omega)).2.1 (bindsV q.s + 1) (p2 + 1) a p' (by omega) (by omega) hlt he
        unfold pB pcs wrongV at HE
        simp only [vcA, seval, vV, bmV, hk, hb, w1]
        (with_reducible apply vq_p)
        simp only [vcA, seval, vV, bmV, w2]
        (with_reducible apply vp_call); (· rfl); (· simp only [vcA, seval, vV, bmV, w2]; with_reducible rfl); (· exact HE); (· first | rfl | (simp only [vcA, seval]; omega)); (· simp only [vcA, seval, vV, bmV, w2]; with_reducible rfl); simp only [vcA, seval, vV, bmV, w2]
      | ok e3 p3 =>
      rw [he] at hl
      simp only at hl
      have HE := (ih f1 (by omega)).1 (bindsV q.s + 1) (p2 + 1) e3 p3 (by omega) (by omega) hlt he
      have hp3 := (p_le L sz f1).1 _ _ _ _ hlt he
      unfold pB pcs at HE
      simp only [vcA, seval, vV, bmV, hk, hb, w1]
      (with_reducible apply vq_n)
      simp only [vcA, seval, vV, bmV, w2]
      (with_reducible apply v_call); (· simp only [vcA, seval, vV, bmV, w2]; with_reducible rfl); (· rfl); (· exact HE); (· first | rfl | (simp only [vcA, seval]; omega)); (· simp only [vcA, seval, vV, bmV, w2]; with_reducible rfl)
      simp only [vcA, seval, vV, bmV]
      refine loopK_of ⟨(f1, .mk 4 0 q.s [e2, e3], p3), by omega, hp3, hl⟩ (Nat.lt_succ_self f1) ?_
      apply lw_of <;> simp [leL, lk, sv, Nat.beq, I, S, ES.kill, has, drp, nilT, bmV]
      exact ⟨rfl, rfl, rfl, by rw [Vl, show V.rows [e2, e3] = [V.row e2, V.row e3] from rfl, row4, row4]⟩
  · rw [if_pos (.inl hk)] at hl
    cases hl
theorem rows_snoc (l : List V) (x : V) : V.rows (l ++ [x]) = V.rows l ++ [[.v (.int .i64 x.k), .v (.int .i64 x.n), .v (.string (str x.s)), .sl 4 (V.rows x.l)]] := by rw [rows_eq, rows_eq, List.map_append, List.map_cons, List.map_nil, row4]
theorem things_ok_of {f : Nat} (hL : L.length ≤ 4611686018427387904) (ih : ∀ f', f' < f → EOk g L sz f') (n p : Nat) (l : List V) (p' : Nat) (hn0 : 0 < n) (hn : n ≤ 3) (hp : p ≤ L.length) (h : pH L sz f n 0 p [] = some (.ok l p')) :
    SCalls Tryz.prog g 206 [.ptr 1000 0, I (n : Int)] [.box (pB L p sz)] (.pv (.sl 4 (V.rows l))) [.box (pB L p' sz)] := by
  have hml : L.length < maxLen := by unfold maxLen; omega
  refine call_of hmix tf___expr_parser__things rfl rfl rfl ?_
  unfold pB pcs at *
  simp only [vcA, seval, vV, bmV]
  refine v_loop (σ := {x : Nat × Nat × Nat × List V // x.1 ≤ f ∧ x.2.1 ≤ n ∧ x.2.2.1 ≤ L.length ∧ x.2.2.2.length = x.2.1 ∧ pH L sz x.1 n x.2.1 x.2.2.1 x.2.2.2 = some (.ok l p')})
    (fun x => ⟨[(0, .ptr 1000 0), (5, .own 3000 4 (V.rows x.1.2.2.2)), (7, I (n : Int)), (8, I (x.1.2.1 : Int))], [(1000, [.pv (.sl 4 (L.map pcR)), I (x.1.2.2.1 : Int), I (sz : Int), bindM])], [(3000, (26, 4, x.1.2.1))], []⟩) (fun x => x.1.1) ⟨(f, 0, p, []), Nat.le_refl _, Nat.zero_le _, hp, rfl, h⟩ ?_ ?_
  · refine ES.Lw.trans ?_ (adT_lw (k := 5) (d := 3000) (e := 26) (W := 4) (.inr (by decide)) rfl)
    exact lw_eq rfl
  rintro ⟨⟨f1, k, p1, acc⟩, hf1, hk, hp1, hacc, hl⟩
  simp only at hf1 hk hp1 hacc hl
  cases f1 with
  | zero => simp [pH] at hl
  | succ f1 =>
  rw [pH] at hl
  by_cases hkn : k < n
  · rw [if_pos hkn] at hl
    have d1 : (k : Int) < (n : Int) := by omega
    split at hl
    · cases hl
    rename_i hcom
    cases he : pE L sz f1 1 (if 0 < k then p1 + 1 else p1) with
    | none => rw [he] at hl; cases hl
    | some r =>
    cases r with
    | bad a q' => rw [he] at hl; cases hl
    | ok e3 p3 =>
    rw [he] at hl
    simp only at hl
    have wk : IntKind.i64.wrap ((k : Int) + 1) = ((k + 1 : Nat) : Int) := by rw [wrap64 (by omega) (by omega)]; omega
    have hacc' : (V.rows acc).length = k := by rw [rowsLen, hacc]
    by_cases h0 : 0 < k
    · rw [if_pos h0] at he
      have hs : isSg (pkP L sz p1) [44] = true := by
        cases hh : isSg (pkP L sz p1) [44] with
        | true => rfl
        | false => exact absurd ⟨h0, hh⟩ hcom
      have hlt := isSg_in L sz hs
      have HN := need_ok g L p1 sz [44] (by omega) (by omega) hs
      have HE := ih f1 (by omega) 1 (p1 + 1) e3 p3 (by omega) (by omega) hlt he
      have hp3 := (p_le L sz f1).1 _ _ _ _ hlt he
      have d0 : (0 : Int) < (k : Int) := by omega
      have q44 : (⟨#[44]⟩ : ByteArray) = str [44] := rfl
      unfold pB pcs at HN HE
      simp only [vcA, seval, vV, bmV, d1, d0]
      (with_reducible apply vq_n)
      simp only [vcA, seval, vV, bmV, q44]
      (with_reducible apply v_call); (· simp only [vcA, seval, vV, bmV]; with_reducible rfl); (· rfl); (· exact HN); (· first | rfl | (simp only [vcA, seval]; omega)); (· simp only [vcA, seval, vV, bmV]; with_reducible rfl)
      simp only [vcA, seval, vV, bmV]
      (with_reducible apply vq_n)
      simp only [vcA, seval, vV, bmV]
      (with_reducible apply v_call); (· simp only [vcA, seval, vV, bmV]; with_reducible rfl); (· rfl); (· exact HE); (· first | rfl | (simp only [vcA, seval]; omega)); (· simp only [vcA, seval, vV, bmV]; with_reducible rfl)
      simp only [vcA, seval, vV, bmV, hacc', wk]
      refine ⟨⟨by omega, by unfold maxLen; omega⟩, loopK_of ⟨(f1, k + 1, p3, acc ++ [e3]), by omega, hkn, hp3, by simp [hacc], hl⟩ (Nat.lt_succ_self f1) ?_⟩
      refine lw_eq ?_
      simp only [rows_snoc, I]
    · rw [if_neg h0] at he
      obtain rfl : k = 0 := by omega
      have HE := ih f1 (by omega) 1 p1 e3 p3 (by omega) (by omega) hp1 he
      have hp3 := (p_le L sz f1).1 _ _ _ _ hp1 he
      have d2 : (0 : Int) < (n : Int) := by omega
      have w01 : IntKind.i64.wrap 1 = 1 := by decide
      unfold pB pcs at HE
      simp only [vcA, seval, vV, bmV, d2]
      (with_reducible apply vq_n)
      simp only [vcA, seval, vV, bmV]
      (with_reducible apply v_call); (· simp only [vcA, seval, vV, bmV]; with_reducible rfl); (· rfl); (· exact HE); (· first | rfl | (simp only [vcA, seval]; omega)); (· simp only [vcA, seval, vV, bmV]; with_reducible rfl)
      simp only [vcA, seval, vV, bmV, hacc', w01]
      refine ⟨by unfold maxLen; omega, loopK_of ⟨(f1, 1, p3, acc ++ [e3]), by omega, hkn, hp3, by simp [hacc], hl⟩ (Nat.lt_succ_self f1) ?_⟩
      refine lw_eq ?_
      simp only [rows_snoc, I]; rfl
  · rw [if_neg hkn] at hl
    have d1 : ¬ (k : Int) < (n : Int) := by omega
    split at hl
    · rename_i hs
      cases hl
      have hlt := isSg_in L sz hs
      have HN := need_ok g L p1 sz [41] (by omega) (by omega) hs
      have q41 : (⟨#[41]⟩ : ByteArray) = str [41] := rfl
      unfold pB pcs at HN
      simp only [vcA, seval, vV, bmV, d1]
      (with_reducible apply vq_n)
      simp only [vcA, seval, vV, bmV, q41]
      (with_reducible apply v_call); (· simp only [vcA, seval, vV, bmV]; with_reducible rfl); (· rfl); (· exact HN); (· first | rfl | (simp only [vcA, seval]; omega)); (· simp only [vcA, seval, vV, bmV]; with_reducible rfl)
      simp only [vcA, seval, vV, bmV]
    · cases hl
theorem things_bad_of {f : Nat} (hL : L.length ≤ 4611686018427387904) (ih : ∀ f', f' < f → EOk g L sz f') (ihb : ∀ f', f' < f → EBad g L sz f') (n p a p' : Nat) (hn0 : 0 < n) (hn : n ≤ 3) (hp : p ≤ L.length) (h : pH L sz f n 0 p [] = some (.bad a p')) :
    SPan Tryz.prog g 206 [.ptr 1000 0, I (n : Int)] [.box (pB L p sz)] (wrongV a) [.box (pB L p' sz)] := by
  have hml : L.length < maxLen := by unfold maxLen; omega
  refine pan_of hmix tf___expr_parser__things rfl rfl rfl ?_
  unfold pB pcs wrongV at *
  simp only [vcA, seval, vV, bmV]
  refine v_loop (σ := {x : Nat × Nat × Nat × List V // x.1 ≤ f ∧ x.2.1 ≤ n ∧ x.2.2.1 ≤ L.length ∧ x.2.2.2.length = x.2.1 ∧ pH L sz x.1 n x.2.1 x.2.2.1 x.2.2.2 = some (.bad a p')})
    (fun x => ⟨[(0, .ptr 1000 0), (5, .own 3000 4 (V.rows x.1.2.2.2)), (7, I (n : Int)), (8, I (x.1.2.1 : Int))], [(1000, [.pv (.sl 4 (L.map pcR)), I (x.1.2.2.1 : Int), I (sz : Int), bindM])], [(3000, (26, 4, x.1.2.1))], []⟩) (fun x => x.1.1) ⟨(f, 0, p, []), Nat.le_refl _, Nat.zero_le _, hp, rfl, h⟩ ?_ ?_
  · refine ES.Lw.trans ?_ (adT_lw (k := 5) (d := 3000) (e := 26) (W := 4) (.inr (by decide)) rfl)
    exact lw_eq rfl
  rintro ⟨⟨f1, k, p1, acc⟩, hf1, hk, hp1, hacc, hl⟩
  simp only at hf1 hk hp1 hacc hl
  cases f1 with
  | zero => simp [pH] at hl
  | succ f1 =>
  rw [pH] at hl
  by_cases hkn : k < n
  · rw [if_pos hkn] at hl
    have d1 : (k : Int) < (n : Int) := by omega
    by_cases hcom : 0 < k ∧ isSg (pkP L sz p1) [44] = false
    · rw [if_pos hcom] at hl
      cases hl
      have HN := need_pan g L p' sz [44] (by omega) (by omega) hcom.2
      have d0 : (0 : Int) < (k : Int) := by omega
      have q44 : (⟨#[44]⟩ : ByteArray) = str [44] := rfl
      unfold pB pcs wrongV at HN
      simp only [vcA, seval, vV, bmV, d1, d0]
      (with_reducible apply vq_p)
      simp only [vcA, seval, vV, bmV, q44]
      (with_reducible apply vp_call); (· rfl); (· simp only [vcA, seval, vV, bmV]; with_reducible rfl); (· exact HN); (· first | rfl | (simp only [vcA, seval]; omega)); (· simp only [vcA, seval, vV, bmV]; with_reducible rfl); simp only [vcA, seval, vV, bmV]
    rw [if_neg hcom] at hl
    have wk : IntKind.i64.wrap ((k : Int) + 1) = ((k + 1 : Nat) : Int) := by rw [wrap64 (by omega) (by omega)]; omega
    have hacc' : (V.rows acc).length = k := by rw [rowsLen, hacc]
    by_cases h0 : 0 < k
    · rw [if_pos h0] at hl
      have hs : isSg (pkP L sz p1) [44] = true := by
        cases hh : isSg (pkP L sz p1) [44] with
        | true => rfl
        | false => exact absurd ⟨h0, hh⟩ hcom
      have hlt := isSg_in L sz hs
      have HN := need_ok g L p1 sz [44] (by omega) (by omega) hs
      have d0 : (0 : Int) < (k : Int) := by omega
      have q44 : (⟨#[44]⟩ : ByteArray) = str [44] := rfl
      unfold pB pcs at HN
      simp only [vcA, seval, vV, bmV, d1, d0]
      (with_reducible apply vq_n)
      simp only [vcA, seval, vV, bmV, q44]
      (with_reducible apply v_call); (· simp only [vcA, seval, vV, bmV]; with_reducible rfl); (· rfl); (· exact HN); (· first | rfl | (simp only [vcA, seval]; omega)); (· simp only [vcA, seval, vV, bmV]; with_reducible rfl)
      simp only [vcA, seval, vV, bmV]
      cases he : pE L sz f1 1 (p1 + 1) with
      | none => rw [he] at hl; cases hl
      | some r =>
      cases r with
      | bad a2 q' =>
        rw [he] at hl; cases hl
        have HE := ihb f1 (by omega) 1 (p1 + 1) a p' (by omega) (by omega) hlt he
        unfold pB pcs wrongV at HE
        (with_reducible apply vq_p)
        simp only [vcA, seval, vV, bmV]
        (with_reducible apply vp_call); (· rfl); (· simp only [vcA, seval, vV, bmV]; with_reducible rfl); (· exact HE); (· first | rfl | (simp only [vcA, seval]; omega)); (· simp only [vcA, seval, vV, bmV]; with_reducible rfl); simp only [vcA, seval, vV, bmV]
      | ok e3 p3 =>
      rw [he] at hl
      simp only at hl
      have HE := ih f1 (by omega) 1 (p1 + 1) e3 p3 (by omega) (by omega) hlt he
      have hp3 := (p_le L sz f1).1 _ _ _ _ hlt he
      unfold pB pcs at HE
      (with_reducible apply vq_n)
      simp only [vcA, seval, vV, bmV]
      (with_reducible apply v_call); (· simp only [vcA, seval, vV, bmV]; with_reducible rfl); (· rfl); (· exact HE); (· first | rfl | (simp only [vcA, seval]; omega)); (· simp only [vcA, seval, vV, bmV]; with_reducible rfl)
      simp only [vcA, seval, vV, bmV, hacc', wk]
      refine ⟨⟨by omega, by unfold maxLen; omega⟩, loopK_of ⟨(f1, k + 1, p3, acc ++ [e3]), by omega, hkn, hp3, by simp [hacc], hl⟩ (Nat.lt_succ_self f1) ?_⟩
      refine lw_eq ?_
      simp only [rows_snoc, I]
    · rw [if_neg h0] at hl
      obtain rfl : k = 0 := by omega
      have d2 : (0 : Int) < (n : Int) := by omega
      have w01 : IntKind.i64.wrap 1 = 1 := by decide
      simp only [vcA, seval, vV, bmV, d2]
      cases he : pE L sz f1 1 p1 with
      | none => rw [he] at hl; cases hl
      | some r =>
      cases r with
      | bad a2 q' =>
        rw [he] at hl; cases hl
        have HE := ihb f1 (by omega) 1 p1 a p' (by omega) (by omega) hp1 he
        unfold pB pcs wrongV at HE
        (with_reducible apply vq_p)
        simp only [vcA, seval, vV, bmV]
        (with_reducible apply vp_call); (· rfl); (· simp only [vcA, seval, vV, bmV]; with_reducible rfl); (· exact HE); (· first | rfl | (simp only [vcA, seval]; omega)); (· simp only [vcA, seval, vV, bmV]; with_reducible rfl); simp only [vcA, seval, vV, bmV]
      | ok e3 p3 =>
      rw [he] at hl
      simp only at hl
      have HE := ih f1 (by omega) 1 p1 e3 p3 (by omega) (by omega) hp1 he
      have hp3 := (p_le L sz f1).1 _ _ _ _ hp1 he
      unfold pB pcs at HE
      (with_reducible apply vq_n)
      simp only [vcA, seval, vV, bmV]
      (with_reducible apply v_call); (· simp only [vcA, seval, vV, bmV]; with_reducible rfl); (· rfl); (· exact HE); (· first | rfl | (simp only [vcA, seval]; omega)); (· simp only [vcA, seval, vV, bmV]; with_reducible rfl)
      simp only [vcA, seval, vV, bmV, hacc', w01]
      refine ⟨by unfold maxLen; omega, loopK_of ⟨(f1, 1, p3, acc ++ [e3]), by omega, hkn, hp3, by simp [hacc], hl⟩ (Nat.lt_succ_self f1) ?_⟩
      refine lw_eq ?_
      simp only [rows_snoc, I]; rfl
  · rw [if_neg hkn] at hl
    have d1 : ¬ (k : Int) < (n : Int) := by omega
    split at hl
    · cases hl
    · rename_i hs
      cases hl
      have HN := need_pan g L p' sz [41] (by omega) (by omega) (by simpa using hs)
      have q41 : (⟨#[41]⟩ : ByteArray) = str [41] := rfl
      unfold pB pcs wrongV at HN
      simp only [vcA, seval, vV, bmV, d1]
      (with_reducible apply vq_p)
      simp only [vcA, seval, vV, bmV, q41]
      (with_reducible apply vp_call); (· rfl); (· simp only [vcA, seval, vV, bmV]; with_reducible rfl); (· exact HN); (· first | rfl | (simp only [vcA, seval]; omega)); (· simp only [vcA, seval, vV, bmV]; with_reducible rfl); simp only [vcA, seval, vV, bmV]
theorem nv_out (k n : Int) (t : List UInt8) : Wk (nv (.mk k n t [])) (tv (.mk k n t [])) := nv_tv rfl
theorem tight_ok_of {f : Nat} (hL : L.length ≤ 4611686018427387904) (ih : ∀ f', f' < f → EOk g L sz f' ∧ EBad g L sz f' ∧ TOk g L sz f' ∧ TBad g L sz f') : TOk g L sz f := by
  intro p e p' hp h
  have hml : L.length < maxLen := by unfold maxLen; omega
  cases f with
  | zero => simp [pT] at h
  | succ f =>
  have T40 := take_ok g L p sz [40] (by omega) (by omega)
  have T45 := take_ok g L p sz [45] (by omega) (by omega)
  have q40 : (⟨#[40]⟩ : ByteArray) = str [40] := rfl
  have q41 : (⟨#[41]⟩ : ByteArray) = str [41] := rfl
  have q45 : (⟨#[45]⟩ : ByteArray) = str [45] := rfl
  rw [pT] at h
  by_cases h40 : isSg (pkP L sz p) [40] = true
  · rw [if_pos h40] at h
    rw [h40, if_pos rfl] at T40
    have hlt := isSg_in L sz h40
    cases he : pE L sz f 1 (p + 1) with
    | none => rw [he] at h; cases h
    | some r =>
    cases r with
    | bad a q' => rw [he] at h; cases h
    | ok e1 p1 =>
    rw [he] at h
    simp only at h
    split at h
    · rename_i h41
      cases h
      have HE := (ih f (Nat.lt_succ_self f)).1 1 (p + 1) e p1 (by omega) (by omega) hlt he
      have hp1 := (p_le L sz f).1 _ _ _ _ hlt he
      have HN := need_ok g L p1 sz [41] (by omega) (by omega) h41
      refine call_of hmix tf___expr_parser__tight rfl rfl rfl ?_
      unfold pB pcs B at *
      simp only [vcA, seval, vV, bmV, q40]
      (with_reducible apply v_call); (· simp only [vcA, seval, vV, bmV]; with_reducible rfl); (· rfl); (· exact T40); (· first | rfl | (simp only [vcA, seval]; omega)); (· simp only [vcA, seval, vV, bmV]; with_reducible rfl)
      simp only [vcA, seval, vV, bmV]
      (with_reducible apply vq_n)
      simp only [vcA, seval, vV, bmV]
      (with_reducible apply v_call); (· simp only [vcA, seval, vV, bmV]; with_reducible rfl); (· rfl); (· exact HE); (· first | rfl | (simp only [vcA, seval]; omega)); (· simp only [vcA, seval, vV, bmV]; with_reducible rfl)
      simp only [vcA, seval, vV, bmV]
      (with_reducible apply vq_n)
      simp only [vcA, seval, vV, bmV, q41]
      (with_reducible apply v_call); (· simp only [vcA, seval, vV, bmV]; with_reducible rfl); (· rfl); (· exact HN); (· first | rfl | (simp only [vcA, seval]; omega)); (· simp only [vcA, seval, vV, bmV]; with_reducible rfl)
      simp only [vcA, seval, vV, bmV]
    · cases h
  have h40 : isSg (pkP L sz p) [40] = false := by simpa using h40
  rw [h40, if_neg (by simp)] at T40
  rw [if_neg (by simp [h40])] at h
  by_cases h45 : isSg (pkP L sz p) [45] = true
  · rw [if_pos h45] at h
    rw [h45, if_pos rfl] at T45
    have hlt := isSg_in L sz h45
    cases he : pT L sz f (p + 1) with
    | none => rw [he] at h; cases h
    | some r =>
    cases r with
    | bad a q' => rw [he] at h; cases h
    | ok e1 p1 =>
    rw [he] at h
    cases h
    have HE := (ih f (Nat.lt_succ_self f)).2.2.1 (p + 1) e1 p' hlt he
    refine call_of hmix tf___expr_parser__tight rfl rfl rfl ?_
    unfold pB pcs B at *
    simp only [vcA, seval, vV, bmV, q40]
    (with_reducible apply v_call); (· simp only [vcA, seval, vV, bmV]; with_reducible rfl); (· rfl); (· exact T40); (· first | rfl | (simp only [vcA, seval]; omega)); (· simp only [vcA, seval, vV, bmV]; with_reducible rfl)
    simp only [vcA, seval, vV, bmV, q45]
    (with_reducible apply v_call); (· simp only [vcA, seval, vV, bmV]; with_reducible rfl); (· rfl); (· exact T45); (· first | rfl | (simp only [vcA, seval]; omega)); (· simp only [vcA, seval, vV, bmV]; with_reducible rfl)
    simp only [vcA, seval, vV, bmV]
    (with_reducible apply vq_n)
    simp only [vcA, seval, vV, bmV]
    (with_reducible apply v_call); (· simp only [vcA, seval, vV, bmV]; with_reducible rfl); (· rfl); (· exact HE); (· first | rfl | (simp only [vcA, seval]; omega)); (· simp only [vcA, seval, vV, bmV]; with_reducible rfl)
    simp only [vcA, seval, vV, bmV, q45]
    rw [show V.rows [e1] = [V.row e1] from rfl, row4]
  have h45 : isSg (pkP L sz p) [45] = false := by simpa using h45
  rw [h45, if_neg (by simp)] at T45
  rw [if_neg (by simp [h45])] at h
  have HP := peek_ok g L p sz (by omega)
  have w1 : IntKind.i64.wrap ((p : Int) + 1) = ((p + 1 : Nat) : Int) := by unfold maxLen at hml; rw [wrap64 (by omega) (by omega)]; omega
  have hin := fun hk => pk_in L sz (p := p) rfl hk
  generalize hq : pkP L sz p = q at *
  by_cases k1 : q.k = 1
  · rw [if_pos k1] at h
    cases h
    refine SCalls.out ?_ (nv_out 1 q.n [])
    refine call_of hmix tf___expr_parser__tight rfl rfl rfl ?_
    unfold pB pcs B pcT at *
    simp only [vcA, seval, vV, bmV, q40]
    (with_reducible apply v_call); (· simp only [vcA, seval, vV, bmV]; with_reducible rfl); (· rfl); (· exact T40); (· first | rfl | (simp only [vcA, seval]; omega)); (· simp only [vcA, seval, vV, bmV]; with_reducible rfl)
    simp only [vcA, seval, vV, bmV, q45]
    (with_reducible apply v_call); (· simp only [vcA, seval, vV, bmV]; with_reducible rfl); (· rfl); (· exact T45); (· first | rfl | (simp only [vcA, seval]; omega)); (· simp only [vcA, seval, vV, bmV]; with_reducible rfl)
    simp only [vcA, seval, vV, bmV]
    (with_reducible apply v_call); (· simp only [vcA, seval, vV, bmV]; with_reducible rfl); (· rfl); (· exact HP); (· first | rfl | (simp only [vcA, seval]; omega)); (· simp only [vcA, seval, vV, bmV]; with_reducible rfl)
    simp only [vcA, seval, vV, bmV, k1, w1]
    rfl
  rw [if_neg k1] at h
  by_cases k2 : q.k = 2
  · rw [if_pos k2] at h
    cases h
    refine SCalls.out ?_ (nv_out 2 0 q.s)
    refine call_of hmix tf___expr_parser__tight rfl rfl rfl ?_
    unfold pB pcs B pcT at *
    simp only [vcA, seval, vV, bmV, q40]
    (with_reducible apply v_call); (· simp only [vcA, seval, vV, bmV]; with_reducible rfl); (· rfl); (· exact T40); (· first | rfl | (simp only [vcA, seval]; omega)); (· simp only [vcA, seval, vV, bmV]; with_reducible rfl)
    simp only [vcA, seval, vV, bmV, q45]
    (with_reducible apply v_call); (· simp only [vcA, seval, vV, bmV]; with_reducible rfl); (· rfl); (· exact T45); (· first | rfl | (simp only [vcA, seval]; omega)); (· simp only [vcA, seval, vV, bmV]; with_reducible rfl)
    simp only [vcA, seval, vV, bmV]
    (with_reducible apply v_call); (· simp only [vcA, seval, vV, bmV]; with_reducible rfl); (· rfl); (· exact HP); (· first | rfl | (simp only [vcA, seval]; omega)); (· simp only [vcA, seval, vV, bmV]; with_reducible rfl)
    simp only [vcA, seval, vV, bmV, k2, w1]
  rw [if_neg k2] at h
  by_cases k3 : q.k = 3
  · rw [if_pos k3] at h
    have hlt := hin (by rw [k3]; decide)
    have HK := takes_ok g q.s
    obtain ⟨t0, t3⟩ := takes_rng q.s
    have T2 := take_ok g L (p + 1) sz [40] (by omega) (by omega)
    have hin2 : isSg (pkP L sz (p + 1)) [40] = true → p + 1 < L.length := fun h => isSg_in L sz h
    generalize isSg (pkP L sz (p + 1)) [40] = b at *
    generalize ht : takesV q.s = t at *
    by_cases hc : 0 < t ∧ b = true
    · rw [if_pos hc] at h
      obtain ⟨hc1, rfl⟩ := hc
      rw [if_pos rfl] at T2
      cases he : pH L sz f t.toNat 0 (p + 2) [] with
      | none => rw [he] at h; cases h
      | some r =>
      cases r with
      | bad a q' => rw [he] at h; cases h
      | ok l p1 =>
      rw [he] at h
      cases h
      have HH := things_ok_of hL (fun f' hf' => (ih f' (by omega)).1) t.toNat (p + 2) l p' (by omega) (by omega) (hin2 rfl) he
      have ht2 : ((t.toNat : Nat) : Int) = t := by omega
      rw [ht2] at HH
      refine call_of hmix tf___expr_parser__tight rfl rfl rfl ?_
      unfold pB pcs B pcT at *
      simp only [vcA, seval, vV, bmV, q40]
      (with_reducible apply v_call); (· simp only [vcA, seval, vV, bmV]; with_reducible rfl); (· rfl); (· exact T40); (· first | rfl | (simp only [vcA, seval]; omega)); (· simp only [vcA, seval, vV, bmV]; with_reducible rfl)
      simp only [vcA, seval, vV, bmV, q45]
      (with_reducible apply v_call); (· simp only [vcA, seval, vV, bmV]; with_reducible rfl); (· rfl); (· exact T45); (· first | rfl | (simp only [vcA, seval]; omega)); (· simp only [vcA, seval, vV, bmV]; with_reducible rfl)
      simp only [vcA, seval, vV, bmV]
      (with_reducible apply v_call); (· simp only [vcA, seval, vV, bmV]; with_reducible rfl); (· rfl); (· exact HP); (· first | rfl | (simp only [vcA, seval]; omega)); (· simp only [vcA, seval, vV, bmV]; with_reducible rfl)
      simp only [vcA, seval, vV, bmV, k3, w1]
      (with_reducible apply v_call); (· simp only [vcA, seval, vV]; with_reducible rfl); (· rfl); (· exact HK); (· first | rfl | (simp only [vcA, seval]; omega)); (· simp only [vcA, seval, vV]; with_reducible rfl)
      simp only [vcA, seval, vV, bmV, hc1, q40]
      (with_reducible apply v_call); (· simp only [vcA, seval, vV, bmV]; with_reducible rfl); (· rfl); (· exact T2); (· first | rfl | (simp only [vcA, seval]; omega)); (· simp only [vcA, seval, vV, bmV]; with_reducible rfl)
      simp only [vcA, seval, vV, bmV]
      (with_reducible apply vq_n)
      simp only [vcA, seval, vV, bmV]
      (with_reducible apply v_call); (· simp only [vcA, seval, vV, bmV]; with_reducible rfl); (· rfl); (· exact HH); (· first | rfl | (simp only [vcA, seval]; omega)); (· simp only [vcA, seval, vV, bmV]; with_reducible rfl)
      simp only [vcA, seval, vV, bmV]
    · rw [if_neg hc] at h
      cases h
      refine SCalls.out ?_ (nv_out 3 0 q.s)
      refine call_of hmix tf___expr_parser__tight rfl rfl rfl ?_
      unfold pB pcs B pcT at *
      simp only [vcA, seval, vV, bmV, q40]
      (with_reducible apply v_call); (· simp only [vcA, seval, vV, bmV]; with_reducible rfl); (· rfl); (· exact T40); (· first | rfl | (simp only [vcA, seval]; omega)); (· simp only [vcA, seval, vV, bmV]; with_reducible rfl)
      simp only [vcA, seval, vV, bmV, q45]
      (with_reducible apply v_call); (· simp only [vcA, seval, vV, bmV]; with_reducible rfl); (· rfl); (· exact T45); (· first | rfl | (simp only [vcA, seval]; omega)); (· simp only [vcA, seval, vV, bmV]; with_reducible rfl)
      simp only [vcA, seval, vV, bmV]
      (with_reducible apply v_call); (· simp only [vcA, seval, vV, bmV]; with_reducible rfl); (· rfl); (· exact HP); (· first | rfl | (simp only [vcA, seval]; omega)); (· simp only [vcA, seval, vV, bmV]; with_reducible rfl)
      simp only [vcA, seval, vV, bmV, k3, w1]
      (with_reducible apply v_call); (· simp only [vcA, seval, vV]; with_reducible rfl); (· rfl); (· exact HK); (· first | rfl | (simp only [vcA, seval]; omega)); (· simp only [vcA, seval, vV]; with_reducible rfl)
      by_cases hc1 : 0 < t
      · have hb : b = false := by simpa [hc1] using hc
        rw [hb, if_neg (by simp)] at T2
        simp only [vcA, seval, vV, bmV, hc1, q40]
        (with_reducible apply v_call); (· simp only [vcA, seval, vV, bmV]; with_reducible rfl); (· rfl); (· exact T2); (· first | rfl | (simp only [vcA, seval]; omega)); (· simp only [vcA, seval, vV, bmV]; with_reducible rfl)
        simp only [vcA, seval, vV, bmV]
      · simp only [vcA, seval, vV, bmV, hc1]
  rw [if_neg k3] at h
  cases h
theorem tight_bad_of {f : Nat} (hL : L.length ≤ 4611686018427387904) (ih : ∀ f', f' < f → EOk g L sz f' ∧ EBad g L sz f' ∧ TOk g L sz f' ∧ TBad g L sz f') : TBad g L sz f := by
  intro p a p' hp h
  have hml : L.length < maxLen := by unfold maxLen; omega
  cases f with
  | zero => simp [pT] at h
  | succ f =>
  have T40 := take_ok g L p sz [40] (by omega) (by omega)
  have T45 := take_ok g L p sz [45] (by omega) (by omega)
  have q40 : (⟨#[40]⟩ : ByteArray) = str [40] := rfl
  have q41 : (⟨#[41]⟩ : ByteArray) = str [41] := rfl
  have q45 : (⟨#[45]⟩ : ByteArray) = str [45] := rfl
  rw [pT] at h
  refine pan_of hmix tf___expr_parser__tight rfl rfl rfl ?_
  by_cases h40 : isSg (pkP L sz p) [40] = true
  · rw [if_pos h40] at h
    rw [h40, if_pos rfl] at T40
    have hlt := isSg_in L sz h40
    unfold pB pcs B wrongV at *
    simp only [vcA, seval, vV, bmV, q40]
    (with_reducible apply v_call); (· simp only [vcA, seval, vV, bmV]; with_reducible rfl); (· rfl); (· exact T40); (· first | rfl | (simp only [vcA, seval]; omega)); (· simp only [vcA, seval, vV, bmV]; with_reducible rfl)
    simp only [vcA, seval, vV, bmV]
    cases he : pE L sz f 1 (p + 1) with
    | none => rw [he] at h; cases h
    | some r =>
    cases r with
    | bad a q' =>
      rw [he] at h; cases h
      have HE := (ih f (Nat.lt_succ_self f)).2.1 1 (p + 1) a p' (by omega) (by omega) hlt he
      unfold pB pcs wrongV at HE
      (with_reducible apply vq_p)
      simp only [vcA, seval, vV, bmV]
      (with_reducible apply vp_call); (· rfl); (· simp only [vcA, seval, vV, bmV]; with_reducible rfl); (· exact HE); (· first | rfl | (simp only [vcA, seval]; omega)); (· simp only [vcA, seval, vV, bmV]; with_reducible rfl); simp only [vcA, seval, vV, bmV]
    | ok e1 p1 =>
    rw [he] at h
    simp only at h
    have HE := (ih f (Nat.lt_succ_self f)).1 1 (p + 1) e1 p1 (by omega) (by omega) hlt he
    have hp1 := (p_le L sz f).1 _ _ _ _ hlt he
    unfold pB pcs at HE
    (with_reducible apply vq_n)
    simp only [vcA, seval, vV, bmV]
    (with_reducible apply v_call); (· simp only [vcA, seval, vV, bmV]; with_reducible rfl); (· rfl); (· exact HE); (· first | rfl | (simp only [vcA, seval]; omega)); (· simp only [vcA, seval, vV, bmV]; with_reducible rfl)
    simp only [vcA, seval, vV, bmV]
    split at h
    · cases h
    · rename_i h41
      cases h
      have HN := need_pan g L p' sz [41] (by omega) (by omega) (by simpa using h41)
      unfold pB pcs wrongV at HN
      (with_reducible apply vq_p)
      simp only [vcA, seval, vV, bmV, q41]
      (with_reducible apply vp_call); (· rfl); (· simp only [vcA, seval, vV, bmV]; with_reducible rfl); (· exact HN); (· first | rfl | (simp only [vcA, seval]; omega)); (· simp only [vcA, seval, vV, bmV]; with_reducible rfl); simp only [vcA, seval, vV, bmV]
  have h40 : isSg (pkP L sz p) [40] = false := by simpa using h40
  rw [h40, if_neg (by simp)] at T40
  rw [if_neg (by simp [h40])] at h
  by_cases h45 : isSg (pkP L sz p) [45] = true
  · rw [if_pos h45] at h
    rw [h45, if_pos rfl] at T45
    have hlt := isSg_in L sz h45
    unfold pB pcs B wrongV at *
    simp only [vcA, seval, vV, bmV, q40]
    (with_reducible apply v_call); (· simp only [vcA, seval, vV, bmV]; with_reducible rfl); (· rfl); (· exact T40); (· first | rfl | (simp only [vcA, seval]; omega)); (· simp only [vcA, seval, vV, bmV]; with_reducible rfl)
    simp only [vcA, seval, vV, bmV, q45]
    (with_reducible apply v_call); (· simp only [vcA, seval, vV, bmV]; with_reducible rfl); (· rfl); (· exact T45); (· first | rfl | (simp only [vcA, seval]; omega)); (· simp only [vcA, seval, vV, bmV]; with_reducible rfl)
    simp only [vcA, seval, vV, bmV]
    cases he : pT L sz f (p + 1) with
    | none => rw [he] at h; cases h
    | some r =>
    cases r with
    | ok e1 q' => rw [he] at h; cases h
    | bad a q' =>
    rw [he] at h
    cases h
    have HE := (ih f (Nat.lt_succ_self f)).2.2.2 (p + 1) a p' hlt he
    unfold pB pcs wrongV at HE
    (with_reducible apply vq_p)
    simp only [vcA, seval, vV, bmV]
    (with_reducible apply vp_call); (· rfl); (· simp only [vcA, seval, vV, bmV]; with_reducible rfl); (· exact HE); (· first | rfl | (simp only [vcA, seval]; omega)); (· simp only [vcA, seval, vV, bmV]; with_reducible rfl); simp only [vcA, seval, vV, bmV]
  have h45 : isSg (pkP L sz p) [45] = false := by simpa using h45
  rw [h45, if_neg (by simp)] at T45
  rw [if_neg (by simp [h45])] at h
  have HP := peek_ok g L p sz (by omega)
  have w1 : IntKind.i64.wrap ((p : Int) + 1) = ((p + 1 : Nat) : Int) := by unfold maxLen at hml; rw [wrap64 (by omega) (by omega)]; omega
  have hin := fun hk => pk_in L sz (p := p) rfl hk
  have HK := takes_ok g (pkP L sz p).s
  have T2 := take_ok g L (p + 1) sz [40] (by omega)
  have hin2 : isSg (pkP L sz (p + 1)) [40] = true → p + 1 < L.length := fun h => isSg_in L sz h
  generalize isSg (pkP L sz (p + 1)) [40] = b at *
  generalize hq : pkP L sz p = q at *
  unfold pB pcs B pcT wrongV at *
  simp only [vcA, seval, vV, bmV, q40]
  (with_reducible apply v_call); (· simp only [vcA, seval, vV, bmV]; with_reducible rfl); (· rfl); (· exact T40); (· first | rfl | (simp only [vcA, seval]; omega)); (· simp only [vcA, seval, vV, bmV]; with_reducible rfl)
  simp only [vcA, seval, vV, bmV, q45]
  (with_reducible apply v_call); (· simp only [vcA, seval, vV, bmV]; with_reducible rfl); (· rfl); (· exact T45); (· first | rfl | (simp only [vcA, seval]; omega)); (· simp only [vcA, seval, vV, bmV]; with_reducible rfl)
  simp only [vcA, seval, vV, bmV]
  (with_reducible apply v_call); (· simp only [vcA, seval, vV, bmV]; with_reducible rfl); (· rfl); (· exact HP); (· first | rfl | (simp only [vcA, seval]; omega)); (· simp only [vcA, seval, vV, bmV]; with_reducible rfl)
  by_cases k1 : q.k = 1
  · rw [if_pos k1] at h; cases h
  rw [if_neg k1] at h
  by_cases k2 : q.k = 2
  · rw [if_pos k2] at h; cases h
  rw [if_neg k2] at h
  by_cases k3 : q.k = 3
  · rw [if_pos k3] at h
    have hlt := hin (by rw [k3]; decide)
    obtain ⟨t0, t3⟩ := takes_rng q.s
    have T2 := T2 (by omega)
    generalize ht : takesV q.s = t at *
    by_cases hc : 0 < t ∧ b = true
    · rw [if_pos hc] at h
      obtain ⟨hc1, rfl⟩ := hc
      rw [if_pos rfl] at T2
      cases he : pH L sz f t.toNat 0 (p + 2) [] with
      | none => rw [he] at h; cases h
      | some r =>
      cases r with
      | ok l p1 => rw [he] at h; cases h
      | bad a q' =>
      rw [he] at h
      cases h
      have HH := things_bad_of hL (fun f' hf' => (ih f' (by omega)).1) (fun f' hf' => (ih f' (by omega)).2.1) t.toNat (p + 2) a p' (by omega) (by omega) (hin2 rfl) he
      have ht2 : ((t.toNat : Nat) : Int) = t := by omega
      rw [ht2] at HH
      unfold pB pcs wrongV at HH
      simp only [vcA, seval, vV, bmV, k3, w1]
      (with_reducible apply v_call); (· simp only [vcA, seval, vV]; with_reducible rfl); (· rfl); (· exact HK); (· first | rfl | (simp only [vcA, seval]; omega)); (· simp only [vcA, seval, vV]; with_reducible rfl)
      simp only [vcA, seval, vV, bmV, hc1, q40]
      (with_reducible apply v_call); (· simp only [vcA, seval, vV, bmV]; with_reducible rfl); (· rfl); (· exact T2); (· first | rfl | (simp only [vcA, seval]; omega)); (· simp only [vcA, seval, vV, bmV]; with_reducible rfl)
      simp only [vcA, seval, vV, bmV]
      (with_reducible apply vq_p)
      simp only [vcA, seval, vV, bmV]
      (with_reducible apply vp_call); (· rfl); (· simp only [vcA, seval, vV, bmV]; with_reducible rfl); (· exact HH); (· first | rfl | (simp only [vcA, seval]; omega)); (· simp only [vcA, seval, vV, bmV]; with_reducible rfl); simp only [vcA, seval, vV, bmV]
    · rw [if_neg hc] at h
      cases h
  rw [if_neg k3] at h
  cases h
  simp only [vcA, seval, vV, bmV, k1, k2, k3, w1]
  (with_reducible apply vq_p)
  simp only [vcA, seval, vV, bmV]
theorem parser_ok (hL : L.length ≤ 4611686018427387904) (f : Nat) : EOk g L sz f ∧ EBad g L sz f ∧ TOk g L sz f ∧ TBad g L sz f := by
  induction f using Nat.strongRecOn with
  | _ f ih => exact ⟨expr_ok_of hL ih, expr_bad_of hL ih, tight_ok_of hL ih, tight_bad_of hL ih⟩
end
end Go.Proofs.YtmiokadmddjccaaGreatDoor
end
