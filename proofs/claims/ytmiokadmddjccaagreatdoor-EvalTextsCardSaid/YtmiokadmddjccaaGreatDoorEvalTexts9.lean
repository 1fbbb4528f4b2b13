/- Merged texts: Base S17 Pcm OpenS Cd1 Px2 Cd6 Pe2 PSign Px5 Pe4 Px7 Pe7 Pe8 Sn1 Sy5 Sy6 Sy12 Cd2 Zt7 Pt0 Pt3 Zg13 Zg15. No statement of the program is proved here. -/
import Derived.Test.YtmiokadmddjccaaGreatDoorM1
import Derived.Test.YtmiokadmddjccaaGreatDoorM2
import Derived.Test.YtmiokadmddjccaaGreatDoorM3
import Derived.Test.YtmiokadmddjccaaGreatDoorM4
import Derived.Test.YtmiokadmddjccaaGreatDoorM5
import Derived.Test.YtmiokadmddjccaaGreatDoorM6
import Derived.Test.YtmiokadmddjccaaGreatDoorM7
import Derived.Test.YtmiokadmddjccaaGreatDoorM8
set_option linter.unusedSimpArgs false
set_option linter.unusedVariables false
section
namespace Go.Mor
open Go Go.RowKit
theorem str_of (s : ByteArray) : str s.data.toList = s := by cases s; simp [str]

end Go.Mor
end

section
namespace Go.Sh
open Go Go.RowKit
set_option maxHeartbeats 4000000
section
variable {P : Program} {g : Glob} {o : SOper} {l : List SOper} {K : ES → Prop} {s : ES}
end
section
variable (P : Program) (t : TypeId) (k : IntKind) (a b : Int) (x y : ByteArray)
end
section
variable {P : Program} {g : Glob} {a b c : SCode} {Q : SExit → ES → Prop} {s s' : ES} {n kill : List Nat} {l : List SOper} {r : List (List Nat × List SOper)}
def unrollW (P : Program) (g : Glob) (a : SCode) (Q : SExit → ES → Prop) : Nat → ES → Prop
 | 0, _ => False
 | k + 1, s => swp P g a (thenW (unrollW P g a Q k) Q) s
theorem z107 (k : Nat) (h : unrollW P g a Q k s) : swp P g (.loop a) Q s := by
 refine ⟨fun n s => unrollW P g a Q n s, k, ⟨s, .refl s, h⟩, fun n s h => ?_⟩
 cases n with
 | zero => exact h.elim
 | succ n =>
  refine z39 (c := a) h (fun e s he => ?_)
  cases e with
  | normal => exact ⟨n, Nat.lt_succ_self n, s, .refl s, he⟩
  | exit id => exact he
  | ret => exact he
  | pan z => exact he
end
end Go.Sh
end

section
namespace Go.Proofs.YtmiokadmddjccaaGreatDoor
open Go Go.Mor
def pickI (c n : Int) : Int := (if c < 0 then -(c + 1) else c).tmod n
end Go.Proofs.YtmiokadmddjccaaGreatDoor
end

section
namespace Go.Proofs.YtmiokadmddjccaaGreatDoor
open Go.RowKit Go.Lib
theorem str_len {s : ByteArray} (h : s.size ≤ maxLen) : s.data.toList.length ≤ 9223372036854775807 := by
 have : s.data.toList.length = s.size := Array.length_toList
 unfold maxLen at h; omega
end Go.Proofs.YtmiokadmddjccaaGreatDoor
end

section
namespace Go.Sh.Cd1
open Go Go.Sh
set_option maxRecDepth 100000
abbrev c_63_0 : SCode := .reg [([], [oD 2 (.mov (.val (.string ⟨#[]⟩)))])] [2]
abbrev c_63_1 : SCode := .reg [([], [oD 3 (.mov (.val (.string ⟨#[]⟩)))])] []
abbrev c_63_2 : SCode := .reg [([], [oD 4 (.mov (vI 0))])] []
abbrev c_63_3 : SCode := .reg [([], [oM 7 4, oM 8 0, oD 9 (.slen (.tmp 8)), oD 10 (.bin .lss 3 (.tmp 7) (.tmp 9)), oM 11 10, oH 12 11 true 3, oG 13 11 true (.slen (.tmp 12)), oG 14 11 true (.bin .lss 3 (.tmp 13) (vI 17)), oP 15 11 14 false])] [7, 8, 9, 10, 11, 12, 13, 14]
abbrev c_63_4 : SCode := .reg [([2076, 2077, 2078, 2079], [oM 16 0, oM 17 4, oD 18 (.ssub (.tmp 16) (some (.tmp 17)) none), oD 19 (.call 51 0 [.tmp 18]), oD 20 (.imm true (.tmp 19) (vI 1)), oM 5 20])] [15, 16, 17, 18, 19, 20]
abbrev c_63_5 : SCode := .reg [([2108, 2109, 2110, 2111], [oM 21 0, oM 22 4, oM 23 4, oM 24 5, oD 25 (.bin .add 3 (.tmp 23) (.tmp 24)), oD 26 (.ssub (.tmp 21) (some (.tmp 22)) (some (.tmp 25))), oD 27 (.call 87 0 [.tmp 26]), oM 6 27])] [21, 22, 23, 24, 25, 26, 27]
abbrev c_63_6 : SCode := .reg [([], [oM 28 6])] [6]
abbrev c_63_7 : SCode := .reg [([], [oM 29 3, oM 30 0, oM 31 4, oM 32 4, oM 33 5, oD 34 (.bin .add 3 (.tmp 32) (.tmp 33)), oD 35 (.ssub (.tmp 30) (some (.tmp 31)) (some (.tmp 34))), oD 36 (.bin .add 9 (.tmp 29) (.tmp 35)), oM 3 36])] [28, 29, 30, 31, 32, 33, 34, 35, 36]
abbrev c_63_8 : SCode := .reg [([], [oM 37 4, oM 38 5, oD 39 (.bin .add 3 (.tmp 37) (.tmp 38)), oM 4 39])] [5, 28, 37, 38, 39]
abbrev c_63_9 : SCode := (.seq (.seq c_63_3 (.cond (.tmp 15) .skip (.exit 0))) (.block 1 (.seq c_63_4 (.seq c_63_5 (.seq (.seq c_63_6 (.cond (.tmp 28) c_63_7 .skip)) c_63_8)))))
abbrev c_63_10 : SCode := .reg [([], [oM 40 3, oM 2 40])] [0, 3, 4, 40]
abbrev F_63 : SFunc := ⟨41, (.seq c_63_0 (.seq c_63_1 (.seq (.seq c_63_2 (.block 0 (.loop c_63_9))) (.seq c_63_10 .ret)))), [.tmp 2], false⟩
theorem tf_63 : z6 Go.Proofs.Tryz.prog 37 (hintT [(19, 0), (27, 0)]) (fpT []) (killT (klN 0 F_63.code.kl)) false = some F_63 := by kernel_rfl
abbrev c_86_0 : SCode := .reg [([], [oD 2 (.mov (vI 0))])] [2]
abbrev c_86_1 : SCode := .reg [([], [oM 8 0, oD 9 (.slen (.tmp 8)), oD 10 (.bin .eql 3 (.tmp 9) (vI 0))])] [8, 9]
abbrev c_86_2 : SCode := .reg [([], [oD 2 (.mov (vI 0))])] [0, 10]
abbrev c_86_3 : SCode := .reg [([], [oM 11 0, oD 12 (.sidx (.tmp 11) (vI 0)), oD 13 (.cvi .i64 (.tmp 12)), oM 3 13])] [2, 10, 11, 12, 13]
abbrev c_86_4 : SCode := .reg [([], [oM 14 3, oD 15 (.bin .lss 3 (.tmp 14) (vI 128))])] [14]
abbrev c_86_5 : SCode := .reg [([], [oD 2 (.mov (vI 1))])] [0, 3, 15]
abbrev c_86_6 : SCode := .reg [([], [oD 4 (.mov (vI 0))])] [2, 15]
abbrev c_86_7 : SCode := .reg [([], [oD 5 (.mov (vI 128))])] []
abbrev c_86_8 : SCode := .reg [([], [oD 6 (.mov (vI 191))])] []
abbrev c_86_9 : SCode := .reg [([], [oM 16 3, oD 17 (.bin .geq 3 (.tmp 16) (vI 194)), oM 18 17, oH 19 18 true 3, oG 20 18 true (.bin .leq 3 (.tmp 19) (vI 223)), oP 21 18 20 false])] [16, 17, 18, 19, 20]
abbrev c_86_10 : SCode := .reg [([], [oD 4 (.mov (vI 2))])] [21]
abbrev c_86_11 : SCode := .reg [([], [oM 22 3, oD 23 (.bin .geq 3 (.tmp 22) (vI 224)), oM 24 23, oH 25 24 true 3, oG 26 24 true (.bin .leq 3 (.tmp 25) (vI 239)), oP 27 24 26 false])] [21, 22, 23, 24, 25, 26]
abbrev c_86_12 : SCode := .reg [([], [oD 4 (.mov (vI 3))])] [27]
abbrev c_86_13 : SCode := .reg [([], [oM 28 3, oD 29 (.bin .geq 3 (.tmp 28) (vI 240)), oM 30 29, oH 31 30 true 3, oG 32 30 true (.bin .leq 3 (.tmp 31) (vI 244)), oP 33 30 32 false])] [27, 28, 29, 30, 31, 32]
abbrev c_86_14 : SCode := .reg [([], [oD 4 (.mov (vI 4))])] [33]
abbrev c_86_15 : SCode := .reg [([], [oM 34 4, oD 35 (.bin .eql 3 (.tmp 34) (vI 0)), oM 36 35, oH 37 36 false 0, oG 38 36 false (.slen (.tmp 37)), oH 39 36 false 4, oG 40 36 false (.bin .lss 3 (.tmp 38) (.tmp 39)), oQ 41 36 40 true])] [33, 34, 35, 36, 37, 38, 39, 40]
abbrev c_86_16 : SCode := .reg [([], [oD 2 (.mov (vI 0))])] [0, 3, 4, 5, 6, 41]
abbrev c_86_17 : SCode := .reg [([], [oM 42 3])] [2, 3, 41]
abbrev c_86_18 : SCode := .reg [([], [oD 44 (.bin .eql 3 (.tmp 42) (vI 224)), oM 43 44])] [44]
abbrev c_86_19 : SCode := .reg [([], [oD 5 (.mov (vI 160))])] [42, 43]
abbrev c_86_20 : SCode := .reg [([], [oD 46 (.bin .eql 3 (.tmp 42) (vI 237)), oM 45 46])] [43, 46]
abbrev c_86_21 : SCode := .reg [([], [oD 6 (.mov (vI 159))])] [42, 45]
abbrev c_86_22 : SCode := .reg [([], [oD 48 (.bin .eql 3 (.tmp 42) (vI 240)), oM 47 48])] [45, 48]
abbrev c_86_23 : SCode := .reg [([], [oD 5 (.mov (vI 144))])] [42, 47]
abbrev c_86_24 : SCode := .reg [([], [oD 50 (.bin .eql 3 (.tmp 42) (vI 244)), oM 49 50])] [42, 47, 50]
abbrev c_86_25 : SCode := .reg [([], [oD 6 (.mov (vI 143))])] [49]
abbrev c_86_26 : SCode := .reg [([], [oM 51 0, oD 52 (.sidx (.tmp 51) (vI 1)), oD 53 (.cvi .i64 (.tmp 52)), oM 54 5, oD 55 (.bin .lss 3 (.tmp 53) (.tmp 54)), oM 56 55, oH 57 56 false 0, oG 58 56 false (.sidx (.tmp 57) (vI 1)), oG 59 56 false (.cvi .i64 (.tmp 58)), oH 60 56 false 6, oG 61 56 false (.bin .gtr 3 (.tmp 59) (.tmp 60)), oQ 62 56 61 true])] [5, 6, 49, 51, 52, 53, 54, 55, 56, 57, 58, 59, 60, 61]
abbrev c_86_27 : SCode := .reg [([], [oD 2 (.mov (vI 0))])] [0, 4, 62]
abbrev c_86_28 : SCode := .reg [([], [oD 7 (.mov (vI 2))])] [2, 62]
abbrev c_86_29 : SCode := .reg [([], [oM 63 7, oM 64 4, oD 65 (.bin .lss 3 (.tmp 63) (.tmp 64))])] [63, 64]
abbrev c_86_30 : SCode := .reg [([], [oM 68 0, oM 69 7, oD 70 (.sidx (.tmp 68) (.tmp 69)), oD 71 (.bin .lss 5 (.tmp 70) (.val (.int .u8 128))), oM 72 71, oH 73 72 false 0, oH 74 72 false 7, oG 75 72 false (.sidx (.tmp 73) (.tmp 74)), oG 76 72 false (.bin .gtr 5 (.tmp 75) (.val (.int .u8 191))), oQ 77 72 76 true])] [65, 68, 69, 70, 71, 72, 73, 74, 75, 76]
abbrev c_86_31 : SCode := .reg [([], [oD 2 (.mov (vI 0))])] [0, 4, 7, 77]
abbrev c_86_32 : SCode := .reg [([], [oM 66 7, oD 67 (.bin .add 3 (.tmp 66) (vI 1)), oM 7 67])] [2, 66, 67, 77]
abbrev c_86_33 : SCode := (.seq (.seq c_86_29 (.cond (.tmp 65) .skip (.exit 1))) (.seq (.block 2 (.seq c_86_30 (.cond (.tmp 77) (.seq c_86_31 .ret) .skip))) c_86_32))
abbrev c_86_34 : SCode := .reg [([], [oM 78 4, oM 2 78])] [0, 4, 7, 78]
abbrev F_86 : SFunc := ⟨79, (.seq c_86_0 (.seq (.seq c_86_1 (.cond (.tmp 10) (.seq c_86_2 .ret) .skip)) (.seq c_86_3 (.seq (.seq c_86_4 (.cond (.tmp 15) (.seq c_86_5 .ret) .skip)) (.seq c_86_6 (.seq c_86_7 (.seq c_86_8 (.seq (.seq c_86_9 (.cond (.tmp 21) c_86_10 .skip)) (.seq (.seq c_86_11 (.cond (.tmp 27) c_86_12 .skip)) (.seq (.seq c_86_13 (.cond (.tmp 33) c_86_14 .skip)) (.seq (.seq c_86_15 (.cond (.tmp 41) (.seq c_86_16 .ret) .skip)) (.seq (.seq c_86_17 (.block 0 (.seq c_86_18 (.cond (.tmp 43) c_86_19 (.seq c_86_20 (.cond (.tmp 45) c_86_21 (.seq c_86_22 (.cond (.tmp 47) c_86_23 (.seq c_86_24 (.cond (.tmp 49) c_86_25 .skip)))))))))) (.seq (.seq c_86_26 (.cond (.tmp 62) (.seq c_86_27 .ret) .skip)) (.seq (.seq c_86_28 (.block 1 (.loop c_86_33))) (.seq c_86_34 .ret))))))))))))))), [.tmp 2], false⟩
theorem tf_86 : z6 Go.Proofs.Tryz.prog 51 (hintT []) (fpT []) (killT [(0, [2]), (1, [8, 9]), (2, [0, 10]), (3, [2, 10, 11, 12, 13]), (4, [14]), (5, [0, 3, 15]), (6, [2, 15]), (9, [16, 17, 18, 19, 20]), (10, [21]), (11, [21, 22, 23, 24, 25, 26]), (12, [27]), (13, [27, 28, 29, 30, 31, 32]), (14, [33]), (15, [33, 34, 35, 36, 37, 38, 39, 40]), (16, [0, 3, 4, 5, 6, 41]), (17, [2, 3, 41]), (18, [44]), (19, [42, 43]), (20, [43, 46]), (21, [42, 45]), (22, [45, 48]), (23, [42, 47]), (24, [42, 47, 50]), (25, [49]), (26, [5, 6, 49, 51, 52, 53, 54, 55, 56, 57, 58, 59, 60, 61]), (27, [0, 4, 62]), (28, [2, 62]), (29, [63, 64]), (31, [65, 68, 69, 70, 71, 72, 73, 74, 75, 76]), (32, [0, 4, 7, 77]), (30, [2, 66, 67, 77]), (33, [0, 4, 7, 78])]) false = some F_86 := by kernel_rfl
abbrev c_82_0 : SCode := .reg [([], [oD 2 (.mov (.val (.bool false)))])] [2]
abbrev c_82_1 : SCode := .reg [([], [oD 3 (.mov (vI 0))])] []
abbrev c_82_2 : SCode := .reg [([], [oM 5 3, oM 6 0, oD 7 (.slen (.tmp 6)), oD 8 (.bin .lss 3 (.tmp 5) (.tmp 7))])] [5, 6, 7]
abbrev c_82_3 : SCode := .reg [([2048, 2049, 2050, 2051], [oM 9 0, oM 10 3, oD 11 (.ssub (.tmp 9) (some (.tmp 10)) none), oD 12 (.call 51 0 [.tmp 11]), oM 4 12])] [8, 9, 10, 11, 12]
abbrev c_82_4 : SCode := .reg [([], [oM 13 4, oD 14 (.bin .eql 3 (.tmp 13) (vI 0)), oM 15 14, oH 16 15 false 0, oH 17 15 false 3, oG 18 15 false (.sidx (.tmp 16) (.tmp 17)), oG 19 15 false (.bin .lss 5 (.tmp 18) (.val (.int .u8 32))), oQ 20 15 19 true, oM 21 20, oH 22 21 false 0, oH 23 21 false 3, oG 24 21 false (.sidx (.tmp 22) (.tmp 23)), oG 25 21 false (.bin .eql 5 (.tmp 24) (.val (.int .u8 127))), oQ 26 21 25 true])] [13, 14, 15, 16, 17, 18, 19, 20, 21, 22, 23, 24, 25]
abbrev c_82_5 : SCode := .reg [([], [oD 2 (.mov (.val (.bool false)))])] [0, 3, 4, 26]
abbrev c_82_6 : SCode := .reg [([], [oM 27 3, oM 28 4, oD 29 (.bin .add 3 (.tmp 27) (.tmp 28)), oM 3 29])] [2, 4, 26, 27, 28, 29]
abbrev c_82_7 : SCode := (.seq (.seq c_82_2 (.cond (.tmp 8) .skip (.exit 0))) (.block 1 (.seq c_82_3 (.seq (.seq c_82_4 (.cond (.tmp 26) (.seq c_82_5 .ret) .skip)) c_82_6))))
abbrev c_82_8 : SCode := .reg [([], [oD 2 (.mov (.val (.bool true)))])] [0, 3]
abbrev F_82 : SFunc := ⟨30, (.seq c_82_0 (.seq (.seq c_82_1 (.block 0 (.loop c_82_7))) (.seq c_82_8 .ret))), [.tmp 2], false⟩
theorem tf_82 : z6 Go.Proofs.Tryz.prog 87 (hintT [(12, 0)]) (fpT []) (killT (klN 0 F_82.code.kl)) false = some F_82 := by kernel_rfl
end Go.Sh.Cd1
end

section
namespace Go.Mor
open Go
set_option maxHeartbeats 2000000
def NoWord (l : List UInt8) : Prop := ∀ c r, l = c :: r → nameB c = false
theorem digB_name {b : UInt8} (h : digB b = true) : nameB b = true := by
 unfold digB at h; unfold nameB
 simp only [decide_eq_true_eq] at h
 simp [h]
theorem numG_end {l : List UInt8} (h : NoWord l) (n : Int) (z : Nat) : numG l n z = (n, z) := by
 cases l with
 | nil => rfl
 | cons c r =>
  have hc := h c r rfl
  rw [numG]
  cases hd : digB c with
  | false => simp
  | true => rw [digB_name hd] at hc; cases hc
theorem numG_digits : ∀ (m : Nat), m ≤ 1000000000000000 → ∀ (r : List UInt8) (z : Nat), numG (Lib.decDigits m ++ r) 0 z = numG r m (z + (Lib.decDigits m).length) := by
 have step : ∀ (n d : Nat), d < 10 → 10 * n + d ≤ 1000000000000000 → ∀ r z, numG (UInt8.ofNat (48 + d) :: r) n z = numG r ((10 * n + d : Nat) : Int) (z + 1) := by
  intro n d hd hn r z
  rw [numG, if_pos (by unfold digB; rw [digC d hd]; simp; omega), digC d hd]
  congr 1
  omega
 intro m
 induction m using Nat.strongRecOn with
 | _ m ih =>
  intro h1 r z
  by_cases hm : m < 10
  ·rw [Lib.decDigits_one hm]
   have := step 0 m hm (by omega) r z
   simpa using this
  ·have e0 : Lib.decDigits m = Lib.decDigits (m / 10) ++ [UInt8.ofNat (48 + m % 10)] := by rw [Lib.decDigits, dif_neg hm]
   have e1 := ih (m / 10) (by omega) (by omega) (UInt8.ofNat (48 + m % 10) :: r) z
   have e2 := step (m / 10) (m % 10) (by omega) (by omega) r (z + (Lib.decDigits (m / 10)).length)
   have e3 : 10 * (m / 10) + m % 10 = m := by omega
   rw [e3] at e2
   rw [e0, List.append_assoc, List.singleton_append, e1, e2]
   congr 1
   simp; omega
theorem z137 (m : Nat) : ∃ c r, Lib.decDigits m = c :: r ∧ digB c = true := by
 induction m using Nat.strongRecOn with
 | _ m ih =>
  by_cases hm : m < 10
  ·exact ⟨UInt8.ofNat (48 + m), [], Lib.decDigits_one hm, by unfold digB; rw [digC m hm]; simp; omega⟩
  ·obtain ⟨c, r, h1, h2⟩ := ih (m / 10) (by omega)
   exact ⟨c, r ++ [UInt8.ofNat (48 + m % 10)], by rw [Lib.decDigits, dif_neg hm, h1]; rfl, h2⟩
theorem z29 {n : Int} (h0 : 0 ≤ n) (h1 : n ≤ 1000000000000000) {post : List UInt8} (hp : NoWord post) : LexP (Lib.itoa n) [(1, n, [])] post := by
 obtain ⟨m, rfl⟩ := Int.eq_ofNat_of_zero_le h0
 have hi : Lib.itoa (m : Int) = Lib.decDigits m := by unfold Lib.itoa; simp
 rw [hi]
 obtain ⟨c, r, e1, e2⟩ := z137 m
 refine LexP.one e1 (by rintro rfl; revert e2; decide) (fun a => ⟨⟨1, m, [], a⟩, ?_, rfl⟩)
 have hg : numG (Lib.decDigits m ++ post) 0 0 = ((m : Int), (Lib.decDigits m).length) := by
  rw [numG_digits m (by omega), numG_end hp, Nat.zero_add]
 rw [e1] at hg ⊢
 rw [List.cons_append] at hg ⊢
 unfold readP
 simp only [e2, if_true, hg]
 rw [if_neg (by omega)]
def StopT (l : List UInt8) : Prop := ∀ c r, l = c :: r → c = 32 ∨ c = 41 ∨ c = 44
theorem StopT.word {l : List UInt8} (h : StopT l) : NoWord l := by
 intro c r e
 rcases h c r e with rfl | rfl | rfl <;> decide
theorem stop0 : StopT [] := by intro c r e; cases e
end Go.Mor
end

section
namespace Go.Sh.Cd6
open Go Go.Sh
set_option maxRecDepth 100000
abbrev c_69_0 : SCode := .reg [([], [oD 8 (.mov (.val (.bool false)))])] [8]
abbrev c_69_1 : SCode := .reg [([2092, 2093, 2094, 2095], [oD 23 (.call 31 0 []), oM 9 23])] [23]
abbrev c_69_2 : SCode := .reg [([2100, 2101, 2102, 2103], [oM 24 0, oD 25 (.call 37 0 [.tmp 24]), oM 10 25])] [0, 24, 25]
abbrev c_69_3 : SCode := .reg [([2108, 2109, 2110, 2111], [oM 26 1, oD 27 (.call 38 0 [.tmp 26, vI 30]), oD 28 (.bin .sub 3 (.tmp 27) (vI 3)), oM 11 28])] [1, 26, 27, 28]
abbrev c_69_4 : SCode := .reg [([2128, 2129, 2130, 2131, 2132, 2133, 2134, 2135], [oM 29 11, oM 30 10, oM 31 10, oD 32 (.call 40 0 [.tmp 31]), oD 33 (.call 39 0 [.val (.string ⟨#[108, 101, 102, 116, 40, 116, 44, 32, 110, 41, 32, 38, 32, 102, 114, 111, 109, 40, 116, 44, 32, 110, 41]⟩), .tmp 29, .tmp 30, .tmp 32]), oM 12 33])] [29, 30, 31, 32, 33]
abbrev c_69_5 : SCode := .reg [([2144, 2145, 2146, 2147, 2148, 2149, 2150, 2151], [oM 34 11, oM 35 10, oD 36 (.call 41 0 [vI 0]), oD 37 (.call 39 0 [.val (.string ⟨#[108, 101, 110, 40, 108, 101, 102, 116, 40, 116, 44, 32, 110, 41, 41, 32, 43, 32, 108, 101, 110, 40, 102, 114, 111, 109, 40, 116, 44, 32, 110, 41, 41, 32, 45, 32, 108, 101, 110, 40, 116, 41]⟩), .tmp 34, .tmp 35, .tmp 36]), oM 13 37])] [34, 35, 36, 37]
abbrev c_69_6 : SCode := .reg [([2160, 2161, 2162, 2163, 2164, 2165, 2166, 2167], [oM 38 11, oM 39 10, oD 40 (.call 41 0 [vI 1]), oD 41 (.call 39 0 [.val (.string ⟨#[114, 105, 103, 104, 116, 40, 116, 44, 32, 110, 41, 32, 61, 32, 102, 114, 111, 109, 40, 116, 44, 32, 108, 101, 110, 40, 116, 41, 32, 45, 32, 109, 97, 120, 40, 110, 44, 32, 48, 41, 41]⟩), .tmp 38, .tmp 39, .tmp 40]), oM 14 41])] [11, 38, 39, 40, 41]
abbrev c_69_7 : SCode := .reg [([2176, 2177, 2178, 2179, 15], [oM 43 10, oD 44 (.call 42 0 [.val (.string ⟨#[108, 101, 110, 40, 116, 41]⟩), vI 0, .tmp 43]), oM 42 44, oD 45 (.ext (.tmp 42) 0), oD 46 (.ext (.tmp 42) 1), oD 15 (.new zV), oN (.st 4 (.tmp 15) (.tmp 45)), oM 16 46])] [42, 43, 44, 45, 46]
abbrev c_69_8 : SCode := .reg [([2212, 2213, 2214, 2215], [oM 47 16, oD 48 (.un .not (.tmp 47)), oM 49 48, oG 50 49 false (.fldA 1 (.tmp 15)), oG 51 49 false (.ld false 1 (.tmp 50)), oH 52 49 false 10, oG 53 49 false (.call 43 0 [.tmp 52]), oG 54 49 false (.bin .neq 3 (.tmp 51) (.tmp 53)), oQ 55 49 54 true])] [16, 47, 48, 49, 50, 51, 52, 53, 54]
abbrev c_69_9 : SCode := .reg [([], [oD 8 (.mov (.val (.bool false)))])] [2, 3, 9, 10, 12, 13, 14, 15, 55]
abbrev c_69_10 : SCode := .reg [([2240, 2241, 2242, 2243, 2244, 2245, 2246, 2247], [oM 56 2, oD 57 (.fldA 1 (.tmp 15)), oL 58 false 1 57, oD 59 (.bin .add 3 (.tmp 58) (vI 1)), oD 60 (.call 38 0 [.tmp 56, .tmp 59]), oD 61 (.call 44 0 [.tmp 60]), oM 17 61])] [2, 8, 15, 55, 56, 57, 58, 59, 60, 61]
abbrev c_69_11 : SCode := .reg [([2252, 2253, 2254, 2255, 2256, 2257, 2258, 2259], [oM 62 3, oD 63 (.call 38 0 [.tmp 62, vI 9]), oD 64 (.call 44 0 [.tmp 63]), oM 18 64])] [3, 62, 63, 64]
abbrev c_69_12 : SCode := .reg [([], [oM 65 17, oD 66 (.bin .add 9 (.val (.string ⟨#[108, 101, 102, 116, 40, 102, 114, 111, 109, 40, 116, 44, 32]⟩)) (.tmp 65)), oD 67 (.bin .add 9 (.tmp 66) (.val (.string ⟨#[41, 44, 32]⟩))), oM 68 18, oD 69 (.bin .add 9 (.tmp 67) (.tmp 68)), oD 70 (.bin .add 9 (.tmp 69) (.val (.string ⟨#[41]⟩))), oM 19 70])] [18, 65, 66, 67, 68, 69, 70]
abbrev c_69_13 : SCode := .reg [([2308, 2309, 2310, 2311, 2312, 2313, 2314, 2315], [oM 71 19, oD 72 (.bin .add 9 (.val (.string ⟨#[102, 105, 110, 100, 40, 116, 44, 32]⟩)) (.tmp 71)), oD 73 (.bin .add 9 (.tmp 72) (.val (.string ⟨#[41, 32, 60, 61, 32]⟩))), oM 74 17, oD 75 (.bin .add 9 (.tmp 73) (.tmp 74)), oM 76 10, oD 77 (.call 41 0 [vI 1]), oD 78 (.call 39 0 [.tmp 75, vI 0, .tmp 76, .tmp 77]), oM 20 78])] [17, 71, 72, 73, 74, 75, 76, 77, 78]
abbrev c_69_14 : SCode := .reg [([2352, 2353, 2354, 2355, 2356, 2357, 2358, 2359], [oM 79 19, oD 80 (.bin .add 9 (.val (.string ⟨#[108, 101, 102, 116, 40, 102, 114, 111, 109, 40, 116, 44, 32, 102, 105, 110, 100, 40, 116, 44, 32]⟩)) (.tmp 79)), oD 81 (.bin .add 9 (.tmp 80) (.val (.string ⟨#[41, 41, 44, 32, 108, 101, 110, 40]⟩))), oM 82 19, oD 83 (.bin .add 9 (.tmp 81) (.tmp 82)), oD 84 (.bin .add 9 (.tmp 83) (.val (.string ⟨#[41, 41, 32, 61, 32]⟩))), oM 85 19, oD 86 (.bin .add 9 (.tmp 84) (.tmp 85)), oM 87 10, oD 88 (.call 41 0 [vI 1]), oD 89 (.call 39 0 [.tmp 86, vI 0, .tmp 87, .tmp 88]), oM 21 89])] [19, 79, 80, 81, 82, 83, 84, 85, 86, 87, 88, 89]
abbrev c_69_15 : SCode := .reg [([2364, 2365, 2366, 2367, 2368, 2369, 2370, 2371], [oM 90 10, oD 91 (.call 41 0 [(.val (.int .i64 (-1)))]), oD 92 (.call 39 0 [.val (.string ⟨#[102, 105, 110, 100, 40, 116, 44, 32, 116, 32, 38, 32, 34, 120, 34, 41]⟩), vI 0, .tmp 90, .tmp 91]), oM 22 92])] [10, 90, 91, 92]
abbrev c_69_16 : SCode := .reg [([], [oM 93 9, oM 94 93, oH 95 94 true 12, oP 96 94 95 false, oM 97 96, oH 98 97 true 13, oP 99 97 98 false, oM 100 99, oH 101 100 true 14, oP 102 100 101 false, oM 103 102, oH 104 103 true 20, oP 105 103 104 false, oM 106 105, oH 107 106 true 21, oP 108 106 107 false, oM 109 108, oH 110 109 true 22, oP 111 109 110 false, oM 8 111])] [9, 12, 13, 14, 20, 21, 22, 93, 94, 95, 96, 97, 98, 99, 100, 101, 102, 103, 104, 105, 106, 107, 108, 109, 110, 111]
abbrev F_69 : SFunc := ⟨112, (.seq c_69_0 (.seq c_69_1 (.seq c_69_2 (.seq c_69_3 (.seq c_69_4 (.seq c_69_5 (.seq c_69_6 (.seq c_69_7 (.seq (.seq c_69_8 (.cond (.tmp 55) (.seq c_69_9 .ret) .skip)) (.seq c_69_10 (.seq c_69_11 (.seq c_69_12 (.seq c_69_13 (.seq c_69_14 (.seq c_69_15 (.seq c_69_16 .ret)))))))))))))))), [.tmp 8], false⟩
theorem tf_69 : z6 Go.Proofs.Tryz.prog 7 (hintT [(23, 0), (25, 0), (27, 0), (32, 0), (33, 0), (36, 0), (37, 0), (40, 0), (41, 0), (44, 0), (53, 0), (60, 0), (61, 0), (63, 0), (64, 0), (77, 0), (78, 0), (88, 0), (89, 0), (91, 0), (92, 0)]) (fpT []) (killT (klN 0 F_69.code.kl)) false = some F_69 := by kernel_rfl
abbrev c_74_0 : SCode := .reg [([], [oD 4 (.mov (vI 0))])] [4]
abbrev c_74_1 : SCode := .reg [([], [oM 5 0, oD 6 (.bin .lss 3 (.tmp 5) (vI 0))])] [5]
abbrev c_74_2 : SCode := .reg [([], [oM 7 0, oD 8 (.bin .add 3 (.tmp 7) (vI 1)), oD 9 (.un .neg (.tmp 8)), oM 0 9])] [6, 7, 8, 9]
abbrev c_74_3 : SCode := .reg [([], [oM 10 0, oM 11 1, oD 12 (.bin .rem 3 (.tmp 10) (.tmp 11)), oM 4 12])] [0, 1, 6, 10, 11, 12]
abbrev F_74 : SFunc := ⟨13, (.seq c_74_0 (.seq (.seq c_74_1 (.cond (.tmp 6) c_74_2 .skip)) (.seq c_74_3 .ret))), [.tmp 4], false⟩
theorem tf_74 : z6 Go.Proofs.Tryz.prog 38 (hintT []) (fpT []) (killT (klN 0 F_74.code.kl)) false = some F_74 := by kernel_rfl
abbrev c_88_0 : SCode := .reg [([], [oD 2 (.mov (vI 0))])] [2]
abbrev c_88_1 : SCode := .reg [([], [oD 3 (.mov (vI 0))])] []
abbrev c_88_2 : SCode := .reg [([], [oD 4 (.mov (vI 0))])] []
abbrev c_88_3 : SCode := .reg [([], [oM 6 4, oM 7 0, oD 8 (.slen (.tmp 7)), oD 9 (.bin .lss 3 (.tmp 6) (.tmp 8))])] [6, 7, 8]
abbrev c_88_4 : SCode := .reg [([2060, 2061, 2062, 2063], [oM 12 0, oM 13 4, oD 14 (.ssub (.tmp 12) (some (.tmp 13)) none), oD 15 (.call 51 0 [.tmp 14]), oD 16 (.imm true (.tmp 15) (vI 1)), oM 5 16])] [9, 12, 13, 14, 15, 16]
abbrev c_88_5 : SCode := .reg [([], [oM 17 4, oM 18 5, oD 19 (.bin .add 3 (.tmp 17) (.tmp 18)), oM 4 19])] [5, 17, 18, 19]
abbrev c_88_6 : SCode := .reg [([], [oM 10 3, oD 11 (.bin .add 3 (.tmp 10) (vI 1)), oM 3 11])] [10, 11]
abbrev c_88_7 : SCode := (.seq (.seq c_88_3 (.cond (.tmp 9) .skip (.exit 0))) (.seq (.block 1 (.seq c_88_4 c_88_5)) c_88_6))
abbrev c_88_8 : SCode := .reg [([], [oM 20 3, oM 2 20])] [0, 3, 4, 20]
abbrev F_88 : SFunc := ⟨21, (.seq c_88_0 (.seq c_88_1 (.seq (.seq c_88_2 (.block 0 (.loop c_88_7))) (.seq c_88_8 .ret)))), [.tmp 2], false⟩
theorem tf_88 : z6 Go.Proofs.Tryz.prog 43 (hintT [(15, 0)]) (fpT []) (killT [(0, [2]), (3, [6, 7, 8]), (5, [9, 12, 13, 14, 15, 16]), (6, [5, 17, 18, 19]), (4, [10, 11]), (7, [0, 3, 4, 20])]) false = some F_88 := by kernel_rfl
end Go.Sh.Cd6
end

section
namespace Go.Mor
open Go
set_option maxRecDepth 100000
set_option maxHeartbeats 4000000
theorem z122 : ∀ (gs : List (List UInt8)), Txt gs → gs.length ≤ gs.flatten.length
 | [], _ => by simp
 | g :: gs, h => by
  have := z122 gs h.tail
  have := h.head.pos
  rw [List.flatten_cons, List.length_append, List.length_cons]; omega
theorem signsGo_txt : ∀ (gs : List (List UInt8)) (f : Nat), Txt gs → gs.flatten.length ≤ f → z84 f gs.flatten = gs.length
 | [], f, _, _ => by cases f <;> simp [z84]
 | g :: gs, f, h, hf => by
  have hp := h.head.pos
  rw [List.flatten_cons, List.length_append] at hf
  obtain ⟨k, rfl⟩ : ∃ k, f = k + 1 := ⟨f - 1, by omega⟩
  rw [z84, if_neg (flat_ne h), txt_dec h]
  simp only [z151]
  rw [signsGo_txt gs k h.tail (by omega), List.length_cons]
theorem z104 {gs : List (List UInt8)} (h : Txt gs) : signsV gs.flatten = gs.length := signsGo_txt gs _ h (Nat.le_refl _)
end Go.Mor
end

section
namespace Go.Mor
open Go
set_option maxHeartbeats 4000000
def signN (n b0 b1 b2 b3 : Nat) : Nat :=
 if b0 < 128 then 1
 else if 194 ≤ b0 ∧ b0 ≤ 223 then (if n < 2 ∨ b1 < 128 ∨ 191 < b1 then 0 else 2)
 else if 224 ≤ b0 ∧ b0 ≤ 239 then (if n < 3 ∨ b1 < (if b0 = 224 then 160 else 128) ∨ (if b0 = 237 then 159 else 191) < b1 ∨ b2 < 128 ∨ 191 < b2 then 0 else 3)
 else if 240 ≤ b0 ∧ b0 ≤ 244 then (if n < 4 ∨ b1 < (if b0 = 240 then 144 else 128) ∨ (if b0 = 244 then 143 else 191) < b1 ∨ b2 < 128 ∨ 191 < b2 ∨ b3 < 128 ∨ 191 < b3 then 0 else 4)
 else 0
def signL (l : List UInt8) : Nat := if l = [] then 0 else signN l.length (l.getD 0 0).toNat (l.getD 1 0).toNat (l.getD 2 0).toNat (l.getD 3 0).toNat
theorem signN_decode (n b0 b1 b2 b3 : Nat) (h0 : b0 < 256) (h1 : b1 < 256) (h2 : b2 < 256) (h3 : b3 < 256) :
  signN n b0 b1 b2 b3 = if (Lib.decodeN n b0 b1 b2 b3).1 = 65533 ∧ (Lib.decodeN n b0 b1 b2 b3).2 = 1 then 0 else (Lib.decodeN n b0 b1 b2 b3).2 := by
 unfold signN Lib.decodeN
 repeat' split
 all_goals (simp_all <;> omega)
end Go.Mor
end

section
namespace Go.Mor
open Go
set_option maxHeartbeats 2000000
theorem lex_whole {t : List UInt8} {ts : List T3} (h : LexP t ts []) : ∃ L, L.map er = ts ∧ lexG (t.length + 1) t 0 [] = some (.ok L) := by
 obtain ⟨f', L, h1, h2, h3⟩ := h (t.length + 1) 0 [] (by simp)
 obtain ⟨g, rfl⟩ : ∃ g, f' = g + 1 := ⟨f' - 1, by simp at h1; omega⟩
 rw [List.append_nil, List.nil_append] at h3
 exact ⟨L, h2, by rw [h3, lexG]⟩
theorem pre_txt : ∀ (hs gs : List (List UInt8)) (r : List UInt8), Txt hs → Txt gs → hs.flatten ++ r = gs.flatten → gs.take hs.length = hs
 | [], gs, r, _, _, _ => by simp
 | h :: hs, [], r, hh, _, e => by
  rw [List.flatten_nil] at e
  exact absurd (List.append_eq_nil_iff.1 e).1 (flat_ne hh)
 | h :: hs, g :: gs, r, hh, hg, e => by
  have e1 : Lib.decodeL ((h :: hs).flatten ++ r) = ((Lib.decodeL h).1, h.length) := by rw [List.flatten_cons, List.append_assoc]; exact hh.head.dec _
  rw [e, txt_dec hg] at e1
  have hlen : g.length = h.length := congrArg Prod.snd e1
  rw [List.flatten_cons, List.flatten_cons, List.append_assoc] at e
  obtain ⟨e2, e3⟩ := List.append_inj e hlen.symm
  subst e2
  rw [List.length_cons, List.take_succ_cons, pre_txt hs gs r hh.tail hg.tail e3]
theorem occ_txt : ∀ (gs : List (List UInt8)) (h : List UInt8) (hs : List (List UInt8)) (p : Nat), Txt gs → Txt (h :: hs) → p ≤ gs.flatten.length → Lib.occAt gs.flatten (h :: hs).flatten p = true → ∃ n, n ≤ gs.length ∧ p = (gs.take n).flatten.length ∧ (gs.drop n).take (hs.length + 1) = h :: hs
 | [], h, hs, p, _, hh, hp, ho => by
  unfold Lib.occAt at ho
  rw [List.flatten_nil, List.drop_nil, List.isPrefixOf_iff_prefix, List.prefix_nil] at ho
  exact absurd ho (flat_ne hh)
 | g :: gs, h, hs, p, hg, hh, hp, ho => by
  rcases Nat.eq_zero_or_pos p with rfl | h0
  ·unfold Lib.occAt at ho
   rw [List.drop_zero, List.isPrefixOf_iff_prefix] at ho
   obtain ⟨r, hr⟩ := ho
   exact ⟨0, Nat.zero_le _, by simp, by rw [List.drop_zero]; exact pre_txt (h :: hs) (g :: gs) r hh hg hr⟩
  ·by_cases hlt : p < g.length
   ·exfalso
    obtain ⟨c, t, hc⟩ := List.exists_cons_of_ne_nil (flat_ne hh)
    have h1 := Lib.occAt_head hc ho
    rw [List.flatten_cons, List.getElem?_append_left hlt] at h1
    have h2 : c ∈ g.drop 1 := by
     apply List.mem_of_getElem? (i := p - 1)
     rw [List.getElem?_drop, show 1 + (p - 1) = p by omega]
     exact h1
    have h3 := hg.head.tl c h2
    have h4 := hh.head.hd
    have h5 : h.getD 0 0 = c := by
     obtain ⟨x, y, hx⟩ := List.exists_cons_of_ne_nil hh.head.ne
     rw [hx] at hc ⊢
     rw [List.flatten_cons, List.cons_append] at hc
     injection hc
    rw [h5] at h4
    omega
   ·have ho' : Lib.occAt gs.flatten (h :: hs).flatten (p - g.length) = true := by
     unfold Lib.occAt at ho ⊢
     rw [show p = g.length + (p - g.length) by omega, ← List.drop_drop, z151] at ho
     exact ho
    obtain ⟨n, h1, h2, h3⟩ := occ_txt gs h hs (p - g.length) hg.tail hh (by rw [List.flatten_cons, List.length_append] at hp; omega) ho'
    refine ⟨n + 1, by simpa using h1, ?_, by simpa using h3⟩
    rw [List.take_succ_cons, List.flatten_cons, List.length_append]; omega
theorem occ_at {gs hs : List (List UInt8)} {n : Nat} (h : (gs.drop n).take hs.length = hs) : Lib.occAt gs.flatten hs.flatten (gs.take n).flatten.length = true := by
 unfold Lib.occAt
 conv => lhs; arg 2; rw [z60 gs n]
 rw [List.drop_left, List.isPrefixOf_iff_prefix]
 refine ⟨((gs.drop n).drop hs.length).flatten, ?_⟩
 conv => rhs; rw [z60 (gs.drop n) hs.length, h]
theorem flat_mono (gs : List (List UInt8)) (hg : Txt gs) {a b : Nat} (hb : b ≤ gs.length) (h : (gs.take a).flatten.length ≤ (gs.take b).flatten.length) (ha : a ≤ gs.length) : a ≤ b := by
 rcases Nat.lt_or_ge b a with hlt | hge
 ·exfalso
  have e1 : gs.take a = gs.take b ++ (gs.take a).drop b := by
   conv => lhs; rw [← List.take_append_drop b (gs.take a)]
   rw [List.take_take, Nat.min_eq_left (by omega)]
  have e2 := z122 ((gs.take a).drop b) ((hg.take a).drop b)
  have e3 : ((gs.take a).drop b).length = a - b := by rw [List.length_drop, List.length_take]; omega
  rw [e1, List.flatten_append, List.length_append] at h
  omega
 ·exact hge
theorem find_txt {gs hs : List (List UInt8)} (hg : Txt gs) (hh : Txt hs) {i : Nat} (hi : i ≤ gs.length) (h : (gs.drop i).take hs.length = hs) : ∃ n : Nat, findV gs.flatten hs.flatten = (n : Int) ∧ n ≤ i ∧ (gs.drop n).take hs.length = hs := by
 cases hs with
 | nil =>
  refine ⟨0, ?_, Nat.zero_le _, by simp⟩
  unfold findV
  rw [List.flatten_nil, show Lib.index gs.flatten [] = 0 by cases gs.flatten <;> rfl, if_neg (by omega)]
  rfl
 | cons x xs =>
  have ho := occ_at h
  have hle := z162 gs i
  rcases Lib.index_spec gs.flatten (x :: xs).flatten with ⟨_, h2⟩ | ⟨p, h1, h2, h3, h4⟩
  ·rw [h2 _ hle] at ho; cases ho
  ·obtain ⟨n, q1, q2, q3⟩ := occ_txt gs x xs p hg hh h2 h3
   have hpi : p ≤ (gs.take i).flatten.length := by
    rcases Nat.lt_or_ge (gs.take i).flatten.length p with hlt | hge
    ·have := h4 _ hlt; rw [this] at ho; cases ho
    ·exact hge
   refine ⟨n, ?_, flat_mono gs hg hi (by omega) q1, q3⟩
   unfold findV
   rw [h1, if_neg (by omega), Int.toNat_natCast, q2]
   have : gs.flatten.take (gs.take n).flatten.length = (gs.take n).flatten := by
    conv => lhs; rw [z60 gs n]
    rw [List.take_left]
   rw [this, z104 (hg.take n), List.length_take, Nat.min_eq_left q1]
theorem find_none {t u : List UInt8} (h : t.length < u.length) : findV t u = -1 := by
 unfold findV
 rcases Lib.index_spec t u with ⟨h1, _⟩ | ⟨p, h1, h2, h3, _⟩
 ·rw [h1, if_pos (by omega)]
 ·exfalso
  rcases Lib.occAt_room h3 with h4 | h4
  ·omega
  ·rw [h4] at h; simp at h
end Go.Mor
end

section
namespace Go.Mor
open Go
set_option maxHeartbeats 2000000
set_option maxRecDepth 100000
def fixL (t : List UInt8) (a : Nat) : List Pc := match lexG (t.length + 1) t a [] with
 | some (.ok L) => L
 | _ => []
def snocs (acc L : List Pc) : List Pc := L.foldl (fun x q => x ++ [q]) acc
theorem snocs_app : ∀ (L acc : List Pc), snocs acc L = acc ++ L
 | [], acc => by simp [snocs]
 | q :: L, acc => by
  show snocs (acc ++ [q]) L = _
  rw [snocs_app L]; simp
theorem LexP.fix {t : List UInt8} {ts : List T3} {post : List UInt8} (n : Nat) (hn : Nat.ble n t.length = true) (hL : ∀ a, (fixL t a).map er = ts)
  (h : ∀ f a acc, lexG (f + n) (t ++ post) a acc = lexG f post (a + t.length) (snocs acc (fixL t a))) : LexP t ts post := by
 have hn := Nat.le_of_ble_eq_true hn
 intro f a acc hf
 obtain ⟨g, rfl⟩ : ∃ g, f = g + n := ⟨f - n, by omega⟩
 refine ⟨g, fixL t a, by omega, hL a, ?_⟩
 rw [h g a acc, snocs_app]
def tks : List T3 → (Nat → Nat) → List Pc
 | [], _ => []
 | t :: r, p => ⟨t.1, t.2.1, t.2.2, p 0⟩ :: tks r (fun i => p (i + 1))
theorem tks_of : ∀ (L : List Pc), ∃ p, L = tks (L.map er) p
 | [] => ⟨fun _ => 0, rfl⟩
 | q :: L => by
  obtain ⟨p, h⟩ := tks_of L
  refine ⟨fun i => match i with | 0 => q.p | i + 1 => p i, ?_⟩
  rw [List.map_cons, tks]
  simp only
  rw [← h]; rfl
theorem z44 {t : List UInt8} {ts : List T3} {e : V} (f : Nat) (hl : t.length ≤ 200) (h : LexP t ts []) (hp : ∀ p sz, pE (tks ts p) sz f 1 0 = some (.ok e ts.length)) (hr : rightE e = true) : parseV f t = some (e, 0, 0) := by
 obtain ⟨L, h1, h2⟩ := lex_whole h
 obtain ⟨p, hL⟩ := tks_of L
 have hp := hp p t.length
 rw [← h1, ← hL] at hp
 have hlen : (L.map er).length = L.length := by simp
 rw [hlen] at hp
 unfold parseV
 rw [if_neg (by omega), h2]
 simp only
 rw [hp]
 simp only
 rw [if_neg (by omega), if_pos hr]
end Go.Mor
end

section
namespace Go.Mor
open Go
open Go.Proofs.YtmiokadmddjccaaGreatDoor (cmpV z97 cmpV_zero cmpV_rng cmpV_eq cmpV_anti ordI thenI ordS cmpL)
set_option maxHeartbeats 2000000
set_option maxRecDepth 100000
def oneE (b : Bool) : V := if b then numE 1 else numE 0
def oEq (c : Int) : V := oneE (decide (c = 0))
def oLe (c : Int) : V := oneE (decide (c ≤ 0))
section
variable {fs : List Fld} {vals : List V} {d : Nat} {x : Int} {t : List UInt8} {a b c : V} {s : List UInt8} {n : Int}
theorem wo_n : worthV sFs (sVals x t) (d + 1) fn' = .mk 1 x [] [] := by kernel_rfl
theorem wo_t : worthV sFs (sVals x t) (d + 1) ft' = .mk 2 0 t [] := by kernel_rfl
theorem wo_N : worthV fs vals (d + 1) (eN n) = numE n := by kernel_rfl
theorem wo_T : worthV fs vals (d + 1) (eT s) = textE s := by kernel_rfl
theorem wo_add : worthV fs vals (d + 1) (eO [43] a b) = numE ((worthV fs vals d a).n + (worthV fs vals d b).n) := by kernel_rfl
theorem wo_sub : worthV fs vals (d + 1) (eO [45] a b) = numE ((worthV fs vals d a).n + -(worthV fs vals d b).n) := by kernel_rfl
theorem wo_cat : worthV fs vals (d + 1) (eO [38] a b) = textE ((worthV fs vals d a).s ++ (worthV fs vals d b).s) := by kernel_rfl
theorem wo_eq : worthV fs vals (d + 1) (eO [61] a b) = oEq (cmpV (worthV fs vals d a) (worthV fs vals d b)) := by kernel_rfl
theorem wo_le : worthV fs vals (d + 1) (eO [60, 61] a b) = oLe (cmpV (worthV fs vals d a) (worthV fs vals d b)) := by kernel_rfl
theorem wo_len : worthV fs vals (d + 1) (eC nLen [a]) = numE (signsV (worthV fs vals d a).s) := by kernel_rfl
theorem wo_left : worthV fs vals (d + 1) (eC nLeft [a, b]) = textE ((worthV fs vals d a).s.take (behV (worthV fs vals d a).s (worthV fs vals d b).n)) := by kernel_rfl
theorem wo_right : worthV fs vals (d + 1) (eC nRight [a, b]) = textE ((worthV fs vals d a).s.drop (behV (worthV fs vals d a).s (signsV (worthV fs vals d a).s - (worthV fs vals d b).n))) := by kernel_rfl
theorem wo_from : worthV fs vals (d + 1) (eC nFrom [a, b]) = textE ((worthV fs vals d a).s.drop (behV (worthV fs vals d a).s (worthV fs vals d b).n)) := by kernel_rfl
theorem wo_find : worthV fs vals (d + 1) (eC nFind [a, b]) = numE (findV (worthV fs vals d a).s (worthV fs vals d b).s) := by kernel_rfl
theorem wo_max : worthV fs vals (d + 1) (eC nMax [a, b]) = numE (max (worthV fs vals d a).n (worthV fs vals d b).n) := by kernel_rfl
theorem mk_n {k : Int} {l : List V} : (V.mk k n s l).n = n := rfl
theorem mk_s {k : Int} {l : List V} : (V.mk k n s l).s = s := rfl
theorem cmp_num (a b : Int) : cmpV (.mk 1 a [] []) (.mk 1 b [] []) = ordI a b := by
 rw [cmpV_eq]
 show thenI (ordI 1 1) (thenI (ordI a b) (thenI (ordS [] []) (cmpL [] []))) = _
 have h1 : ordI 1 1 = 0 := by decide
 have h2 : ordS [] [] = 0 := by decide
 have h3 : cmpL [] [] = 0 := by unfold cmpL; rfl
 rw [h1, h2, h3]
 unfold thenI
 simp
 intro h; exact h.symm
end
section
variable {x y : Int} {t u : List UInt8}
end
section
variable {gs : List (List UInt8)} {x : Int}
theorem len_take {gs : List (List UInt8)} (n : Nat) (hl : gs.flatten.length ≤ 60) : (gs.take n).flatten.length ≤ 60 := by have := z162 gs n; omega
theorem len_drop {gs : List (List UInt8)} (n : Nat) (hl : gs.flatten.length ≤ 60) : (gs.drop n).flatten.length ≤ 60 := by
 have := congrArg List.length (z60 gs n)
 rw [List.length_append] at this; omega
theorem left_w (h : Txt gs) (hl : gs.flatten.length ≤ 60) (n : Int) : textE (gs.flatten.take (behV gs.flatten n)) = .mk 2 0 (gs.take n.toNat).flatten [] := by
 unfold textE
 rw [take_beh h, cut_id (h.take _) (len_take _ hl)]
theorem from_w (h : Txt gs) (hl : gs.flatten.length ≤ 60) (n : Int) : textE (gs.flatten.drop (behV gs.flatten n)) = .mk 2 0 (gs.drop n.toNat).flatten [] := by
 unfold textE
 rw [drop_beh h, cut_id (h.drop _) (len_drop _ hl)]
theorem tx_a (h : Txt gs) (hl : gs.flatten.length ≤ 20) : worthV sFs (sVals x gs.flatten) 8 (eO [38] (eC nLeft [ft', fn']) (eC nFrom [ft', fn'])) = .mk 2 0 gs.flatten [] := by
 simp only [wo_cat, wo_left, wo_from, wo_t, wo_n, mk_s, mk_n]
 rw [left_w h (by omega), from_w h (by omega)]
 simp only [mk_s]
 rw [← z60]
 unfold textE
 rw [cut_id h (by omega)]
theorem signs_len (h : Txt gs) (hl : gs.flatten.length ≤ 60) : gs.length ≤ 60 := by have := z122 gs h; omega
theorem z67 {n : Nat} (h : n ≤ 60) : numE (n : Int) = .mk 1 (n : Int) [] [] := numE_id (by omega) (by omega)
theorem tx_b (h : Txt gs) (hl : gs.flatten.length ≤ 20) : worthV sFs (sVals x gs.flatten) 8 (eO [45] (eO [43] (eC nLen [eC nLeft [ft', fn']]) (eC nLen [eC nFrom [ft', fn']])) (eC nLen [ft'])) = numE 0 := by
 simp only [wo_sub, wo_add, wo_len, wo_left, wo_from, wo_t, wo_n, mk_s, mk_n]
 have hg := signs_len h (by omega)
 rw [left_w h (by omega), from_w h (by omega)]
 simp only [mk_s]
 rw [z104 (h.take _), z104 (h.drop _), z104 h, List.length_take, List.length_drop]
 rw [z67 (n := min _ _) (by omega), z67 (n := _ - _) (by omega), z67 (n := gs.length) (by omega)]
 simp only [mk_n]
 rw [numE_id (n := ((min x.toNat gs.length : Nat) : Int) + ((gs.length - x.toNat : Nat) : Int)) (by omega) (by omega)]
 simp only [mk_n]
 congr 1; omega
theorem one_same (v : V) : oEq (cmpV v v) = numE 1 := by rw [z97]; rfl
theorem tx_c (h : Txt gs) (hl : gs.flatten.length ≤ 20) (hx : -3 ≤ x ∧ x ≤ 26) : worthV sFs (sVals x gs.flatten) 8 (eO [61] (eC nRight [ft', fn']) (eC nFrom [ft', eO [45] (eC nLen [ft']) (eC nMax [fn', eN 0])])) = numE 1 := by
 simp only [wo_eq, wo_right, wo_sub, wo_max, wo_len, wo_from, wo_t, wo_n, wo_N, mk_s, mk_n]
 have hg := signs_len h (by omega)
 rw [z104 h, z67 hg, show numE 0 = .mk 1 0 [] [] from rfl]
 simp only [mk_n]
 rw [numE_id (n := max x 0) (by omega) (by omega)]
 simp only [mk_n]
 rw [numE_id (by omega) (by omega)]
 simp only [mk_n]
 rw [from_w h (by omega), from_w h (by omega)]
 have : gs.drop ((gs.length : Int) - x).toNat = gs.drop ((gs.length : Int) + -max x 0).toNat := by
  by_cases h0 : 0 ≤ x
  ·congr 1; omega
  ·rw [List.drop_eq_nil_of_le (by omega), List.drop_eq_nil_of_le (by omega)]
 rw [this, one_same]
theorem tx_len (h : Txt gs) (hl : gs.flatten.length ≤ 20) : worthV sFs (sVals x gs.flatten) 8 (eC nLen [ft']) = .mk 1 (gs.length : Int) [] [] := by
 simp only [wo_len, wo_t, mk_s]
 rw [z104 h, z67 (signs_len h (by omega))]
def partE (i j : Int) : V := eC nLeft [eC nFrom [ft', eN i], eN j]
theorem part_w {d : Nat} (h : Txt gs) (hl : gs.flatten.length ≤ 20) {i j : Nat} (hi : i ≤ 20) (hj : j ≤ 20) : worthV sFs (sVals x gs.flatten) (d + 3) (partE i j) = .mk 2 0 ((gs.drop i).take j).flatten [] := by
 unfold partE
 simp only [wo_left, wo_from, wo_t, wo_N, mk_s]
 rw [z67 (by omega), z67 (by omega)]
 simp only [mk_n]
 rw [from_w h (by omega)]
 simp only [mk_s]
 rw [left_w (h.drop _) (len_drop _ (by omega)), Int.toNat_natCast, Int.toNat_natCast]
theorem tx_find (h : Txt gs) (hl : gs.flatten.length ≤ 20) {i j : Nat} (hi : i ≤ gs.length) : ∃ n : Nat, findV gs.flatten ((gs.drop i).take j).flatten = (n : Int) ∧ n ≤ i ∧ (gs.drop n).take ((gs.drop i).take j).length = (gs.drop i).take j :=
 find_txt h ((h.drop i).take j) hi (by rw [List.length_take, ← List.take_take, List.take_length])
theorem tx_e (h : Txt gs) (hl : gs.flatten.length ≤ 20) {i j : Nat} (hi : i ≤ gs.length) (hj : j ≤ 20) : worthV sFs (sVals x gs.flatten) 8 (eO [60, 61] (eC nFind [ft', partE i j]) (eN i)) = numE 1 := by
 have hg := z122 gs h
 simp only [wo_le, wo_find, wo_t, wo_N, part_w h hl (show i ≤ 20 by omega) hj, mk_s]
 obtain ⟨n, h1, h2, _⟩ := tx_find h hl (j := j) hi
 rw [h1, z67 (by omega), z67 (by omega), cmp_num]
 have : ordI (n : Int) (i : Int) ≤ 0 := by unfold ordI; split <;> (try split) <;> omega
 unfold oLe
 rw [decide_eq_true this]; rfl
theorem tx_f (h : Txt gs) (hl : gs.flatten.length ≤ 20) {i j : Nat} (hi : i ≤ gs.length) (hj : j ≤ 20) : worthV sFs (sVals x gs.flatten) 8 (eO [61] (eC nLeft [eC nFrom [ft', eC nFind [ft', partE i j]], eC nLen [partE i j]]) (partE i j)) = numE 1 := by
 have hg := z122 gs h
 simp only [wo_eq, wo_left, wo_from, wo_len, wo_find, wo_t, part_w h hl (show i ≤ 20 by omega) hj, mk_s]
 obtain ⟨n, h1, h2, h3⟩ := tx_find h hl (j := j) hi
 have hP := (h.drop i).take j
 have hlp : ((gs.drop i).take j).length ≤ 20 := by rw [List.length_take]; omega
 rw [z104 hP]
 generalize (gs.drop i).take j = P at *
 rw [h1, z67 (by omega), z67 (by omega)]
 simp only [mk_n]
 rw [from_w h (by omega)]
 simp only [mk_s]
 rw [left_w (h.drop _) (len_drop _ (by omega)), Int.toNat_natCast, Int.toNat_natCast, h3, one_same]
theorem tx_g (h : Txt gs) (hl : gs.flatten.length ≤ 20) : worthV sFs (sVals x gs.flatten) 8 (eC nFind [ft', eO [38] ft' (eT [120])]) = numE (-1) := by
 simp only [wo_find, wo_cat, wo_t, wo_T, mk_s]
 have h1 : Txt [[(120 : UInt8)]] := by intro g hg; rw [List.mem_singleton] at hg; subst hg; exact sgn_ascii (by decide) (by decide)
 have e1 : textE [120] = .mk 2 0 [120] [] := by
  unfold textE
  have := cut_id h1 (by decide)
  rw [show ([[(120 : UInt8)]] : List (List UInt8)).flatten = [120] from rfl] at this
  rw [this]
 rw [e1]
 simp only [mk_s]
 have e2 : textE (gs.flatten ++ [120]) = .mk 2 0 (gs.flatten ++ [120]) [] := by
  unfold textE
  have := cut_id (h.app h1) (by rw [List.flatten_append, List.length_append]; show _ + 1 ≤ 60; omega)
  rw [List.flatten_append, show ([[(120 : UInt8)]] : List (List UInt8)).flatten = [120] from rfl] at this
  rw [this]
 rw [e2, mk_s, find_none (by simp)]
end
theorem z100 {n : Int} (h : Rg n) : (Lib.itoa n).length ≤ 17 := by
 have key : ∀ m : Nat, m ≤ 1000000000000000 → (Lib.decDigits m).length ≤ 16 := fun m hm => by
  rw [Lib.decDigits_length]
  by_cases h0 : Lib.nDigits m ≤ 16
  ·exact h0
  ·exfalso
   have : 10 ^ 16 ≤ m := by
    have h1 : ∀ (k u : Nat), k + 1 ≤ Lib.nDigits u → 10 ^ k ≤ u ∨ k = 0 := by
     intro k
     induction k with
     | zero => intro u _; exact .inr rfl
     | succ k ih =>
      intro u hu
      left
      by_cases h10 : u < 10
      ·rw [Lib.nDigits_small h10] at hu; omega
      ·rw [Lib.nDigits_big h10] at hu
       rcases ih (u / 10) (by omega) with h2 | h2
       ·rw [Nat.pow_succ]; omega
       ·subst h2; omega
    rcases h1 16 m (by omega) with h2 | h2
    ·exact h2
    ·omega
   omega
 unfold Lib.itoa
 obtain ⟨h0, h1⟩ := h
 split
 ·rw [List.length_cons]; have := key n.natAbs (by omega); omega
 ·have := key n.toNat (by omega); omega
end Go.Mor
end

section
namespace Go.Mor
open Go
set_option maxHeartbeats 2000000
set_option maxRecDepth 100000
theorem z36 {c : UInt8} {r : List UInt8} (h : nameB c = false) : NoWord (c :: r) := by intro d q e; cases e; exact h
theorem z56 {e : V} (h : okE 8 e = true) (h2 : decide (szE 8 e ≤ 40) = true) : rightE e = true := by unfold rightE; rw [h, h2]; rfl
section
variable {d : Nat} {a b c : V} {s : List UInt8} {y : Int}
theorem ok_t : okE (d + 1) ft' = true := by kernel_rfl
theorem ok_node {e : V} (h : nodeE e = true) (hl : ∀ x ∈ e.l, okE d x = true) : okE (d + 1) e = true := by
 unfold okE
 rw [h, Bool.true_and, List.all_eq_true]; exact hl
theorem ok_N (h : 0 ≤ y ∧ y ≤ 1000000000000000) : okE (d + 1) (eN y) = true := by
 refine ok_node ?_ (by simp [eN, V.l])
 have e : nodeE (eN y) = (decide (0 ≤ y) && decide (y ≤ 1000000000000000) && true && true) := by kernel_rfl
 rw [e, decide_eq_true h.1, decide_eq_true h.2]; rfl
theorem ok_O (h : 0 < bindsV s) (ha : okE d a = true) (hb : okE d b = true) : okE (d + 1) (eO s a b) = true := by
 refine ok_node ?_ (by simp [eO, V.l, ha, hb])
 have e : nodeE (eO s a b) = (decide (0 < bindsV s) && true) := by kernel_rfl
 rw [e, decide_eq_true h]; rfl
theorem ok_C {l : List V} (h : (l.length : Int) = takesV s ∧ 0 < takesV s) (hl : ∀ x ∈ l, okE d x = true) : okE (d + 1) (eC s l) = true := by
 refine ok_node ?_ hl
 have e : nodeE (eC s l) = (decide (0 < takesV s) && decide ((l.length : Int) = takesV s)) := by kernel_rfl
 rw [e, decide_eq_true h.2, decide_eq_true h.1]; rfl
theorem ok_C1 (h : (1 : Int) = takesV s ∧ 0 < takesV s) (ha : okE d a = true) : okE (d + 1) (eC s [a]) = true := ok_C h (by simp [ha])
theorem ok_C2 (h : (2 : Int) = takesV s ∧ 0 < takesV s) (ha : okE d a = true) (hb : okE d b = true) : okE (d + 1) (eC s [a, b]) = true := ok_C h (by simp [ha, hb])
end
theorem fx_3 (post : List UInt8) : LexP [41] [sg [41]] post := LexP.fix 1 rfl (fun a => by kernel_rfl) (fun f a acc => by kernel_rfl)
theorem fx_23 (post : List UInt8) : LexP [102, 105, 110, 100, 40, 116, 44, 32, 108, 101, 102, 116, 40, 102, 114, 111, 109, 40, 116, 44, 32] [(3, 0, [102, 105, 110, 100]), sg [40], (3, 0, [116]), sg [44], (3, 0, [108, 101, 102, 116]), sg [40], (3, 0, [102, 114, 111, 109]), sg [40], (3, 0, [116]), sg [44]] post := LexP.fix 12 rfl (fun a => by kernel_rfl) (fun f a acc => by kernel_rfl)
theorem fx_24 (post : List UInt8) : LexP [41, 44, 32] [sg [41], sg [44]] post := LexP.fix 3 rfl (fun a => by kernel_rfl) (fun f a acc => by kernel_rfl)
theorem fx_25 (post : List UInt8) : LexP [41, 41, 32, 60, 61, 32] [sg [41], sg [41], sg [60, 61]] post := LexP.fix 5 rfl (fun a => by kernel_rfl) (fun f a acc => by kernel_rfl)
theorem pa_txe {i j : Int} (hi : 0 ≤ i ∧ i ≤ 1000000000000000) (hj : 0 ≤ j ∧ j ≤ 1000000000000000) (h1 : (Lib.itoa i).length ≤ 17) (h2 : (Lib.itoa j).length ≤ 17) : parseV 60 ([102, 105, 110, 100, 40, 116, 44, 32, 108, 101, 102, 116, 40, 102, 114, 111, 109, 40, 116, 44, 32] ++ Lib.itoa i ++ [41, 44, 32] ++ Lib.itoa j ++ [41, 41, 32, 60, 61, 32] ++ Lib.itoa i) = some (eO [60, 61] (eC nFind [ft', eC nLeft [eC nFrom [ft', eN i], eN j]]) (eN i), 0, 0) := by
 have h : LexP ([102, 105, 110, 100, 40, 116, 44, 32, 108, 101, 102, 116, 40, 102, 114, 111, 109, 40, 116, 44, 32] ++ (Lib.itoa i ++ ([41, 44, 32] ++ (Lib.itoa j ++ ([41, 41, 32, 60, 61, 32] ++ (Lib.itoa i)))))) ([(3, 0, [102, 105, 110, 100]), sg [40], (3, 0, [116]), sg [44], (3, 0, [108, 101, 102, 116]), sg [40], (3, 0, [102, 114, 111, 109]), sg [40], (3, 0, [116]), sg [44]] ++ ([(1, i, [])] ++ ([sg [41], sg [44]] ++ ([(1, j, [])] ++ ([sg [41], sg [41], sg [60, 61]] ++ ([(1, i, [])])))))) [] := ((fx_23 _).app ((z29 (hi).1 (hi).2 (z36 (by decide))).app ((fx_24 _).app ((z29 (hj).1 (hj).2 (z36 (by decide))).app ((fx_25 _).app (z29 (hi).1 (hi).2 stop0.word))))))
 have e : [102, 105, 110, 100, 40, 116, 44, 32, 108, 101, 102, 116, 40, 102, 114, 111, 109, 40, 116, 44, 32] ++ Lib.itoa i ++ [41, 44, 32] ++ Lib.itoa j ++ [41, 41, 32, 60, 61, 32] ++ Lib.itoa i = [102, 105, 110, 100, 40, 116, 44, 32, 108, 101, 102, 116, 40, 102, 114, 111, 109, 40, 116, 44, 32] ++ (Lib.itoa i ++ ([41, 44, 32] ++ (Lib.itoa j ++ ([41, 41, 32, 60, 61, 32] ++ (Lib.itoa i))))) := by simp only [List.append_assoc]
 rw [e]
 refine z44 60 ?_ h (fun p sz => by kernel_rfl) (z56 (ok_O (by decide) (ok_C2 (by decide) ok_t (ok_C2 (by decide) (ok_C2 (by decide) ok_t (ok_N hi)) (ok_N hj))) (ok_N hi)) (by kernel_rfl))
 simp only [List.length_append, List.length_cons, List.length_nil]
 omega
theorem fx_26 (post : List UInt8) : LexP [108, 101, 102, 116, 40, 102, 114, 111, 109, 40, 116, 44, 32, 102, 105, 110, 100, 40, 116, 44, 32, 108, 101, 102, 116, 40, 102, 114, 111, 109, 40, 116, 44, 32] [(3, 0, [108, 101, 102, 116]), sg [40], (3, 0, [102, 114, 111, 109]), sg [40], (3, 0, [116]), sg [44], (3, 0, [102, 105, 110, 100]), sg [40], (3, 0, [116]), sg [44], (3, 0, [108, 101, 102, 116]), sg [40], (3, 0, [102, 114, 111, 109]), sg [40], (3, 0, [116]), sg [44]] post := LexP.fix 19 rfl (fun a => by kernel_rfl) (fun f a acc => by kernel_rfl)
theorem fx_27 (post : List UInt8) : LexP [41, 41, 41, 44, 32, 108, 101, 110, 40, 108, 101, 102, 116, 40, 102, 114, 111, 109, 40, 116, 44, 32] [sg [41], sg [41], sg [41], sg [44], (3, 0, [108, 101, 110]), sg [40], (3, 0, [108, 101, 102, 116]), sg [40], (3, 0, [102, 114, 111, 109]), sg [40], (3, 0, [116]), sg [44]] post := LexP.fix 14 rfl (fun a => by kernel_rfl) (fun f a acc => by kernel_rfl)
theorem fx_28 (post : List UInt8) : LexP [41, 41, 41, 32, 61, 32, 108, 101, 102, 116, 40, 102, 114, 111, 109, 40, 116, 44, 32] [sg [41], sg [41], sg [41], sg [61], (3, 0, [108, 101, 102, 116]), sg [40], (3, 0, [102, 114, 111, 109]), sg [40], (3, 0, [116]), sg [44]] post := LexP.fix 13 rfl (fun a => by kernel_rfl) (fun f a acc => by kernel_rfl)
theorem pa_txf {i j : Int} (hi : 0 ≤ i ∧ i ≤ 1000000000000000) (hj : 0 ≤ j ∧ j ≤ 1000000000000000) (h1 : (Lib.itoa i).length ≤ 17) (h2 : (Lib.itoa j).length ≤ 17) : parseV 60 ([108, 101, 102, 116, 40, 102, 114, 111, 109, 40, 116, 44, 32, 102, 105, 110, 100, 40, 116, 44, 32, 108, 101, 102, 116, 40, 102, 114, 111, 109, 40, 116, 44, 32] ++ Lib.itoa i ++ [41, 44, 32] ++ Lib.itoa j ++ [41, 41, 41, 44, 32, 108, 101, 110, 40, 108, 101, 102, 116, 40, 102, 114, 111, 109, 40, 116, 44, 32] ++ Lib.itoa i ++ [41, 44, 32] ++ Lib.itoa j ++ [41, 41, 41, 32, 61, 32, 108, 101, 102, 116, 40, 102, 114, 111, 109, 40, 116, 44, 32] ++ Lib.itoa i ++ [41, 44, 32] ++ Lib.itoa j ++ [41]) = some (eO [61] (eC nLeft [eC nFrom [ft', eC nFind [ft', eC nLeft [eC nFrom [ft', eN i], eN j]]], eC nLen [eC nLeft [eC nFrom [ft', eN i], eN j]]]) (eC nLeft [eC nFrom [ft', eN i], eN j]), 0, 0) := by
 have h : LexP ([108, 101, 102, 116, 40, 102, 114, 111, 109, 40, 116, 44, 32, 102, 105, 110, 100, 40, 116, 44, 32, 108, 101, 102, 116, 40, 102, 114, 111, 109, 40, 116, 44, 32] ++ (Lib.itoa i ++ ([41, 44, 32] ++ (Lib.itoa j ++ ([41, 41, 41, 44, 32, 108, 101, 110, 40, 108, 101, 102, 116, 40, 102, 114, 111, 109, 40, 116, 44, 32] ++ (Lib.itoa i ++ ([41, 44, 32] ++ (Lib.itoa j ++ ([41, 41, 41, 32, 61, 32, 108, 101, 102, 116, 40, 102, 114, 111, 109, 40, 116, 44, 32] ++ (Lib.itoa i ++ ([41, 44, 32] ++ (Lib.itoa j ++ ([41]))))))))))))) ([(3, 0, [108, 101, 102, 116]), sg [40], (3, 0, [102, 114, 111, 109]), sg [40], (3, 0, [116]), sg [44], (3, 0, [102, 105, 110, 100]), sg [40], (3, 0, [116]), sg [44], (3, 0, [108, 101, 102, 116]), sg [40], (3, 0, [102, 114, 111, 109]), sg [40], (3, 0, [116]), sg [44]] ++ ([(1, i, [])] ++ ([sg [41], sg [44]] ++ ([(1, j, [])] ++ ([sg [41], sg [41], sg [41], sg [44], (3, 0, [108, 101, 110]), sg [40], (3, 0, [108, 101, 102, 116]), sg [40], (3, 0, [102, 114, 111, 109]), sg [40], (3, 0, [116]), sg [44]] ++ ([(1, i, [])] ++ ([sg [41], sg [44]] ++ ([(1, j, [])] ++ ([sg [41], sg [41], sg [41], sg [61], (3, 0, [108, 101, 102, 116]), sg [40], (3, 0, [102, 114, 111, 109]), sg [40], (3, 0, [116]), sg [44]] ++ ([(1, i, [])] ++ ([sg [41], sg [44]] ++ ([(1, j, [])] ++ ([sg [41]]))))))))))))) [] := ((fx_26 _).app ((z29 (hi).1 (hi).2 (z36 (by decide))).app ((fx_24 _).app ((z29 (hj).1 (hj).2 (z36 (by decide))).app ((fx_27 _).app ((z29 (hi).1 (hi).2 (z36 (by decide))).app ((fx_24 _).app ((z29 (hj).1 (hj).2 (z36 (by decide))).app ((fx_28 _).app ((z29 (hi).1 (hi).2 (z36 (by decide))).app ((fx_24 _).app ((z29 (hj).1 (hj).2 (z36 (by decide))).app (fx_3 _)))))))))))))
 have e : [108, 101, 102, 116, 40, 102, 114, 111, 109, 40, 116, 44, 32, 102, 105, 110, 100, 40, 116, 44, 32, 108, 101, 102, 116, 40, 102, 114, 111, 109, 40, 116, 44, 32] ++ Lib.itoa i ++ [41, 44, 32] ++ Lib.itoa j ++ [41, 41, 41, 44, 32, 108, 101, 110, 40, 108, 101, 102, 116, 40, 102, 114, 111, 109, 40, 116, 44, 32] ++ Lib.itoa i ++ [41, 44, 32] ++ Lib.itoa j ++ [41, 41, 41, 32, 61, 32, 108, 101, 102, 116, 40, 102, 114, 111, 109, 40, 116, 44, 32] ++ Lib.itoa i ++ [41, 44, 32] ++ Lib.itoa j ++ [41] = [108, 101, 102, 116, 40, 102, 114, 111, 109, 40, 116, 44, 32, 102, 105, 110, 100, 40, 116, 44, 32, 108, 101, 102, 116, 40, 102, 114, 111, 109, 40, 116, 44, 32] ++ (Lib.itoa i ++ ([41, 44, 32] ++ (Lib.itoa j ++ ([41, 41, 41, 44, 32, 108, 101, 110, 40, 108, 101, 102, 116, 40, 102, 114, 111, 109, 40, 116, 44, 32] ++ (Lib.itoa i ++ ([41, 44, 32] ++ (Lib.itoa j ++ ([41, 41, 41, 32, 61, 32, 108, 101, 102, 116, 40, 102, 114, 111, 109, 40, 116, 44, 32] ++ (Lib.itoa i ++ ([41, 44, 32] ++ (Lib.itoa j ++ ([41])))))))))))) := by simp only [List.append_assoc]
 rw [e]
 refine z44 60 ?_ h (fun p sz => by kernel_rfl) (z56 (ok_O (by decide) (ok_C2 (by decide) (ok_C2 (by decide) ok_t (ok_C2 (by decide) ok_t (ok_C2 (by decide) (ok_C2 (by decide) ok_t (ok_N hi)) (ok_N hj)))) (ok_C1 (by decide) (ok_C2 (by decide) (ok_C2 (by decide) ok_t (ok_N hi)) (ok_N hj)))) (ok_C2 (by decide) (ok_C2 (by decide) ok_t (ok_N hi)) (ok_N hj))) (by kernel_rfl))
 simp only [List.length_append, List.length_cons, List.length_nil]
 omega
end Go.Mor
end

section
namespace Go.Proofs.YtmiokadmddjccaaGreatDoor
open Go Go.RowKit Go.Mor Go.Sh Go.Sh.Cd1
set_option maxRecDepth 100000
set_option maxHeartbeats 4000000
theorem u8_lt (b : UInt8) : b.toNat < 256 := b.toNat_lt
theorem wr3 : IntKind.i64.wrap 3 = 3 := rfl
theorem wr4 : IntKind.i64.wrap 4 = 4 := rfl
theorem wr5 : IntKind.i64.wrap 5 = 5 := rfl
theorem getD_some {l : List UInt8} {i : Nat} {b : UInt8} (h : l[i]? = some b) : l.getD i 0 = b := by rw [List.getD_eq_getElem?_getD, h]; rfl
theorem signL_eq {l : List UInt8} (h : 0 < l.length) : signL l = signN l.length (l.getD 0 0).toNat (l.getD 1 0).toNat (l.getD 2 0).toNat (l.getD 3 0).toNat := by
 unfold signL; rw [if_neg (by rintro rfl; simp at h)]
theorem at_ {l : List UInt8} {i : Nat} (h : i < l.length) : ∃ b, l[i]? = some b := ⟨_, List.getElem?_eq_getElem h⟩
theorem cvi8 (n : Nat) (h : n < 256) : IntKind.i64.wrap (n : Int) = (n : Int) := wrap64 (by omega) (by omega)
theorem v_unr {P : Program} {g : Sh.Glob} {a : SCode} {Q : SExit → ES → Prop} {k : Nat} {s : ES} : unrollW P g a Q (k + 1) s = swp P g a (thenW (unrollW P g a Q k) Q) s := rfl
theorem sg {a b : Int} (h : a = b) : some (TV.pv (PV.v (Value.int IntKind.i64 a))) = some (TV.pv (PV.v (Value.int IntKind.i64 b))) := by rw [h]
theorem sign_a (g : Sh.Glob) (l : List UInt8) (b0 : UInt8) (hl : 0 < l.length) (e0 : l[0]? = some b0) (hc : b0.toNat < 128) : SCalls Tryz.prog g 51 [S (str l)] [] (I (signN l.length b0.toNat (l.getD 1 0).toNat (l.getD 2 0).toNat (l.getD 3 0).toNat : Nat)) [] := by
 have hb := u8_lt b0
 have c0 := cvi8 b0.toNat hb
 have hl0 : ¬ (l.length : Int) = 0 := by omega
 have t0 : (b0.toNat : Int) < 128 := by omega
 have t1 : ¬ 194 ≤ (b0.toNat : Int) := by omega
 have t2 : (b0.toNat : Int) ≤ 223 := by omega
 have t3 : ¬ 224 ≤ (b0.toNat : Int) := by omega
 have t4 : (b0.toNat : Int) ≤ 239 := by omega
 have t5 : ¬ 240 ≤ (b0.toNat : Int) := by omega
 have t6 : (b0.toNat : Int) ≤ 244 := by omega
 have t7 : ¬ (b0.toNat : Int) = 224 := by omega
 have t8 : ¬ (b0.toNat : Int) = 237 := by omega
 have t9 : ¬ (b0.toNat : Int) = 240 := by omega
 have t10 : ¬ (b0.toNat : Int) = 244 := by omega
 refine z7 hmix tf_86 rfl ?_
 simp only [vcA, seval, I, S, e0, c0, hl0, t0, t1, t2, t3, t4, t5, t6, t7, t8, t9, t10]
 exact sg (by unfold signN; (repeat' split) <;> omega)
theorem sign_b (g : Sh.Glob) (l : List UInt8) (b0 : UInt8) (hl : 0 < l.length) (e0 : l[0]? = some b0) (hc : 128 ≤ b0.toNat ∧ b0.toNat ≤ 193) : SCalls Tryz.prog g 51 [S (str l)] [] (I (signN l.length b0.toNat (l.getD 1 0).toNat (l.getD 2 0).toNat (l.getD 3 0).toNat : Nat)) [] := by
 have hb := u8_lt b0
 have c0 := cvi8 b0.toNat hb
 have hl0 : ¬ (l.length : Int) = 0 := by omega
 have t0 : ¬ (b0.toNat : Int) < 128 := by omega
 have t1 : ¬ 194 ≤ (b0.toNat : Int) := by omega
 have t2 : (b0.toNat : Int) ≤ 223 := by omega
 have t3 : ¬ 224 ≤ (b0.toNat : Int) := by omega
 have t4 : (b0.toNat : Int) ≤ 239 := by omega
 have t5 : ¬ 240 ≤ (b0.toNat : Int) := by omega
 have t6 : (b0.toNat : Int) ≤ 244 := by omega
 have t7 : ¬ (b0.toNat : Int) = 224 := by omega
 have t8 : ¬ (b0.toNat : Int) = 237 := by omega
 have t9 : ¬ (b0.toNat : Int) = 240 := by omega
 have t10 : ¬ (b0.toNat : Int) = 244 := by omega
 refine z7 hmix tf_86 rfl ?_
 simp only [vcA, seval, I, S, e0, c0, hl0, t0, t1, t2, t3, t4, t5, t6, t7, t8, t9, t10]
 exact sg (by unfold signN; (repeat' split) <;> omega)
theorem sign_c (g : Sh.Glob) (l : List UInt8) (b0 : UInt8) (hl : 0 < l.length) (e0 : l[0]? = some b0) (hc : 194 ≤ b0.toNat ∧ b0.toNat ≤ 223) : SCalls Tryz.prog g 51 [S (str l)] [] (I (signN l.length b0.toNat (l.getD 1 0).toNat (l.getD 2 0).toNat (l.getD 3 0).toNat : Nat)) [] := by
 have hb := u8_lt b0
 have c0 := cvi8 b0.toNat hb
 have hl0 : ¬ (l.length : Int) = 0 := by omega
 have t0 : ¬ (b0.toNat : Int) < 128 := by omega
 have t1 : 194 ≤ (b0.toNat : Int) := by omega
 have t2 : (b0.toNat : Int) ≤ 223 := by omega
 have t3 : ¬ 224 ≤ (b0.toNat : Int) := by omega
 have t4 : (b0.toNat : Int) ≤ 239 := by omega
 have t5 : ¬ 240 ≤ (b0.toNat : Int) := by omega
 have t6 : (b0.toNat : Int) ≤ 244 := by omega
 have t7 : ¬ (b0.toNat : Int) = 224 := by omega
 have t8 : ¬ (b0.toNat : Int) = 237 := by omega
 have t9 : ¬ (b0.toNat : Int) = 240 := by omega
 have t10 : ¬ (b0.toNat : Int) = 244 := by omega
 refine z7 hmix tf_86 rfl ?_
 by_cases hn : (l.length : Int) < 2
 ·simp only [vcA, seval, I, S, e0, c0, hl0, hn, t0, t1, t2, t3, t4, t5, t6, t7, t8, t9, t10]
  exact sg (by unfold signN; (repeat' split) <;> omega)
 obtain ⟨b1, e1⟩ := at_ (l := l) (i := 1) (by omega)
 have hb1 := u8_lt b1
 have g1 := getD_some e1
 have c1 := cvi8 b1.toNat hb1
 rw [g1]
 simp only [vcA, seval, I, S, e0, c0, e1, c1, hl0, hn, t0, t1, t2, t3, t4, t5, t6, t7, t8, t9, t10]
 refine ⟨fun h1 => sg (by unfold signN; (repeat' split) <;> omega), fun h1 => ⟨fun h2 => sg (by unfold signN; (repeat' split) <;> omega), fun h2 => ?_⟩⟩
 refine z107 1 ?_
 simp only [vcA, seval, I, S, v_unr, e1, wr3, wr4, wr5]
 exact sg (by unfold signN; (repeat' split) <;> omega)
theorem sign_d (g : Sh.Glob) (l : List UInt8) (b0 : UInt8) (hl : 0 < l.length) (e0 : l[0]? = some b0) (hc : b0.toNat = 224) : SCalls Tryz.prog g 51 [S (str l)] [] (I (signN l.length b0.toNat (l.getD 1 0).toNat (l.getD 2 0).toNat (l.getD 3 0).toNat : Nat)) [] := by
 have hb := u8_lt b0
 have c0 := cvi8 b0.toNat hb
 have hl0 : ¬ (l.length : Int) = 0 := by omega

 refine z7 hmix tf_86 rfl ?_
 have q0 : (b0.toNat : Int) = 224 := by omega
 have q1 : IntKind.i64.wrap 224 = 224 := rfl
 by_cases hn : (l.length : Int) < 3
 ·simp only [vcA, seval, I, S, e0, c0, hl0, hn, q0, q1]
  exact sg (by unfold signN; (repeat' split) <;> omega)
 obtain ⟨b1, e1⟩ := at_ (l := l) (i := 1) (by omega)
 have hb1 := u8_lt b1
 have g1 := getD_some e1
 obtain ⟨b2, e2⟩ := at_ (l := l) (i := 2) (by omega)
 have hb2 := u8_lt b2
 have g2 := getD_some e2
 have c1 := cvi8 b1.toNat hb1
 rw [g1, g2]
 simp only [vcA, seval, I, S, e0, c0, e1, c1, hl0, hn, q0, q1]
 refine ⟨fun h1 => sg (by unfold signN; (repeat' split) <;> omega), fun h1 => ⟨fun h2 => sg (by unfold signN; (repeat' split) <;> omega), fun h2 => ?_⟩⟩
 refine z107 2 ?_
 simp only [vcA, seval, I, S, v_unr, e1, e2, wr3, wr4, wr5]
 repeat' (first | (apply And.intro) | (intro _))
 all_goals exact sg (by unfold signN; (repeat' split) <;> omega)
theorem sign_e (g : Sh.Glob) (l : List UInt8) (b0 : UInt8) (hl : 0 < l.length) (e0 : l[0]? = some b0) (hc : 225 ≤ b0.toNat ∧ b0.toNat ≤ 239 ∧ b0.toNat ≠ 237) : SCalls Tryz.prog g 51 [S (str l)] [] (I (signN l.length b0.toNat (l.getD 1 0).toNat (l.getD 2 0).toNat (l.getD 3 0).toNat : Nat)) [] := by
 have hb := u8_lt b0
 have c0 := cvi8 b0.toNat hb
 have hl0 : ¬ (l.length : Int) = 0 := by omega
 have t0 : ¬ (b0.toNat : Int) < 128 := by omega
 have t1 : 194 ≤ (b0.toNat : Int) := by omega
 have t2 : ¬ (b0.toNat : Int) ≤ 223 := by omega
 have t3 : 224 ≤ (b0.toNat : Int) := by omega
 have t4 : (b0.toNat : Int) ≤ 239 := by omega
 have t5 : ¬ 240 ≤ (b0.toNat : Int) := by omega
 have t6 : (b0.toNat : Int) ≤ 244 := by omega
 have t7 : ¬ (b0.toNat : Int) = 224 := by omega
 have t8 : ¬ (b0.toNat : Int) = 237 := by omega
 have t9 : ¬ (b0.toNat : Int) = 240 := by omega
 have t10 : ¬ (b0.toNat : Int) = 244 := by omega
 refine z7 hmix tf_86 rfl ?_
 by_cases hn : (l.length : Int) < 3
 ·simp only [vcA, seval, I, S, e0, c0, hl0, hn, t0, t1, t2, t3, t4, t5, t6, t7, t8, t9, t10]
  exact sg (by unfold signN; (repeat' split) <;> omega)
 obtain ⟨b1, e1⟩ := at_ (l := l) (i := 1) (by omega)
 have hb1 := u8_lt b1
 have g1 := getD_some e1
 obtain ⟨b2, e2⟩ := at_ (l := l) (i := 2) (by omega)
 have hb2 := u8_lt b2
 have g2 := getD_some e2
 have c1 := cvi8 b1.toNat hb1
 rw [g1, g2]
 simp only [vcA, seval, I, S, e0, c0, e1, c1, hl0, hn, t0, t1, t2, t3, t4, t5, t6, t7, t8, t9, t10]
 refine ⟨fun h1 => sg (by unfold signN; (repeat' split) <;> omega), fun h1 => ⟨fun h2 => sg (by unfold signN; (repeat' split) <;> omega), fun h2 => ?_⟩⟩
 refine z107 2 ?_
 simp only [vcA, seval, I, S, v_unr, e1, e2, wr3, wr4, wr5]
 repeat' (first | (apply And.intro) | (intro _))
 all_goals exact sg (by unfold signN; (repeat' split) <;> omega)
theorem sign_f (g : Sh.Glob) (l : List UInt8) (b0 : UInt8) (hl : 0 < l.length) (e0 : l[0]? = some b0) (hc : b0.toNat = 237) : SCalls Tryz.prog g 51 [S (str l)] [] (I (signN l.length b0.toNat (l.getD 1 0).toNat (l.getD 2 0).toNat (l.getD 3 0).toNat : Nat)) [] := by
 have hb := u8_lt b0
 have c0 := cvi8 b0.toNat hb
 have hl0 : ¬ (l.length : Int) = 0 := by omega

 refine z7 hmix tf_86 rfl ?_
 have q0 : (b0.toNat : Int) = 237 := by omega
 have q1 : IntKind.i64.wrap 237 = 237 := rfl
 by_cases hn : (l.length : Int) < 3
 ·simp only [vcA, seval, I, S, e0, c0, hl0, hn, q0, q1]
  exact sg (by unfold signN; (repeat' split) <;> omega)
 obtain ⟨b1, e1⟩ := at_ (l := l) (i := 1) (by omega)
 have hb1 := u8_lt b1
 have g1 := getD_some e1
 obtain ⟨b2, e2⟩ := at_ (l := l) (i := 2) (by omega)
 have hb2 := u8_lt b2
 have g2 := getD_some e2
 have c1 := cvi8 b1.toNat hb1
 rw [g1, g2]
 simp only [vcA, seval, I, S, e0, c0, e1, c1, hl0, hn, q0, q1]
 refine ⟨fun h1 => sg (by unfold signN; (repeat' split) <;> omega), fun h1 => ⟨fun h2 => sg (by unfold signN; (repeat' split) <;> omega), fun h2 => ?_⟩⟩
 refine z107 2 ?_
 simp only [vcA, seval, I, S, v_unr, e1, e2, wr3, wr4, wr5]
 repeat' (first | (apply And.intro) | (intro _))
 all_goals exact sg (by unfold signN; (repeat' split) <;> omega)
theorem sign_g (g : Sh.Glob) (l : List UInt8) (b0 : UInt8) (hl : 0 < l.length) (e0 : l[0]? = some b0) (hc : b0.toNat = 240) : SCalls Tryz.prog g 51 [S (str l)] [] (I (signN l.length b0.toNat (l.getD 1 0).toNat (l.getD 2 0).toNat (l.getD 3 0).toNat : Nat)) [] := by
 have hb := u8_lt b0
 have c0 := cvi8 b0.toNat hb
 have hl0 : ¬ (l.length : Int) = 0 := by omega

 refine z7 hmix tf_86 rfl ?_
 have q0 : (b0.toNat : Int) = 240 := by omega
 have q1 : IntKind.i64.wrap 240 = 240 := rfl
 by_cases hn : (l.length : Int) < 4
 ·simp only [vcA, seval, I, S, e0, c0, hl0, hn, q0, q1]
  exact sg (by unfold signN; (repeat' split) <;> omega)
 obtain ⟨b1, e1⟩ := at_ (l := l) (i := 1) (by omega)
 have hb1 := u8_lt b1
 have g1 := getD_some e1
 obtain ⟨b2, e2⟩ := at_ (l := l) (i := 2) (by omega)
 have hb2 := u8_lt b2
 have g2 := getD_some e2
 obtain ⟨b3, e3⟩ := at_ (l := l) (i := 3) (by omega)
 have hb3 := u8_lt b3
 have g3 := getD_some e3
 have c1 := cvi8 b1.toNat hb1
 rw [g1, g2, g3]
 simp only [vcA, seval, I, S, e0, c0, e1, c1, hl0, hn, q0, q1]
 refine ⟨fun h1 => sg (by unfold signN; (repeat' split) <;> omega), fun h1 => ⟨fun h2 => sg (by unfold signN; (repeat' split) <;> omega), fun h2 => ?_⟩⟩
 refine z107 3 ?_
 simp only [vcA, seval, I, S, v_unr, e1, e2, e3, wr3, wr4, wr5]
 repeat' (first | (apply And.intro) | (intro _))
 all_goals exact sg (by unfold signN; (repeat' split) <;> omega)
theorem sign_h (g : Sh.Glob) (l : List UInt8) (b0 : UInt8) (hl : 0 < l.length) (e0 : l[0]? = some b0) (hc : 241 ≤ b0.toNat ∧ b0.toNat ≤ 243) : SCalls Tryz.prog g 51 [S (str l)] [] (I (signN l.length b0.toNat (l.getD 1 0).toNat (l.getD 2 0).toNat (l.getD 3 0).toNat : Nat)) [] := by
 have hb := u8_lt b0
 have c0 := cvi8 b0.toNat hb
 have hl0 : ¬ (l.length : Int) = 0 := by omega
 have t0 : ¬ (b0.toNat : Int) < 128 := by omega
 have t1 : 194 ≤ (b0.toNat : Int) := by omega
 have t2 : ¬ (b0.toNat : Int) ≤ 223 := by omega
 have t3 : 224 ≤ (b0.toNat : Int) := by omega
 have t4 : ¬ (b0.toNat : Int) ≤ 239 := by omega
 have t5 : 240 ≤ (b0.toNat : Int) := by omega
 have t6 : (b0.toNat : Int) ≤ 244 := by omega
 have t7 : ¬ (b0.toNat : Int) = 224 := by omega
 have t8 : ¬ (b0.toNat : Int) = 237 := by omega
 have t9 : ¬ (b0.toNat : Int) = 240 := by omega
 have t10 : ¬ (b0.toNat : Int) = 244 := by omega
 refine z7 hmix tf_86 rfl ?_
 by_cases hn : (l.length : Int) < 4
 ·simp only [vcA, seval, I, S, e0, c0, hl0, hn, t0, t1, t2, t3, t4, t5, t6, t7, t8, t9, t10]
  exact sg (by unfold signN; (repeat' split) <;> omega)
 obtain ⟨b1, e1⟩ := at_ (l := l) (i := 1) (by omega)
 have hb1 := u8_lt b1
 have g1 := getD_some e1
 obtain ⟨b2, e2⟩ := at_ (l := l) (i := 2) (by omega)
 have hb2 := u8_lt b2
 have g2 := getD_some e2
 obtain ⟨b3, e3⟩ := at_ (l := l) (i := 3) (by omega)
 have hb3 := u8_lt b3
 have g3 := getD_some e3
 have c1 := cvi8 b1.toNat hb1
 rw [g1, g2, g3]
 simp only [vcA, seval, I, S, e0, c0, e1, c1, hl0, hn, t0, t1, t2, t3, t4, t5, t6, t7, t8, t9, t10]
 refine ⟨fun h1 => sg (by unfold signN; (repeat' split) <;> omega), fun h1 => ⟨fun h2 => sg (by unfold signN; (repeat' split) <;> omega), fun h2 => ?_⟩⟩
 refine z107 3 ?_
 simp only [vcA, seval, I, S, v_unr, e1, e2, e3, wr3, wr4, wr5]
 repeat' (first | (apply And.intro) | (intro _))
 all_goals exact sg (by unfold signN; (repeat' split) <;> omega)
theorem sign_i (g : Sh.Glob) (l : List UInt8) (b0 : UInt8) (hl : 0 < l.length) (e0 : l[0]? = some b0) (hc : b0.toNat = 244) : SCalls Tryz.prog g 51 [S (str l)] [] (I (signN l.length b0.toNat (l.getD 1 0).toNat (l.getD 2 0).toNat (l.getD 3 0).toNat : Nat)) [] := by
 have hb := u8_lt b0
 have c0 := cvi8 b0.toNat hb
 have hl0 : ¬ (l.length : Int) = 0 := by omega

 refine z7 hmix tf_86 rfl ?_
 have q0 : (b0.toNat : Int) = 244 := by omega
 have q1 : IntKind.i64.wrap 244 = 244 := rfl
 by_cases hn : (l.length : Int) < 4
 ·simp only [vcA, seval, I, S, e0, c0, hl0, hn, q0, q1]
  exact sg (by unfold signN; (repeat' split) <;> omega)
 obtain ⟨b1, e1⟩ := at_ (l := l) (i := 1) (by omega)
 have hb1 := u8_lt b1
 have g1 := getD_some e1
 obtain ⟨b2, e2⟩ := at_ (l := l) (i := 2) (by omega)
 have hb2 := u8_lt b2
 have g2 := getD_some e2
 obtain ⟨b3, e3⟩ := at_ (l := l) (i := 3) (by omega)
 have hb3 := u8_lt b3
 have g3 := getD_some e3
 have c1 := cvi8 b1.toNat hb1
 rw [g1, g2, g3]
 simp only [vcA, seval, I, S, e0, c0, e1, c1, hl0, hn, q0, q1]
 refine ⟨fun h1 => sg (by unfold signN; (repeat' split) <;> omega), fun h1 => ⟨fun h2 => sg (by unfold signN; (repeat' split) <;> omega), fun h2 => ?_⟩⟩
 refine z107 3 ?_
 simp only [vcA, seval, I, S, v_unr, e1, e2, e3, wr3, wr4, wr5]
 repeat' (first | (apply And.intro) | (intro _))
 all_goals exact sg (by unfold signN; (repeat' split) <;> omega)
theorem sign_j (g : Sh.Glob) (l : List UInt8) (b0 : UInt8) (hl : 0 < l.length) (e0 : l[0]? = some b0) (hc : 245 ≤ b0.toNat) : SCalls Tryz.prog g 51 [S (str l)] [] (I (signN l.length b0.toNat (l.getD 1 0).toNat (l.getD 2 0).toNat (l.getD 3 0).toNat : Nat)) [] := by
 have hb := u8_lt b0
 have c0 := cvi8 b0.toNat hb
 have hl0 : ¬ (l.length : Int) = 0 := by omega
 have t0 : ¬ (b0.toNat : Int) < 128 := by omega
 have t1 : 194 ≤ (b0.toNat : Int) := by omega
 have t2 : ¬ (b0.toNat : Int) ≤ 223 := by omega
 have t3 : 224 ≤ (b0.toNat : Int) := by omega
 have t4 : ¬ (b0.toNat : Int) ≤ 239 := by omega
 have t5 : 240 ≤ (b0.toNat : Int) := by omega
 have t6 : ¬ (b0.toNat : Int) ≤ 244 := by omega
 have t7 : ¬ (b0.toNat : Int) = 224 := by omega
 have t8 : ¬ (b0.toNat : Int) = 237 := by omega
 have t9 : ¬ (b0.toNat : Int) = 240 := by omega
 have t10 : ¬ (b0.toNat : Int) = 244 := by omega
 refine z7 hmix tf_86 rfl ?_
 simp only [vcA, seval, I, S, e0, c0, hl0, t0, t1, t2, t3, t4, t5, t6, t7, t8, t9, t10]
 exact sg (by unfold signN; (repeat' split) <;> omega)
theorem sign_ok (g : Sh.Glob) (l : List UInt8) : SCalls Tryz.prog g 51 [S (str l)] [] (I (signL l)) [] := by
 by_cases h0 : l.length = 0
 ·have : l = [] := List.eq_nil_of_length_eq_zero h0
  subst this
  refine z7 hmix tf_86 rfl ?_
  simp only [vcA, seval, I, S, Int.natCast_zero, List.length_nil]
  rfl
 have hl : 0 < l.length := by omega
 obtain ⟨b0, e0⟩ := at_ hl
 rw [signL_eq hl, getD_some e0]
 have hb := u8_lt b0
 by_cases c0 : b0.toNat < 128
 ·exact sign_a g l b0 hl e0 c0
 by_cases c1 : 128 ≤ b0.toNat ∧ b0.toNat ≤ 193
 ·exact sign_b g l b0 hl e0 c1
 by_cases c2 : 194 ≤ b0.toNat ∧ b0.toNat ≤ 223
 ·exact sign_c g l b0 hl e0 c2
 by_cases c3 : b0.toNat = 224
 ·exact sign_d g l b0 hl e0 c3
 by_cases c4 : 225 ≤ b0.toNat ∧ b0.toNat ≤ 239 ∧ b0.toNat ≠ 237
 ·exact sign_e g l b0 hl e0 c4
 by_cases c5 : b0.toNat = 237
 ·exact sign_f g l b0 hl e0 c5
 by_cases c6 : b0.toNat = 240
 ·exact sign_g g l b0 hl e0 c6
 by_cases c7 : 241 ≤ b0.toNat ∧ b0.toNat ≤ 243
 ·exact sign_h g l b0 hl e0 c7
 by_cases c8 : b0.toNat = 244
 ·exact sign_i g l b0 hl e0 c8
 exact sign_j g l b0 hl e0 (by omega)
end Go.Proofs.YtmiokadmddjccaaGreatDoor
end

section
namespace Go.Proofs.YtmiokadmddjccaaGreatDoor
open Go Go.RowKit Go.Mor Go.Sh Go.Sh.Cd1
set_option maxRecDepth 100000
set_option maxHeartbeats 8000000
def isTextN : Nat → List UInt8 → Bool
 | 0, _ => true
 | n + 1, l => match l with
  | [] => true
  | b :: r => !(signL (b :: r) == 0) && !decide (b.toNat < 32) && !(b.toNat == 127) && isTextN n ((b :: r).drop (signL (b :: r)))
def isText (l : List UInt8) : Bool := isTextN l.length l
theorem isTextN_more : ∀ (n : Nat) (l : List UInt8), l.length ≤ n → isTextN n l = isText l := by
 intro n
 induction n using Nat.strongRecOn with
 | _ n ih =>
  intro l hl
  unfold isText
  cases l with
  | nil => cases n <;> rfl
  | cons b r =>
   obtain ⟨m, rfl⟩ : ∃ m, n = m + 1 := ⟨n - 1, by simp at hl; omega⟩
   simp only [isTextN, List.length_cons]
   by_cases h0 : signL (b :: r) = 0
   ·simp [h0]
   ·have h1 : ((b :: r).drop (signL (b :: r))).length ≤ r.length := by simp; omega
    simp at hl
    rw [ih m (by omega) _ (by omega)]
    by_cases he : r.length = m
    ·subst he; rw [ih r.length (by omega) _ h1]
    ·rw [ih r.length (by omega) _ h1]
theorem z142 (b : UInt8) (r : List UInt8) : isText (b :: r) = (!(signL (b :: r) == 0) && !decide (b.toNat < 32) && !(b.toNat == 127) && isText ((b :: r).drop (signL (b :: r)))) := by
 conv => lhs; unfold isText
 simp only [isTextN, List.length_cons]
 by_cases h0 : signL (b :: r) = 0
 ·simp [h0]
 ·rw [isTextN_more r.length _ (by simp; omega)]
theorem signL_le (l : List UInt8) : signL l ≤ l.length ∧ signL l ≤ 4 := by
 unfold signL
 cases l with
 | nil => simp
 | cons b r =>
  rw [if_neg (by simp)]
  unfold signN
  simp only [List.length_cons]
  repeat' split
  all_goals omega
theorem str_drop (l : List UInt8) (a : Nat) : (str l).extract a l.length = str (l.drop a) := by
 rw [str_extract, List.take_of_length_le (by simp)]
theorem isText_ok (g : Sh.Glob) (l : List UInt8) (hl : l.length ≤ 9223372036854775807) : SCalls Tryz.prog g 87 [S (str l)] [] (.pv (.v (.bool (isText l)))) [] := by
 refine z7 hmix tf_82 rfl ?_
 obtain ⟨r, hr⟩ : ∃ r, isText l = r := ⟨_, rfl⟩
 rw [hr]
 simp only [vcA, seval, vV]
 refine v_loop (σ := { i : Nat // i ≤ l.length ∧ r = isText (l.drop i) }) (fun i => ⟨[(0, S (str l)), (3, I (i.1 : Int))], [], [], []⟩) (fun i => l.length - i.1) ⟨0, Nat.zero_le _, hr.symm⟩ ?_ ?_
 ·apply lw_of <;> simp [leL, lk, sv, Nat.beq, I, S, ES.kill, has, drp, nilT]
 rintro ⟨i, hi, hT⟩
 by_cases hlt : i < l.length
 ·have d1 : (i : Int) < (l.length : Int) := by omega
  have hd := str_drop l i
  obtain ⟨b, eb⟩ := at_ hlt
  have hcons : l.drop i = b :: l.drop (i + 1) := by
   rw [List.drop_eq_getElem_cons hlt]; congr 1
   rw [List.getElem?_eq_getElem hlt] at eb; exact Option.some.inj eb
  have hs := signL_le (l.drop i)
  have hb := z142 b (l.drop (i + 1))
  rw [← hcons, ← hT] at hb
  simp only [List.length_drop] at hs
  have HS := sign_ok g (l.drop i)
  simp only [vcA, seval, vV, d1, hd]
  refine ⟨by omega, ?_⟩
  (with_reducible apply v_call); (· simp only [vcA, seval, vV]; with_reducible rfl); (· rfl); (· exact HS); (· first | rfl | (simp only [vcA, seval]; omega)); (· simp only [vcA, seval, vV]; with_reducible rfl)
  generalize signL (l.drop i) = n at hs hb ⊢
  by_cases h0 : n = 0
  ·have d2 : (n : Int) = 0 := by omega
   have hf : r = false := by rw [hb]; simp [h0]
   subst hf
   simp only [vcA, seval, vV, d2]
  have d2 : ¬ (n : Int) = 0 := by omega
  by_cases h1 : b.toNat < 32
  ·have d3 : (b.toNat : Int) < 32 := by omega
   have hf : r = false := by rw [hb]; simp [h1]
   subst hf
   simp only [vcA, seval, vV, d2, eb, d3]
  have d3 : ¬ (b.toNat : Int) < 32 := by omega
  by_cases h2 : b.toNat = 127
  ·have d4 : (b.toNat : Int) = 127 := by omega
   have hf : r = false := by rw [hb]; simp [h2]
   subst hf
   simp only [vcA, seval, vV, d2, eb, d3, d4]
  have d4 : ¬ (b.toNat : Int) = 127 := by omega
  have w1 : IntKind.i64.wrap ((i : Int) + (n : Int)) = ((i + n : Nat) : Int) := by rw [wrap64 (by omega) (by omega)]; omega
  have hT2 : r = isText (l.drop (i + n)) := by rw [hb, List.drop_drop]; simp [h0, h1, h2]
  simp only [vcA, seval, vV, d2, eb, d3, d4, w1]
  refine z10 ⟨i + n, by omega, hT2⟩ (by show l.length - (i + n) < l.length - i; omega) ?_
  apply lw_of <;> simp [leL, lk, sv, Nat.beq, I, S, ES.kill, has, drp, nilT]
 ·have d1 : ¬ (i : Int) < (l.length : Int) := by omega
  have hf : r = true := by rw [hT, List.drop_eq_nil_of_le (by omega)]; rfl
  subst hf
  simp only [vcA, seval, vV, d1]
def stepN (l : List UInt8) : Nat := max (signL l) 1
def vtN : Nat → List UInt8 → List UInt8 → List UInt8
 | 0, _, out => out
 | n + 1, l, out => if l = [] ∨ 17 ≤ out.length then out else vtN n (l.drop (stepN l)) (if isText (l.take (stepN l)) then out ++ l.take (stepN l) else out)
def vt (l out : List UInt8) : List UInt8 := vtN l.length l out
def valText (l : List UInt8) : List UInt8 := vt l []
theorem stepN_le {l : List UInt8} (h : 0 < l.length) : 1 ≤ stepN l ∧ stepN l ≤ l.length ∧ stepN l ≤ 4 := by
 have := signL_le l
 unfold stepN; omega
theorem vtN_more : ∀ (n : Nat) (l out : List UInt8), l.length ≤ n → vtN n l out = vt l out := by
 intro n
 induction n using Nat.strongRecOn with
 | _ n ih =>
  intro l out hl
  unfold vt
  cases n with
  | zero =>
   have : l.length = 0 := by omega
   rw [this]
  | succ m =>
   cases hm : l.length with
   | zero =>
    have : l = [] := List.eq_nil_of_length_eq_zero hm
    simp [vtN, this]
   | succ p =>
    simp only [vtN]
    split
    ·rfl
    ·have hs := stepN_le (l := l) (by omega)
     have h1 : (l.drop (stepN l)).length ≤ p := by simp; omega
     rw [ih m (by omega) _ _ (by omega), ih p (by omega) _ _ h1]
theorem vt_step (l out : List UInt8) : vt l out = if l = [] ∨ 17 ≤ out.length then out else vt (l.drop (stepN l)) (if isText (l.take (stepN l)) then out ++ l.take (stepN l) else out) := by
 conv => lhs; unfold vt
 cases hm : l.length with
 | zero =>
  have : l = [] := List.eq_nil_of_length_eq_zero hm
  simp [vtN, this]
 | succ p =>
  have hs := stepN_le (l := l) (by omega)
  simp only [vtN]
  split
  ·rfl
  ·rw [vtN_more p _ _ (by simp; omega)]
theorem valText_ok (g : Sh.Glob) (l : List UInt8) (hl : l.length ≤ 9223372036854775807) : SCalls Tryz.prog g 37 [S (str l)] [] (S (str (valText l))) [] := by
 refine z7 hmix tf_63 rfl ?_
 have e0 : (⟨#[]⟩ : ByteArray) = str [] := rfl
 obtain ⟨r, hr⟩ : ∃ r, valText l = r := ⟨_, rfl⟩
 rw [hr]
 simp only [vcA, seval, vV]
 refine v_loop (σ := { p : Nat × List UInt8 // p.1 ≤ l.length ∧ p.2.length ≤ 20 ∧ r = vt (l.drop p.1) p.2 }) (fun p => ⟨[(0, S (str l)), (3, S (str p.1.2)), (4, I (p.1.1 : Int))], [], [], []⟩) (fun p => l.length - p.1.1) ⟨(0, []), Nat.zero_le _, Nat.zero_le _, hr.symm⟩ ?_ ?_
 ·apply lw_of <;> simp [leL, lk, sv, Nat.beq, I, S, ES.kill, has, drp, nilT, e0]
 rintro ⟨⟨i, out⟩, hi, ho, hT⟩
 simp only at hi ho hT
 rw [vt_step] at hT
 by_cases hlt : ¬ i < l.length
 ·have d1 : ¬ (i : Int) < (l.length : Int) := by omega
  have hf : r = out := by rw [hT, if_pos (.inl (List.drop_eq_nil_of_le (by omega)))]
  subst hf
  simp only [vcA, seval, vV, d1]
 have d1 : (i : Int) < (l.length : Int) := by omega
 by_cases h17 : ¬ out.length < 17
 ·have d2 : ¬ (out.length : Int) < 17 := by omega
  have hf : r = out := by rw [hT, if_pos (.inr (by omega))]
  subst hf
  simp only [vcA, seval, vV, d1, d2]
 have d2 : (out.length : Int) < 17 := by omega
 have hd := str_drop l i
 have hs := stepN_le (l := l.drop i) (by simp; omega)
 rw [if_neg (by rw [List.drop_eq_nil_iff]; omega)] at hT
 have hm : max (signL (l.drop i) : Int) 1 = ((stepN (l.drop i) : Nat) : Int) := by unfold stepN; omega
 have HS := sign_ok g (l.drop i)
 simp only [vcA, seval, vV, d1, d2, hd]
 refine ⟨by omega, ?_⟩
 (with_reducible apply v_call); (· simp only [vcA, seval, vV]; with_reducible rfl); (· rfl); (· exact HS); (· first | rfl | (simp only [vcA, seval]; omega)); (· simp only [vcA, seval, vV]; with_reducible rfl)
 simp only [vcA, seval, vV, hm]
 simp only [List.length_drop] at hs
 obtain ⟨n, hn⟩ : ∃ n, n = stepN (l.drop i) := ⟨_, rfl⟩
 rw [← hn] at hs hT ⊢
 have w1 : IntKind.i64.wrap ((i : Int) + (n : Int)) = ((i + n : Nat) : Int) := by rw [wrap64 (by omega) (by omega)]; omega
 have g1 : i ≤ i + n := by omega
 have g2 : i + n ≤ l.length := by omega
 have hx : (str l).extract i (i + n) = str ((l.drop i).take n) := by rw [str_extract]; congr 2; omega
 have hlen : ((l.drop i).take n).length = n := by simp; omega
 have HT := isText_ok g ((l.drop i).take n) (by omega)
 have hii : i + n - i = n := by omega
 simp only [vcA, seval, vV, w1, hx, hii]
 refine ⟨⟨by omega, by omega⟩, ?_⟩
 (with_reducible apply v_call); (· simp only [vcA, seval, vV]; with_reducible rfl); (· rfl); (· exact HT); (· first | rfl | (simp only [vcA, seval]; omega)); (· simp only [vcA, seval, vV]; with_reducible rfl)
 by_cases hok : isText ((l.drop i).take n) = true
 ·rw [if_pos hok, List.drop_drop] at hT
  simp only [vcA, seval, vV, hok, w1, hx, hii]
  refine ⟨⟨by omega, by omega⟩, by omega, ?_⟩
  refine z10 ⟨(i + n, out ++ (l.drop i).take n), by omega, by simp; omega, hT⟩ (by show l.length - (i + n) < l.length - i; omega) ?_
  apply lw_of <;> simp [leL, lk, sv, Nat.beq, I, S, ES.kill, has, drp, nilT]
 ·have hok' : isText ((l.drop i).take n) = false := by simpa using hok
  rw [if_neg hok, List.drop_drop] at hT
  simp only [vcA, seval, vV, hok', w1]
  refine z10 ⟨(i + n, out), by omega, ho, hT⟩ (by show l.length - (i + n) < l.length - i; omega) ?_
  apply lw_of <;> simp [leL, lk, sv, Nat.beq, I, S, ES.kill, has, drp, nilT]
theorem z101 {c n : Int} (hn : 0 < n) (hc : I64 c) : 0 ≤ pickI c n ∧ pickI c n < n := by
 unfold pickI
 obtain ⟨h0, h1⟩ := hc
 split
 ·exact ⟨Int.tmod_nonneg n (by omega), Int.tmod_lt_of_pos _ hn⟩
 ·exact ⟨Int.tmod_nonneg n (by omega), Int.tmod_lt_of_pos _ hn⟩
end Go.Proofs.YtmiokadmddjccaaGreatDoor
end

section
namespace Go.Sh.Cd2
open Go Go.Sh
set_option maxRecDepth 100000
abbrev c_81_0 : SCode := .reg [([], [oD 2 (.mov (.val (.string ⟨#[]⟩)))])] [2]
abbrev c_81_1 : SCode := .reg [([], [oM 4 0, oD 5 (.bin .lss 3 (.tmp 4) (vI 0))])] [4]
abbrev c_81_2 : SCode := .reg [([], [oM 6 0, oD 7 (.bin .leq 3 (.tmp 6) (.val (.int .i64 (-10))))])] [5, 6]
abbrev c_81_3 : SCode := .reg [([2040, 2041, 2042, 2043, 2056, 2057, 2058, 2059], [oM 8 0, oD 9 (.bin .quo 3 (.tmp 8) (vI 10)), oD 10 (.call 44 0 [.tmp 9]), oM 11 0, oD 12 (.bin .rem 3 (.tmp 11) (vI 10)), oD 13 (.un .neg (.tmp 12)), oD 14 (.call 44 0 [.tmp 13]), oD 15 (.bin .add 9 (.tmp 10) (.tmp 14)), oM 2 15])] [0, 7, 8, 9, 10, 11, 12, 13, 14, 15]
abbrev c_81_4 : SCode := .reg [([2072, 2073, 2074, 2075], [oM 16 0, oD 17 (.un .neg (.tmp 16)), oD 18 (.call 44 0 [.tmp 17]), oD 19 (.bin .add 9 (.val (.string ⟨#[45]⟩)) (.tmp 18)), oM 2 19])] [0, 7, 16, 17, 18, 19]
abbrev c_81_5 : SCode := .reg [([], [oM 20 0, oD 21 (.bin .rem 3 (.tmp 20) (vI 10)), oM 22 0, oD 23 (.bin .rem 3 (.tmp 22) (vI 10)), oD 24 (.bin .add 3 (.tmp 23) (vI 1)), oD 25 (.ssub (.val (.string ⟨#[48, 49, 50, 51, 52, 53, 54, 55, 56, 57]⟩)) (some (.tmp 21)) (some (.tmp 24))), oM 3 25])] [2, 5, 20, 21, 22, 23, 24, 25]
abbrev c_81_6 : SCode := .reg [([], [oM 26 0, oD 27 (.bin .lss 3 (.tmp 26) (vI 10))])] [26]
abbrev c_81_7 : SCode := .reg [([], [oM 28 3, oM 2 28])] [0, 3, 27, 28]
abbrev c_81_8 : SCode := .reg [([2124, 2125, 2126, 2127], [oM 29 0, oD 30 (.bin .quo 3 (.tmp 29) (vI 10)), oD 31 (.call 44 0 [.tmp 30]), oM 32 3, oD 33 (.bin .add 9 (.tmp 31) (.tmp 32)), oM 2 33])] [0, 3, 27, 29, 30, 31, 32, 33]
abbrev F_81 : SFunc := ⟨34, (.seq c_81_0 (.seq (.seq c_81_1 (.cond (.tmp 5) (.seq (.seq c_81_2 (.cond (.tmp 7) (.seq c_81_3 .ret) .skip)) (.seq c_81_4 .ret)) .skip)) (.seq c_81_5 (.seq (.seq c_81_6 (.cond (.tmp 27) (.seq c_81_7 .ret) .skip)) (.seq c_81_8 .ret))))), [.tmp 2], false⟩
theorem tf_81 : z6 Go.Proofs.Tryz.prog 44 (hintT [(10, 0), (14, 0), (18, 0), (31, 0)]) (fpT []) (killT (klN 0 F_81.code.kl)) false = some F_81 := by kernel_rfl
end Go.Sh.Cd2
end

section
namespace Go.Proofs.YtmiokadmddjccaaGreatDoor
open Go Go.RowKit Go.Mor Go.Sh Go.Sh.Cd1 Go.Sh.Cd2
set_option maxRecDepth 100000
set_option maxHeartbeats 4000000
theorem digs : (⟨#[48, 49, 50, 51, 52, 53, 54, 55, 56, 57]⟩ : ByteArray) = str [48, 49, 50, 51, 52, 53, 54, 55, 56, 57] := rfl
theorem dig_at : ∀ k, k < 10 → List.take (k + 1 - k) (List.drop k [48, 49, 50, 51, 52, 53, 54, 55, 56, 57]) = [UInt8.ofNat (48 + k)] := by decide
theorem q45 : (⟨#[45]⟩ : ByteArray) = str [45] := rfl
theorem z141 (u : Nat) (h : ¬ u < 10) : Lib.decDigits u = Lib.decDigits (u / 10) ++ [UInt8.ofNat (48 + u % 10)] := by
 conv => lhs; rw [Lib.decDigits]
 rw [dif_neg h]
theorem refDigitsN_ok (g : Sh.Glob) : ∀ (f u : Nat), u ≤ f → u ≤ 1000000000000000 → SCalls Tryz.prog g 44 [I (u : Int)] [] (S (str (Lib.decDigits u))) []
 | f, u, hf, hu => by
  have e1 : (u : Int).tmod 10 = ((u % 10 : Nat) : Int) := (Int.ofNat_tmod _ _).symm
  have w1 : IntKind.i64.wrap (((u % 10 : Nat) : Int) + 1) = ((u % 10 + 1 : Nat) : Int) := by rw [wrap64 (by omega) (by omega)]; omega
  have d0 : ¬ (u : Int) < 0 := by omega
  have dk := dig_at (u % 10) (by omega)
  refine z7 hmix tf_81 rfl ?_
  by_cases h10 : u < 10
  ·have d1 : (u : Int) < 10 := by omega
   simp only [vcA, seval, vV, d0, e1, w1, digs, d1, dk]
   refine ⟨⟨by omega, by omega⟩, ?_⟩
   rw [Lib.decDigits_one h10, Nat.mod_eq_of_lt h10]
  ·have d1 : ¬ (u : Int) < 10 := by omega
   have w2 : IntKind.i64.wrap ((u : Int).tdiv 10) = ((u / 10 : Nat) : Int) := by
    rw [show (u : Int).tdiv 10 = ((u / 10 : Nat) : Int) from (Int.ofNat_tdiv _ _).symm, wrap64 (by omega) (by omega)]
   obtain ⟨f', rfl⟩ : ∃ f', f = f' + 1 := ⟨f - 1, by omega⟩
   have HD := refDigitsN_ok g f' (u / 10) (by omega) (by omega)
   have hl := Lib.itoa_length_le (u / 10 : Nat) (by omega) (by omega)
   rw [Lib.itoa_nonneg] at hl
   rw [z141 u h10]
   simp only [vcA, seval, vV, d0, e1, w1, digs, d1, dk, w2]
   refine ⟨⟨by omega, by omega⟩, ?_⟩
   (with_reducible apply v_call); (· simp only [vcA, seval, vV]; with_reducible rfl); (· rfl); (· exact HD); (· first | rfl | (simp only [vcA, seval]; omega)); (· simp only [vcA, seval, vV]; with_reducible rfl)
   simp only [vcA, seval, vV]
   omega
theorem refDigits_ok (g : Sh.Glob) (n : Int) (h1 : -1000000000000000 ≤ n) (h2 : n ≤ 1000000000000000) : SCalls Tryz.prog g 44 [I n] [] (S (str (Lib.itoa n))) [] := by
 by_cases hneg : n < 0
 ·-- n = -u
  have key : ∀ (f u : Nat), u ≤ f → 1 ≤ u → u ≤ 1000000000000000 → SCalls Tryz.prog g 44 [I (-(u : Int))] [] (S (str (45 :: Lib.decDigits u))) [] := by
   intro f
   induction f with
   | zero => intro u h1 h2; omega
   | succ f ih =>
    intro u hf hu1 hu
    refine z7 hmix tf_81 rfl ?_
    have d0 : (-(u : Int)) < 0 := by omega
    by_cases h10 : u < 10
    ·have d1 : ¬ (-(u : Int)) ≤ -10 := by omega
     have HD := refDigitsN_ok g u u (Nat.le_refl _) hu
     have w0 : IntKind.i64.wrap (0 - -(u : Int)) = (u : Int) := by rw [wrap64 (by omega) (by omega)]; omega
     have hl := Lib.itoa_length_le (u : Nat) (by omega) (by omega)
     rw [Lib.itoa_nonneg] at hl
     simp only [vcA, seval, vV, d0, d1, w0]
     (with_reducible apply v_call); (· simp only [vcA, seval, vV]; with_reducible rfl); (· rfl); (· exact HD); (· first | rfl | (simp only [vcA, seval]; omega)); (· simp only [vcA, seval, vV]; with_reducible rfl)
     simp only [vcA, seval, vV, q45]
     omega
    ·have d1 : (-(u : Int)) ≤ -10 := by omega
     have e1 : (-(u : Int)).tmod 10 = -((u % 10 : Nat) : Int) := by rw [Int.neg_tmod]; congr 1
     have e2 : (-(u : Int)).tdiv 10 = -((u / 10 : Nat) : Int) := by rw [Int.neg_tdiv]; congr 1
     have w1 : IntKind.i64.wrap (-((u / 10 : Nat) : Int)) = -((u / 10 : Nat) : Int) := wrap64 (by omega) (by omega)
     have w2 : IntKind.i64.wrap (0 - -((u % 10 : Nat) : Int)) = ((u % 10 : Nat) : Int) := by rw [wrap64 (by omega) (by omega)]; omega
     have HD := ih (u / 10) (by omega) (by omega) (by omega)
     have HE := refDigitsN_ok g (u % 10) (u % 10) (Nat.le_refl _) (by omega)
     rw [Lib.decDigits_one (show u % 10 < 10 by omega)] at HE
     have hl := Lib.itoa_length_le (u / 10 : Nat) (by omega) (by omega)
     rw [Lib.itoa_nonneg] at hl
     rw [z141 u h10]
     simp only [vcA, seval, vV, d0, d1, e1, e2, w1]
     (with_reducible apply v_call); (· simp only [vcA, seval, vV]; with_reducible rfl); (· rfl); (· exact HD); (· first | rfl | (simp only [vcA, seval]; omega)); (· simp only [vcA, seval, vV]; with_reducible rfl)
     simp only [vcA, seval, vV, e1, w2]
     (with_reducible apply v_call); (· simp only [vcA, seval, vV]; with_reducible rfl); (· rfl); (· exact HE); (· first | rfl | (simp only [vcA, seval]; omega)); (· simp only [vcA, seval, vV]; with_reducible rfl)
     simp only [vcA, seval, vV]
     omega
  obtain ⟨u, rfl⟩ : ∃ u : Nat, n = -(u : Int) := ⟨n.natAbs, by omega⟩
  rw [Lib.itoa_neg u (by omega)]
  exact key u u (Nat.le_refl _) (by omega) (by omega)
 ·obtain ⟨u, rfl⟩ : ∃ u : Nat, n = (u : Int) := ⟨n.toNat, by omega⟩
  rw [Lib.itoa_nonneg]
  exact refDigitsN_ok g u u (Nat.le_refl _) (by omega)
end Go.Proofs.YtmiokadmddjccaaGreatDoor
end

section
namespace Go.Proofs.YtmiokadmddjccaaGreatDoor
open Go Go.RowKit Go.Mor
theorem byte_lt (l : List UInt8) (i : Nat) : (l.getD i 0).toNat < 256 := (l.getD i 0).toNat_lt
theorem signL_decode (b : UInt8) (t : List UInt8) : signL (b :: t) = if (Lib.decodeL (b :: t)).1 = 65533 ∧ (Lib.decodeL (b :: t)).2 = 1 then 0 else (Lib.decodeL (b :: t)).2 := by
 rw [Lib.decodeL_N, signL, if_neg (by simp)]
 exact signN_decode _ _ _ _ _ (byte_lt _ _) (byte_lt _ _) (byte_lt _ _) (byte_lt _ _)
theorem rune_lo (n b0 b1 b2 b3 : Nat) : (b0 < 128 → (Lib.decodeN n b0 b1 b2 b3).1 = b0) ∧ (128 ≤ b0 → 128 ≤ (Lib.decodeN n b0 b1 b2 b3).1) := by
 unfold Lib.decodeN
 refine ⟨fun h => by rw [if_pos h], fun h => ?_⟩
 rw [if_neg (by omega)]
 (repeat' split) <;> simp only <;> omega
theorem plainR_lead (b : UInt8) (t : List UInt8) : plainR (Lib.decodeL (b :: t)).1 = (!decide (b.toNat < 32) && !(b.toNat == 127)) := by
 rw [Lib.decodeL_N]
 have h := rune_lo (b :: t).length ((b :: t).getD 0 0).toNat ((b :: t).getD 1 0).toNat ((b :: t).getD 2 0).toNat ((b :: t).getD 3 0).toNat
 have e : (b :: t).getD 0 0 = b := rfl
 rw [e] at h ⊢
 generalize (Lib.decodeN _ _ _ _ _).1 = r at h ⊢
 unfold plainR
 rw [Bool.eq_iff_iff]
 rcases Nat.lt_or_ge b.toNat 128 with hb | hb
 ·rw [h.1 hb]; simp
 ·have := h.2 hb
  simp; omega
theorem isText_eq : ∀ (n : Nat) (l : List UInt8), l.length ≤ n → isText l = (Lib.validD l && plainD l) := by
 intro n
 induction n with
 | zero => intro l hl; obtain rfl := List.eq_nil_of_length_eq_zero (by omega : l.length = 0); rfl
 | succ n ih =>
  intro l hl
  cases l with
  | nil => rfl
  | cons b t =>
   rw [z142, Lib.validD_step _ (by simp), z147 _ (by simp), plainR_lead, signL_decode]
   have hw := Lib.decodeL_width (b :: t)
   split
   ·simp
   ·rw [ih _ (by simp at hl ⊢; omega)]
    have h0 : ((Lib.decodeL (b :: t)).2 == 0) = false := by simp; omega
    rw [h0]
    generalize Lib.validD _ = p
    generalize plainD _ = q
    cases p <;> cases q <;> simp
theorem signL_app (a c : List UInt8) (h : signL a ≠ 0) : signL (a ++ c) = signL a := by
 have hne : a ≠ [] := by rintro rfl; exact h rfl
 have hl := (signL_le a).1
 unfold signL at *
 rw [if_neg hne] at h hl ⊢
 rw [if_neg (by simp [hne])]
 have g : ∀ i, i < a.length → (a ++ c).getD i 0 = a.getD i 0 := fun i hi => by
  simp only [List.getD_eq_getElem?_getD]; rw [List.getElem?_append_left hi]
 have h0 : 0 < a.length := List.length_pos_iff.2 hne
 rw [g 0 h0]
 simp only [List.length_append]
 generalize hB0 : (a.getD 0 0).toNat = B0 at h hl ⊢
 have g1 : 1 < a.length → ((a ++ c).getD 1 0).toNat = (a.getD 1 0).toNat := fun h => by rw [g 1 h]
 have g2 : 2 < a.length → ((a ++ c).getD 2 0).toNat = (a.getD 2 0).toNat := fun h => by rw [g 2 h]
 have g3 : 3 < a.length → ((a ++ c).getD 3 0).toNat = (a.getD 3 0).toNat := fun h => by rw [g 3 h]
 generalize ((a ++ c).getD 1 0).toNat = C1 at g1 ⊢
 generalize ((a ++ c).getD 2 0).toNat = C2 at g2 ⊢
 generalize ((a ++ c).getD 3 0).toNat = C3 at g3 ⊢
 generalize (a.getD 1 0).toNat = D1 at g1 h hl ⊢
 generalize (a.getD 2 0).toNat = D2 at g2 h hl ⊢
 generalize (a.getD 3 0).toNat = D3 at g3 h hl ⊢
 unfold signN at *
 by_cases c1 : B0 < 128
 ·rw [if_pos c1, if_pos c1]
 rw [if_neg c1] at h hl ⊢
 rw [if_neg c1]
 by_cases c2 : 194 ≤ B0 ∧ B0 ≤ 223
 ·rw [if_pos c2] at h hl ⊢
  rw [if_pos c2]
  split at h
  ·contradiction
  ·rw [if_neg (by omega), if_neg (by assumption)]
 rw [if_neg c2] at h hl ⊢
 rw [if_neg c2]
 by_cases c3 : 224 ≤ B0 ∧ B0 ≤ 239
 ·rw [if_pos c3] at h hl ⊢
  rw [if_pos c3]
  generalize (if B0 = 224 then 160 else 128) = lo at *
  generalize (if B0 = 237 then 159 else 191) = hi at *
  split at h
  ·contradiction
  ·rw [if_neg (by omega), if_neg (by assumption)]
 rw [if_neg c3] at h hl ⊢
 rw [if_neg c3]
 by_cases c4 : 240 ≤ B0 ∧ B0 ≤ 244
 ·rw [if_pos c4] at h hl ⊢
  rw [if_pos c4]
  generalize (if B0 = 240 then 144 else 128) = lo at *
  generalize (if B0 = 244 then 143 else 191) = hi at *
  split at h
  ·contradiction
  ·rw [if_neg (by omega), if_neg (by assumption)]
 rw [if_neg c4] at h
 contradiction
theorem isText_app : ∀ (n : Nat) (a c : List UInt8), a.length ≤ n → isText a = true → isText c = true → isText (a ++ c) = true := by
 intro n
 induction n with
 | zero => intro a c ha _ hc; obtain rfl := List.eq_nil_of_length_eq_zero (by omega : a.length = 0); exact hc
 | succ n ih =>
  intro a c hl ha hc
  cases a with
  | nil => exact hc
  | cons b t =>
   rw [z142] at ha
   simp only [Bool.and_eq_true, Bool.not_eq_true', beq_eq_false_iff_ne] at ha
   obtain ⟨⟨⟨h1, h2⟩, h3⟩, h4⟩ := ha
   have hs := signL_app (b :: t) c h1
   have hle := (signL_le (b :: t)).1
   rw [List.cons_append] at hs
   rw [List.cons_append, z142, hs, ← List.cons_append, List.drop_append_of_le_length hle]
   rw [ih _ c (by simp at hl ⊢; omega) h4 hc]
   simp [h1, h2, h3]
theorem vtN_right : ∀ (n : Nat) (l out : List UInt8), isText out = true → out.length ≤ 20 → isText (vtN n l out) = true ∧ (vtN n l out).length ≤ 20 := by
 intro n
 induction n with
 | zero => intro l out h1 h2; exact ⟨h1, h2⟩
 | succ n ih =>
  intro l out h1 h2
  simp only [vtN]
  split
  ·exact ⟨h1, h2⟩
  ·rename_i hn
   refine ih _ _ ?_ ?_
   ·split
    ·rename_i ht; exact isText_app _ _ _ (Nat.le_refl _) h1 ht
    ·exact h1
   ·split
    ·have hl : 0 < l.length := List.length_pos_iff.2 (fun h => hn (.inl h))
     have hs := stepN_le hl
     have : ¬ 17 ≤ out.length := fun h => hn (.inr h)
     simp only [List.length_append, List.length_take]; omega
    ·exact h2
theorem z95 (l : List UInt8) : (valText l).length ≤ 20 ∧ isText (valText l) = true := (vtN_right _ l [] rfl (by simp)).symm
theorem z159 (l : List UInt8) : z8 (valText l) = true := by
 obtain ⟨h1, h2⟩ := z95 l
 rw [isText_eq _ _ (Nat.le_refl _)] at h2
 unfold z8
 simp only [Bool.and_eq_true] at h2 ⊢
 exact ⟨by simp; omega, h2⟩
end Go.Proofs.YtmiokadmddjccaaGreatDoor
end

section
namespace Go.Proofs.YtmiokadmddjccaaGreatDoor
open Go Go.RowKit Go.Mor Go.Sh Go.Sh.Cd1 Go.Sh.Cd6
set_option maxRecDepth 100000
set_option maxHeartbeats 8000000
theorem pick6_ok (g : Sh.Glob) (c n : Int) (hc : I64 c) (hn : n ≠ 0) : SCalls Tryz.prog g 38 [I c, I n] [] (I (pickI c n)) [] := by
 obtain ⟨h0, h1⟩ := hc
 refine z7 hmix tf_74 rfl ?_
 unfold pickI
 by_cases hneg : c < 0
 ·rw [if_pos hneg]
  have w1 : IntKind.i64.wrap (c + 1) = c + 1 := wrap64 (by omega) (by omega)
  have w2 : IntKind.i64.wrap (0 - (c + 1)) = -(c + 1) := by rw [wrap64 (by omega) (by omega)]; omega
  simp only [vcA, seval, vV, hneg, hn, w1, w2]
 ·rw [if_neg hneg]
  simp only [vcA, seval, vV, hneg, hn]
theorem signL_sgn {g : List UInt8} (h : Sgn g) (r : List UInt8) : signL (g ++ r) = g.length := by
 have hd := h.dec r
 have hok := h.ok
 obtain ⟨b, g', rfl⟩ : ∃ b g', g = b :: g' := by
  cases g with
  | nil => exact absurd rfl h.ne
  | cons b g' => exact ⟨b, g', rfl⟩
 rw [List.cons_append] at hd ⊢
 rw [signL_decode, hd, if_neg hok]
theorem refSigns_ok (g : Sh.Glob) (gs : List (List UInt8)) (h : Txt gs) (hl : gs.flatten.length ≤ 4611686018427387904) : SCalls Tryz.prog g 43 [S (str gs.flatten)] [] (I (gs.length : Int)) [] := by
 refine z7 hmix tf_88 rfl ?_
 obtain ⟨l, hL⟩ : ∃ l, gs.flatten = l := ⟨_, rfl⟩
 rw [hL] at hl ⊢
 have hk : gs.length ≤ l.length := by have := z122 gs h; rw [hL] at this; exact this
 simp only [vcA, seval, vV]
 refine v_loop (σ := {j : Nat // j ≤ gs.length}) (fun j => ⟨[(0, S (str l)), (3, I (j.1 : Int)), (4, I ((gs.take j.1).flatten.length : Int))], [], [], []⟩) (fun j => gs.length - j.1) ⟨0, Nat.zero_le _⟩ ?_ ?_
 ·apply lw_of <;> simp [leL, lk, sv, Nat.beq, I, S, ES.kill, has, drp, nilT]
 rintro ⟨j, hj⟩
 have hsp : (gs.take j).flatten ++ (gs.drop j).flatten = l := by rw [← List.flatten_append, List.take_append_drop, hL]
 by_cases hlt : j < gs.length
 ·obtain ⟨c, ec⟩ : ∃ c, gs[j]? = some c := ⟨_, List.getElem?_eq_getElem hlt⟩
  have hc := h c (List.mem_of_getElem? ec)
  have hp := hc.pos
  have hdr : gs.drop j = c :: gs.drop (j + 1) := by rw [List.drop_eq_getElem_cons hlt]; congr 1; exact (List.getElem?_eq_some_iff.1 ec).2
  have htk : (gs.take (j + 1)).flatten.length = (gs.take j).flatten.length + c.length := by rw [List.take_add_one, ec, List.flatten_append, List.length_append]; simp
  have hlen : (gs.take j).flatten.length + c.length ≤ l.length := by rw [← hsp, hdr, List.length_append, List.flatten_cons, List.length_append]; omega
  have hdl : l.drop (gs.take j).flatten.length = c ++ (gs.drop (j + 1)).flatten := by rw [← hsp, List.drop_left, hdr, List.flatten_cons]
  have HS := sign_ok g (l.drop (gs.take j).flatten.length)
  rw [hdl, signL_sgn hc] at HS
  have hx := str_dropX l (gs.take j).flatten.length
  rw [hdl] at hx
  generalize (gs.take j).flatten.length = i at *
  have d1 : (i : Int) < (l.length : Int) := by omega
  have d2 : max ((c.length : Nat) : Int) 1 = (c.length : Int) := by omega
  have w1 : IntKind.i64.wrap ((j : Int) + 1) = ((j + 1 : Nat) : Int) := by rw [wrap64 (by omega) (by omega)]; omega
  have w2 : IntKind.i64.wrap ((i : Int) + (c.length : Int)) = ((i + c.length : Nat) : Int) := by rw [wrap64 (by omega) (by omega)]; omega
  simp only [vcA, seval, vV, d1, hx]
  refine ⟨by omega, ?_⟩
  (with_reducible apply v_call); (· simp only [vcA, seval, vV]; with_reducible rfl); (· rfl); (· exact HS); (· first | rfl | (simp only [vcA, seval]; omega)); (· simp only [vcA, seval, vV]; with_reducible rfl)
  simp only [vcA, seval, vV, d2, w1, w2]
  refine z10 ⟨j + 1, hlt⟩ (by show gs.length - (j + 1) < gs.length - j; omega) ?_
  simp only [htk]
  apply lw_of <;> simp [leL, lk, sv, Nat.beq, I, S, ES.kill, has, drp, nilT]
 ·obtain rfl : j = gs.length := by omega
  have d1 : ¬ ((gs.take gs.length).flatten.length : Int) < (l.length : Int) := by rw [List.take_length, hL]; omega
  simp only [vcA, seval, vV, d1]
theorem txA_p : parseV 60 [108, 101, 102, 116, 40, 116, 44, 32, 110, 41, 32, 38, 32, 102, 114, 111, 109, 40, 116, 44, 32, 110, 41] = some (eO [38] (Go.Mor.eC nLeft [ft', fn']) (Go.Mor.eC nFrom [ft', fn']), 0, 0) := by kernel_rfl
theorem txB_p : parseV 60 [108, 101, 110, 40, 108, 101, 102, 116, 40, 116, 44, 32, 110, 41, 41, 32, 43, 32, 108, 101, 110, 40, 102, 114, 111, 109, 40, 116, 44, 32, 110, 41, 41, 32, 45, 32, 108, 101, 110, 40, 116, 41] = some (eO [45] (eO [43] (Go.Mor.eC nLen [Go.Mor.eC nLeft [ft', fn']]) (Go.Mor.eC nLen [Go.Mor.eC nFrom [ft', fn']])) (Go.Mor.eC nLen [ft']), 0, 0) := by kernel_rfl
theorem txC_p : parseV 60 [114, 105, 103, 104, 116, 40, 116, 44, 32, 110, 41, 32, 61, 32, 102, 114, 111, 109, 40, 116, 44, 32, 108, 101, 110, 40, 116, 41, 32, 45, 32, 109, 97, 120, 40, 110, 44, 32, 48, 41, 41] = some (eO [61] (Go.Mor.eC nRight [ft', fn']) (Go.Mor.eC nFrom [ft', eO [45] (Go.Mor.eC nLen [ft']) (Go.Mor.eC nMax [fn', eN 0])]), 0, 0) := by kernel_rfl
theorem txL_p : parseV 60 [108, 101, 110, 40, 116, 41] = some (Go.Mor.eC nLen [ft'], 0, 0) := by kernel_rfl
theorem txG_p : parseV 60 [102, 105, 110, 100, 40, 116, 44, 32, 116, 32, 38, 32, 34, 120, 34, 41] = some (Go.Mor.eC nFind [ft', eO [38] ft' (eT [120])], 0, 0) := by kernel_rfl
theorem evalTexts_ok (m : Nat) (s : List UInt8) (n a k : Int) (hs : s.length ≤ 9223372036854775807) (hn : I64 n) (ha : I64 a) (hk : I64 k) :
  SCalls Tryz.prog (glE m) 7 [S (str s), I n, I a, I k] [] (B true) [] := by
 have HA := awake_ok m
 have HV := valText_ok (glE m) s hs
 obtain ⟨lt, _⟩ := z95 s
 have rt := z159 s
 obtain ⟨gs, hg, ht, _⟩ := z103 rt
 rw [← ht] at HV lt rt
 clear ht
 have lg := z122 gs hg
 have HK := pick6_ok (glE m) n 30 hn (by decide)
 have h30 := z101 (n := 30) (by decide) hn
 obtain ⟨x, hx⟩ : ∃ x, pickI n 30 - 3 = x := ⟨_, rfl⟩
 have w1 : IntKind.i64.wrap (pickI n 30 - 3) = x := by rw [wrap64 (by omega) (by omega)]; omega
 have hx' : -3 ≤ x ∧ x ≤ 26 := by omega
 have rx : Rg x := ⟨by omega, by omega⟩
 have r0 : Rg 0 := ⟨by omega, by omega⟩
 have A1 := isL_ok m txA_p rx rt (by kernel_rfl) (.mk 2 0 gs.flatten []) (tx_a hg lt) rfl
 have A2 := isL_ok m txB_p rx rt (by kernel_rfl) (.mk 1 0 [] []) (tx_b hg lt) rfl
 have A3 := isL_ok m txC_p rx rt (by kernel_rfl) (.mk 1 1 [] []) (tx_c hg lt hx') rfl
 have A4 := worthL_ok m txL_p r0 rt (by kernel_rfl)
 rw [tx_len hg lt] at A4
 have A7 := isL_ok m txG_p r0 rt (by kernel_rfl) (.mk 1 (-1) [] []) (tx_g hg lt) rfl
 have HS := refSigns_ok (glE m) gs hg (by omega)
 have w2 : IntKind.i64.wrap ((gs.length : Int) + 1) = ((gs.length + 1 : Nat) : Int) := by rw [wrap64 (by omega) (by omega)]; omega
 have HP := pick6_ok (glE m) a ((gs.length + 1 : Nat) : Int) ha (by omega)
 have hi := z101 (n := ((gs.length + 1 : Nat) : Int)) (by omega) ha
 have HQ := pick6_ok (glE m) k 9 hk (by decide)
 have hj := z101 (n := 9) (by decide) hk
 obtain ⟨i, ei⟩ := Int.eq_ofNat_of_zero_le hi.1
 obtain ⟨j, ej⟩ := Int.eq_ofNat_of_zero_le hj.1
 rw [ei] at HP hi
 rw [ej] at HQ hj
 have hi1 : i ≤ gs.length := by omega
 have hj1 : j ≤ 20 := by omega
 have D1 := refDigits_ok (glE m) (i : Int) (by omega) (by omega)
 have D2 := refDigits_ok (glE m) (j : Int) (by omega) (by omega)
 have l1 := z100 (n := i) ⟨by omega, by omega⟩
 have l2 := z100 (n := j) ⟨by omega, by omega⟩
 have A5 := isL_ok m (pa_txe (i := i) (j := j) ⟨by omega, by omega⟩ ⟨by omega, by omega⟩ l1 l2) r0 rt (by kernel_rfl) (.mk 1 1 [] []) (tx_e hg lt hi1 hj1) rfl
 have A6 := isL_ok m (pa_txf (i := i) (j := j) ⟨by omega, by omega⟩ ⟨by omega, by omega⟩ l1 l2) r0 rt (by kernel_rfl) (.mk 1 1 [] []) (tx_f hg lt hi1 hj1) rfl
 have N0 := num6_ok (glE m) 0
 have N1 := num6_ok (glE m) 1
 have N2 := num6_ok (glE m) (-1)
 have NT := text6_ok (glE m) gs.flatten
 generalize Lib.itoa (i : Int) = u at *
 generalize Lib.itoa (j : Int) = v at *
 generalize gs.flatten = t at *
 have q0 : (⟨#[108, 101, 102, 116, 40, 116, 44, 32, 110, 41, 32, 38, 32, 102, 114, 111, 109, 40, 116, 44, 32, 110, 41]⟩ : ByteArray) = str [108, 101, 102, 116, 40, 116, 44, 32, 110, 41, 32, 38, 32, 102, 114, 111, 109, 40, 116, 44, 32, 110, 41] := rfl
 have q1 : (⟨#[108, 101, 110, 40, 108, 101, 102, 116, 40, 116, 44, 32, 110, 41, 41, 32, 43, 32, 108, 101, 110, 40, 102, 114, 111, 109, 40, 116, 44, 32, 110, 41, 41, 32, 45, 32, 108, 101, 110, 40, 116, 41]⟩ : ByteArray) = str [108, 101, 110, 40, 108, 101, 102, 116, 40, 116, 44, 32, 110, 41, 41, 32, 43, 32, 108, 101, 110, 40, 102, 114, 111, 109, 40, 116, 44, 32, 110, 41, 41, 32, 45, 32, 108, 101, 110, 40, 116, 41] := rfl
 have q2 : (⟨#[114, 105, 103, 104, 116, 40, 116, 44, 32, 110, 41, 32, 61, 32, 102, 114, 111, 109, 40, 116, 44, 32, 108, 101, 110, 40, 116, 41, 32, 45, 32, 109, 97, 120, 40, 110, 44, 32, 48, 41, 41]⟩ : ByteArray) = str [114, 105, 103, 104, 116, 40, 116, 44, 32, 110, 41, 32, 61, 32, 102, 114, 111, 109, 40, 116, 44, 32, 108, 101, 110, 40, 116, 41, 32, 45, 32, 109, 97, 120, 40, 110, 44, 32, 48, 41, 41] := rfl
 have q3 : (⟨#[102, 105, 110, 100, 40, 116, 44, 32, 116, 32, 38, 32, 34, 120, 34, 41]⟩ : ByteArray) = str [102, 105, 110, 100, 40, 116, 44, 32, 116, 32, 38, 32, 34, 120, 34, 41] := rfl
 have q4 : (⟨#[108, 101, 110, 40, 116, 41]⟩ : ByteArray) = str [108, 101, 110, 40, 116, 41] := rfl
 have q5 : (⟨#[108, 101, 102, 116, 40, 102, 114, 111, 109, 40, 116, 44, 32]⟩ : ByteArray) = str [108, 101, 102, 116, 40, 102, 114, 111, 109, 40, 116, 44, 32] := rfl
 have q6 : (⟨#[41, 44, 32]⟩ : ByteArray) = str [41, 44, 32] := rfl
 have q7 : (⟨#[41]⟩ : ByteArray) = str [41] := rfl
 have q8 : (⟨#[102, 105, 110, 100, 40, 116, 44, 32]⟩ : ByteArray) = str [102, 105, 110, 100, 40, 116, 44, 32] := rfl
 have q9 : (⟨#[41, 32, 60, 61, 32]⟩ : ByteArray) = str [41, 32, 60, 61, 32] := rfl
 have q10 : (⟨#[108, 101, 102, 116, 40, 102, 114, 111, 109, 40, 116, 44, 32, 102, 105, 110, 100, 40, 116, 44, 32]⟩ : ByteArray) = str [108, 101, 102, 116, 40, 102, 114, 111, 109, 40, 116, 44, 32, 102, 105, 110, 100, 40, 116, 44, 32] := rfl
 have q11 : (⟨#[41, 41, 44, 32, 108, 101, 110, 40]⟩ : ByteArray) = str [41, 41, 44, 32, 108, 101, 110, 40] := rfl
 have q12 : (⟨#[41, 41, 32, 61, 32]⟩ : ByteArray) = str [41, 41, 32, 61, 32] := rfl
 have e5 : [102, 105, 110, 100, 40, 116, 44, 32, 108, 101, 102, 116, 40, 102, 114, 111, 109, 40, 116, 44, 32] ++ u ++ [41, 44, 32] ++ v ++ [41, 41, 32, 60, 61, 32] ++ u = [102, 105, 110, 100, 40, 116, 44, 32] ++ ([108, 101, 102, 116, 40, 102, 114, 111, 109, 40, 116, 44, 32] ++ u ++ [41, 44, 32] ++ v ++ [41]) ++ [41, 32, 60, 61, 32] ++ u := by simp only [List.append_assoc, List.cons_append, List.nil_append]
 have e6 : [108, 101, 102, 116, 40, 102, 114, 111, 109, 40, 116, 44, 32, 102, 105, 110, 100, 40, 116, 44, 32, 108, 101, 102, 116, 40, 102, 114, 111, 109, 40, 116, 44, 32] ++ u ++ [41, 44, 32] ++ v ++ [41, 41, 41, 44, 32, 108, 101, 110, 40, 108, 101, 102, 116, 40, 102, 114, 111, 109, 40, 116, 44, 32] ++ u ++ [41, 44, 32] ++ v ++ [41, 41, 41, 32, 61, 32, 108, 101, 102, 116, 40, 102, 114, 111, 109, 40, 116, 44, 32] ++ u ++ [41, 44, 32] ++ v ++ [41] = [108, 101, 102, 116, 40, 102, 114, 111, 109, 40, 116, 44, 32, 102, 105, 110, 100, 40, 116, 44, 32] ++ ([108, 101, 102, 116, 40, 102, 114, 111, 109, 40, 116, 44, 32] ++ u ++ [41, 44, 32] ++ v ++ [41]) ++ [41, 41, 44, 32, 108, 101, 110, 40] ++ ([108, 101, 102, 116, 40, 102, 114, 111, 109, 40, 116, 44, 32] ++ u ++ [41, 44, 32] ++ v ++ [41]) ++ [41, 41, 32, 61, 32] ++ ([108, 101, 102, 116, 40, 102, 114, 111, 109, 40, 116, 44, 32] ++ u ++ [41, 44, 32] ++ v ++ [41]) := by simp only [List.append_assoc, List.cons_append, List.nil_append]
 rw [e5] at A5
 rw [e6] at A6
 clear e5 e6
 simp only [List.cons_append, List.nil_append] at A5 A6
 refine z7 hmix tf_69 rfl ?_
 unfold B nv tv at *
 simp only [vcA, seval, vV, cmV]
 (with_reducible apply v_call); (· simp only [vcA, seval, vV, cmV]; with_reducible rfl); (· rfl); (· exact HA); (· first | rfl | (simp only [vcA, seval]; omega)); (· simp only [vcA, seval, vV, cmV]; with_reducible rfl)
 simp only [vcA, seval, vV, cmV]
 (with_reducible apply v_call); (· simp only [vcA, seval, vV, cmV]; with_reducible rfl); (· rfl); (· exact HV); (· first | rfl | (simp only [vcA, seval]; omega)); (· simp only [vcA, seval, vV, cmV]; with_reducible rfl)
 simp only [vcA, seval, vV, cmV]
 (with_reducible apply v_call); (· simp only [vcA, seval, vV, cmV]; with_reducible rfl); (· rfl); (· exact HK); (· first | rfl | (simp only [vcA, seval]; omega)); (· simp only [vcA, seval, vV, cmV]; with_reducible rfl)
 simp only [vcA, seval, vV, cmV, w1, q0]
 (with_reducible apply v_call); (· simp only [vcA, seval, vV, cmV]; with_reducible rfl); (· rfl); (· exact NT); (· first | rfl | (simp only [vcA, seval]; omega)); (· simp only [vcA, seval, vV, cmV]; with_reducible rfl)
 (with_reducible apply v_call); (· simp only [vcA, seval, vV, cmV]; with_reducible rfl); (· rfl); (· exact A1); (· first | rfl | (simp only [vcA, seval]; omega)); (· simp only [vcA, seval, vV, cmV]; with_reducible rfl)
 simp only [vcA, seval, vV, cmV, q1]
 (with_reducible apply v_call); (· simp only [vcA, seval, vV, cmV]; with_reducible rfl); (· rfl); (· exact N0); (· first | rfl | (simp only [vcA, seval]; omega)); (· simp only [vcA, seval, vV, cmV]; with_reducible rfl)
 (with_reducible apply v_call); (· simp only [vcA, seval, vV, cmV]; with_reducible rfl); (· rfl); (· exact A2); (· first | rfl | (simp only [vcA, seval]; omega)); (· simp only [vcA, seval, vV, cmV]; with_reducible rfl)
 simp only [vcA, seval, vV, cmV, q2]
 (with_reducible apply v_call); (· simp only [vcA, seval, vV, cmV]; with_reducible rfl); (· rfl); (· exact N1); (· first | rfl | (simp only [vcA, seval]; omega)); (· simp only [vcA, seval, vV, cmV]; with_reducible rfl)
 (with_reducible apply v_call); (· simp only [vcA, seval, vV, cmV]; with_reducible rfl); (· rfl); (· exact A3); (· first | rfl | (simp only [vcA, seval]; omega)); (· simp only [vcA, seval, vV, cmV]; with_reducible rfl)
 simp only [vcA, seval, vV, cmV, q4]
 (with_reducible apply v_call); (· simp only [vcA, seval, vV, cmV]; with_reducible rfl); (· rfl); (· exact A4); (· first | rfl | (simp only [vcA, seval]; omega)); (· simp only [vcA, seval, vV, cmV]; with_reducible rfl)
 simp only [vcA, seval, vV, cmV]
 (with_reducible apply v_call); (· simp only [vcA, seval, vV, cmV]; with_reducible rfl); (· rfl); (· exact HS); (· first | rfl | (simp only [vcA, seval]; omega)); (· simp only [vcA, seval, vV, cmV]; with_reducible rfl)
 simp only [vcA, seval, vV, cmV, w2]
 (with_reducible apply v_call); (· simp only [vcA, seval, vV, cmV]; with_reducible rfl); (· rfl); (· exact HP); (· first | rfl | (simp only [vcA, seval]; omega)); (· simp only [vcA, seval, vV, cmV]; with_reducible rfl)
 (with_reducible apply v_call); (· simp only [vcA, seval, vV, cmV]; with_reducible rfl); (· rfl); (· exact D1); (· first | rfl | (simp only [vcA, seval]; omega)); (· simp only [vcA, seval, vV, cmV]; with_reducible rfl)
 simp only [vcA, seval, vV, cmV]
 (with_reducible apply v_call); (· simp only [vcA, seval, vV, cmV]; with_reducible rfl); (· rfl); (· exact HQ); (· first | rfl | (simp only [vcA, seval]; omega)); (· simp only [vcA, seval, vV, cmV]; with_reducible rfl)
 (with_reducible apply v_call); (· simp only [vcA, seval, vV, cmV]; with_reducible rfl); (· rfl); (· exact D2); (· first | rfl | (simp only [vcA, seval]; omega)); (· simp only [vcA, seval, vV, cmV]; with_reducible rfl)
 simp only [vcA, seval, vV, cmV, q5, q6, q7, q8, q9]
 refine ⟨by omega, by omega, by omega, by omega, by omega, by omega, by omega, ?_⟩
 (with_reducible apply v_call); (· simp only [vcA, seval, vV, cmV]; with_reducible rfl); (· rfl); (· exact N1); (· first | rfl | (simp only [vcA, seval]; omega)); (· simp only [vcA, seval, vV, cmV]; with_reducible rfl)
 (with_reducible apply v_call); (· simp only [vcA, seval, vV, cmV]; with_reducible rfl); (· rfl); (· exact A5); (· first | rfl | (simp only [vcA, seval]; omega)); (· simp only [vcA, seval, vV, cmV]; with_reducible rfl)
 simp only [vcA, seval, vV, cmV, q10, q11, q12]
 refine ⟨by omega, by omega, by omega, by omega, by omega, ?_⟩
 (with_reducible apply v_call); (· simp only [vcA, seval, vV, cmV]; with_reducible rfl); (· rfl); (· exact N1); (· first | rfl | (simp only [vcA, seval]; omega)); (· simp only [vcA, seval, vV, cmV]; with_reducible rfl)
 (with_reducible apply v_call); (· simp only [vcA, seval, vV, cmV]; with_reducible rfl); (· rfl); (· exact A6); (· first | rfl | (simp only [vcA, seval]; omega)); (· simp only [vcA, seval, vV, cmV]; with_reducible rfl)
 simp only [vcA, seval, vV, cmV, q3]
 (with_reducible apply v_call); (· simp only [vcA, seval, vV, cmV]; with_reducible rfl); (· rfl); (· exact N2); (· first | rfl | (simp only [vcA, seval]; omega)); (· simp only [vcA, seval, vV, cmV]; with_reducible rfl)
 (with_reducible apply v_call); (· simp only [vcA, seval, vV, cmV]; with_reducible rfl); (· rfl); (· exact A7); (· first | rfl | (simp only [vcA, seval]; omega)); (· simp only [vcA, seval, vV, cmV]; with_reducible rfl)
 simp only [vcA, seval, vV, cmV]
end Go.Proofs.YtmiokadmddjccaaGreatDoor
end
