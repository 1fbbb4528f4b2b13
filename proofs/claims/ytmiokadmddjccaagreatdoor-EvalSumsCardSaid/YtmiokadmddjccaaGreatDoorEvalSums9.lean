/- Merged texts: Pcm Px2 Cd6 Px5 Px7 Pe7 Pe8 Sy12 Zt7 Zg13 Zg14. No statement of the program is proved here. -/
import Derived.Test.YtmiokadmddjccaaGreatDoorM1
import Derived.Test.YtmiokadmddjccaaGreatDoorM2
import Derived.Test.YtmiokadmddjccaaGreatDoorM3
import Derived.Test.YtmiokadmddjccaaGreatDoorM4
import Derived.Test.YtmiokadmddjccaaGreatDoorM5
import Derived.Test.YtmiokadmddjccaaGreatDoorM6
import Derived.Test.YtmiokadmddjccaaGreatDoorM7
import Derived.Test.YtmiokadmddjccaaGreatDoorM8
set_option linter.unusedSimpArgs false
set_option linter.unusedVariables false
section
namespace Go.Proofs.YtmiokadmddjccaaGreatDoor
open Go Go.Mor
def pickI (c n : Int) : Int := (if c < 0 then -(c + 1) else c).tmod n
end Go.Proofs.YtmiokadmddjccaaGreatDoor
end

section
namespace Go.Mor
open Go
set_option maxHeartbeats 2000000
def NoWord (l : List UInt8) : Prop := ∀ c r, l = c :: r → nameB c = false
theorem digB_name {b : UInt8} (h : digB b = true) : nameB b = true := by
 unfold digB at h; unfold nameB
 simp only [decide_eq_true_eq] at h
 simp [h]
theorem numG_end {l : List UInt8} (h : NoWord l) (n : Int) (z : Nat) : numG l n z = (n, z) := by
 cases l with
 | nil => rfl
 | cons c r =>
  have hc := h c r rfl
  rw [numG]
  cases hd : digB c with
  | false => simp
  | true => rw [digB_name hd] at hc; cases hc
theorem numG_digits : ∀ (m : Nat), m ≤ 1000000000000000 → ∀ (r : List UInt8) (z : Nat), numG (Lib.decDigits m ++ r) 0 z = numG r m (z + (Lib.decDigits m).length) := by
 have step : ∀ (n d : Nat), d < 10 → 10 * n + d ≤ 1000000000000000 → ∀ r z, numG (UInt8.ofNat (48 + d) :: r) n z = numG r ((10 * n + d : Nat) : Int) (z + 1) := by
  intro n d hd hn r z
  rw [numG, if_pos (by unfold digB; rw [digC d hd]; simp; omega), digC d hd]
  congr 1
  omega
 intro m
 induction m using Nat.strongRecOn with
 | _ m ih =>
  intro h1 r z
  by_cases hm : m < 10
  ·rw [Lib.decDigits_one hm]
   have := step 0 m hm (by omega) r z
   simpa using this
  ·have e0 : Lib.decDigits m = Lib.decDigits (m / 10) ++ [UInt8.ofNat (48 + m % 10)] := by rw [Lib.decDigits, dif_neg hm]
   have e1 := ih (m / 10) (by omega) (by omega) (UInt8.ofNat (48 + m % 10) :: r) z
   have e2 := step (m / 10) (m % 10) (by omega) (by omega) r (z + (Lib.decDigits (m / 10)).length)
   have e3 : 10 * (m / 10) + m % 10 = m := by omega
   rw [e3] at e2
   rw [e0, List.append_assoc, List.singleton_append, e1, e2]
   congr 1
   simp; omega
theorem z137 (m : Nat) : ∃ c r, Lib.decDigits m = c :: r ∧ digB c = true := by
 induction m using Nat.strongRecOn with
 | _ m ih =>
  by_cases hm : m < 10
  ·exact ⟨UInt8.ofNat (48 + m), [], Lib.decDigits_one hm, by unfold digB; rw [digC m hm]; simp; omega⟩
  ·obtain ⟨c, r, h1, h2⟩ := ih (m / 10) (by omega)
   exact ⟨c, r ++ [UInt8.ofNat (48 + m % 10)], by rw [Lib.decDigits, dif_neg hm, h1]; rfl, h2⟩
theorem z29 {n : Int} (h0 : 0 ≤ n) (h1 : n ≤ 1000000000000000) {post : List UInt8} (hp : NoWord post) : LexP (Lib.itoa n) [(1, n, [])] post := by
 obtain ⟨m, rfl⟩ := Int.eq_ofNat_of_zero_le h0
 have hi : Lib.itoa (m : Int) = Lib.decDigits m := by unfold Lib.itoa; simp
 rw [hi]
 obtain ⟨c, r, e1, e2⟩ := z137 m
 refine LexP.one e1 (by rintro rfl; revert e2; decide) (fun a => ⟨⟨1, m, [], a⟩, ?_, rfl⟩)
 have hg : numG (Lib.decDigits m ++ post) 0 0 = ((m : Int), (Lib.decDigits m).length) := by
  rw [numG_digits m (by omega), numG_end hp, Nat.zero_add]
 rw [e1] at hg ⊢
 rw [List.cons_append] at hg ⊢
 unfold readP
 simp only [e2, if_true, hg]
 rw [if_neg (by omega)]
def StopT (l : List UInt8) : Prop := ∀ c r, l = c :: r → c = 32 ∨ c = 41 ∨ c = 44
theorem StopT.word {l : List UInt8} (h : StopT l) : NoWord l := by
 intro c r e
 rcases h c r e with rfl | rfl | rfl <;> decide
theorem stop0 : StopT [] := by intro c r e; cases e
end Go.Mor
end

section
namespace Go.Sh.Cd6
open Go Go.Sh
set_option maxRecDepth 100000
abbrev c_68_0 : SCode := .reg [([], [oD 4 (.mov (.val (.bool false)))])] [4]
abbrev c_68_1 : SCode := .reg [([2040, 2041, 2042, 2043], [oD 10 (.call 31 0 []), oM 5 10])] [10]
abbrev c_68_2 : SCode := .reg [([2048, 2049, 2050, 2051], [oM 11 0, oD 12 (.call 38 0 [.tmp 11, vI 1000000000000001]), oM 0 12])] [11, 12]
abbrev c_68_3 : SCode := .reg [([2056, 2057, 2058, 2059], [oM 13 1, oD 14 (.call 38 0 [.tmp 13, vI 1000000000000001]), oM 1 14])] [13, 14]
abbrev c_68_4 : SCode := .reg [([2068, 2069, 2070, 2071, 2080, 2081, 2082, 2083, 2088, 2089, 2090, 2091, 6], [oM 16 0, oD 17 (.call 48 0 [.tmp 16]), oD 18 (.bin .add 9 (.tmp 17) (.val (.string ⟨#[32, 43, 32]⟩))), oM 19 1, oD 20 (.call 48 0 [.tmp 19]), oD 21 (.bin .add 9 (.tmp 18) (.tmp 20)), oD 22 (.call 47 0 [.tmp 21]), oM 15 22, oD 23 (.ext (.tmp 15) 0), oD 24 (.ext (.tmp 15) 1), oD 6 (.new zV), oN (.st 4 (.tmp 6) (.tmp 23)), oM 7 24])] [15, 16, 17, 18, 19, 20, 21, 22, 23, 24]
abbrev c_68_5 : SCode := .reg [([2108, 2109, 2110, 2111, 2120, 2121, 2122, 2123, 2128, 2129, 2130, 2131, 8], [oM 26 0, oD 27 (.call 48 0 [.tmp 26]), oD 28 (.bin .add 9 (.tmp 27) (.val (.string ⟨#[45]⟩))), oM 29 1, oD 30 (.call 48 0 [.tmp 29]), oD 31 (.bin .add 9 (.tmp 28) (.tmp 30)), oD 32 (.call 47 0 [.tmp 31]), oM 25 32, oD 33 (.ext (.tmp 25) 0), oD 34 (.ext (.tmp 25) 1), oD 8 (.new zV), oN (.st 4 (.tmp 8) (.tmp 33)), oM 9 34])] [25, 26, 27, 28, 29, 30, 31, 32, 33, 34]
abbrev c_68_6 : SCode := .reg [([], [oM 35 5, oM 36 35, oH 37 36 true 7, oG 38 36 true (.bin .eql 28 (.tmp 37) (vI 0)), oP 39 36 38 false, oM 40 39, oH 41 40 true 9, oG 42 40 true (.bin .eql 28 (.tmp 41) (vI 0)), oP 43 40 42 false, oM 44 43, oG 45 44 true (.fldA 0 (.tmp 6)), oG 46 44 true (.ld false 1 (.tmp 45)), oG 47 44 true (.bin .eql 3 (.tmp 46) (vI 1)), oP 48 44 47 false, oM 49 48, oG 50 49 true (.fldA 0 (.tmp 8)), oG 51 49 true (.ld false 1 (.tmp 50)), oG 52 49 true (.bin .eql 3 (.tmp 51) (vI 1)), oP 53 49 52 false, oM 54 53, oG 55 54 true (.fldA 1 (.tmp 6)), oG 56 54 true (.ld false 1 (.tmp 55)), oH 57 54 true 0, oH 58 54 true 1, oG 59 54 true (.bin .add 3 (.tmp 57) (.tmp 58)), oG 60 54 true (.imm false (.tmp 59) (vI 1000000000000000)), oG 61 54 true (.bin .eql 3 (.tmp 56) (.tmp 60)), oP 62 54 61 false, oM 63 62, oG 64 63 true (.fldA 1 (.tmp 8)), oG 65 63 true (.ld false 1 (.tmp 64)), oH 66 63 true 0, oH 67 63 true 1, oG 68 63 true (.bin .sub 3 (.tmp 66) (.tmp 67)), oG 69 63 true (.bin .eql 3 (.tmp 65) (.tmp 68)), oP 70 63 69 false, oM 4 70])] [0, 1, 5, 6, 7, 8, 9, 35, 36, 37, 38, 39, 40, 41, 42, 43, 44, 45, 46, 47, 48, 49, 50, 51, 52, 53, 54, 55, 56, 57, 58, 59, 60, 61, 62, 63, 64, 65, 66, 67, 68, 69, 70]
abbrev F_68 : SFunc := ⟨71, (.seq c_68_0 (.seq c_68_1 (.seq c_68_2 (.seq c_68_3 (.seq c_68_4 (.seq c_68_5 (.seq c_68_6 .ret))))))), [.tmp 4], false⟩
theorem tf_68 : z6 Go.Proofs.Tryz.prog 9 (hintT [(10, 0), (12, 0), (14, 0), (17, 0), (20, 0), (22, 0), (27, 0), (30, 0), (32, 0)]) (fpT []) (killT (klN 0 F_68.code.kl)) false = some F_68 := by kernel_rfl
abbrev c_74_0 : SCode := .reg [([], [oD 4 (.mov (vI 0))])] [4]
abbrev c_74_1 : SCode := .reg [([], [oM 5 0, oD 6 (.bin .lss 3 (.tmp 5) (vI 0))])] [5]
abbrev c_74_2 : SCode := .reg [([], [oM 7 0, oD 8 (.bin .add 3 (.tmp 7) (vI 1)), oD 9 (.un .neg (.tmp 8)), oM 0 9])] [6, 7, 8, 9]
abbrev c_74_3 : SCode := .reg [([], [oM 10 0, oM 11 1, oD 12 (.bin .rem 3 (.tmp 10) (.tmp 11)), oM 4 12])] [0, 1, 6, 10, 11, 12]
abbrev F_74 : SFunc := ⟨13, (.seq c_74_0 (.seq (.seq c_74_1 (.cond (.tmp 6) c_74_2 .skip)) (.seq c_74_3 .ret))), [.tmp 4], false⟩
theorem tf_74 : z6 Go.Proofs.Tryz.prog 38 (hintT []) (fpT []) (killT (klN 0 F_74.code.kl)) false = some F_74 := by kernel_rfl
abbrev c_76_0 : SCode := .reg [([2], [oD 2 (.new zV), oD 3 (.mov (vI 0))])] [3]
abbrev c_76_1 : SCode := .reg [([2036, 2037, 2038, 2039, 4], [oM 8 0, oD 9 (.call 17 0 [.tmp 8]), oM 7 9, oD 10 (.ext (.tmp 7) 0), oD 11 (.ext (.tmp 7) 1), oD 12 (.ext (.tmp 7) 2), oD 4 (.new zV), oN (.st 4 (.tmp 4) (.tmp 10)), oM 5 11, oM 6 12])] [0, 5, 7, 8, 9, 10, 11, 12]
abbrev c_76_2 : SCode := .reg [([], [oM 13 6, oD 14 (.bin .neq 28 (.tmp 13) (vI 0))])] [13]
abbrev c_76_3 : SCode := .reg [([], [oD 15 (.build zV []), oM 16 6, oN (.st 4 (.tmp 2) (.tmp 15)), oM 3 16])] [4, 6, 14, 15, 16]
abbrev c_76_4 : SCode := .reg [([2076, 2077, 2078, 2079], [oL 17 true 4 4, oD 18 (.build [(.string ⟨#[]⟩), (.slice none 0 0)] [(0, 1, (.val (.string ⟨#[99]⟩)))]), oD 19 (.call 34 0 [.tmp 17, .tmp 18, .val (.slice none 0 0)]), oD 20 (.ext (.tmp 19) 0), oD 21 (.ext (.tmp 19) 1), oN (.st 4 (.tmp 2) (.tmp 20)), oM 3 21])] [4, 6, 14, 17, 18, 19, 20, 21]
abbrev F_76 : SFunc := ⟨22, (.seq c_76_0 (.seq c_76_1 (.seq (.seq c_76_2 (.cond (.tmp 14) (.seq c_76_3 .ret) .skip)) (.seq c_76_4 .ret)))), [.cell true 4 2, .tmp 3], false⟩
theorem tf_76 : z6 Go.Proofs.Tryz.prog 47 (hintT [(9, 0), (19, 0)]) (fpT []) (killT (klN 0 F_76.code.kl)) false = some F_76 := by kernel_rfl
abbrev c_73_0 : SCode := .reg [([], [oD 2 (.mov (.val (.string ⟨#[]⟩)))])] [2]
abbrev c_73_1 : SCode := .reg [([], [oM 3 0, oD 4 (.bin .lss 3 (.tmp 3) (vI 10))])] [3]
abbrev c_73_2 : SCode := .reg [([], [oM 5 0, oM 6 0, oD 7 (.bin .add 3 (.tmp 6) (vI 1)), oD 8 (.ssub (.val (.string ⟨#[48, 49, 50, 51, 52, 53, 54, 55, 56, 57]⟩)) (some (.tmp 5)) (some (.tmp 7))), oM 2 8])] [0, 4, 5, 6, 7, 8]
abbrev c_73_3 : SCode := .reg [([2044, 2045, 2046, 2047], [oM 9 0, oD 10 (.bin .quo 3 (.tmp 9) (vI 10)), oD 11 (.call 48 0 [.tmp 10]), oM 12 0, oD 13 (.bin .rem 3 (.tmp 12) (vI 10)), oM 14 0, oD 15 (.bin .rem 3 (.tmp 14) (vI 10)), oD 16 (.bin .add 3 (.tmp 15) (vI 1)), oD 17 (.ssub (.val (.string ⟨#[48, 49, 50, 51, 52, 53, 54, 55, 56, 57]⟩)) (some (.tmp 13)) (some (.tmp 16))), oD 18 (.bin .add 9 (.tmp 11) (.tmp 17)), oM 2 18])] [0, 4, 9, 10, 11, 12, 13, 14, 15, 16, 17, 18]
abbrev F_73 : SFunc := ⟨19, (.seq c_73_0 (.seq (.seq c_73_1 (.cond (.tmp 4) (.seq c_73_2 .ret) .skip)) (.seq c_73_3 .ret))), [.tmp 2], false⟩
theorem tf_73 : z6 Go.Proofs.Tryz.prog 48 (hintT [(11, 0)]) (fpT []) (killT (klN 0 F_73.code.kl)) false = some F_73 := by kernel_rfl
end Go.Sh.Cd6
end

section
namespace Go.Mor
open Go
set_option maxHeartbeats 2000000
theorem lex_whole {t : List UInt8} {ts : List T3} (h : LexP t ts []) : ∃ L, L.map er = ts ∧ lexG (t.length + 1) t 0 [] = some (.ok L) := by
 obtain ⟨f', L, h1, h2, h3⟩ := h (t.length + 1) 0 [] (by simp)
 obtain ⟨g, rfl⟩ : ∃ g, f' = g + 1 := ⟨f' - 1, by simp at h1; omega⟩
 rw [List.append_nil, List.nil_append] at h3
 exact ⟨L, h2, by rw [h3, lexG]⟩
end Go.Mor
end

section
namespace Go.Mor
open Go
set_option maxHeartbeats 2000000
set_option maxRecDepth 100000
def fixL (t : List UInt8) (a : Nat) : List Pc := match lexG (t.length + 1) t a [] with
 | some (.ok L) => L
 | _ => []
def snocs (acc L : List Pc) : List Pc := L.foldl (fun x q => x ++ [q]) acc
theorem snocs_app : ∀ (L acc : List Pc), snocs acc L = acc ++ L
 | [], acc => by simp [snocs]
 | q :: L, acc => by
  show snocs (acc ++ [q]) L = _
  rw [snocs_app L]; simp
theorem LexP.fix {t : List UInt8} {ts : List T3} {post : List UInt8} (n : Nat) (hn : Nat.ble n t.length = true) (hL : ∀ a, (fixL t a).map er = ts)
  (h : ∀ f a acc, lexG (f + n) (t ++ post) a acc = lexG f post (a + t.length) (snocs acc (fixL t a))) : LexP t ts post := by
 have hn := Nat.le_of_ble_eq_true hn
 intro f a acc hf
 obtain ⟨g, rfl⟩ : ∃ g, f = g + n := ⟨f - n, by omega⟩
 refine ⟨g, fixL t a, by omega, hL a, ?_⟩
 rw [h g a acc, snocs_app]
def tks : List T3 → (Nat → Nat) → List Pc
 | [], _ => []
 | t :: r, p => ⟨t.1, t.2.1, t.2.2, p 0⟩ :: tks r (fun i => p (i + 1))
theorem tks_of : ∀ (L : List Pc), ∃ p, L = tks (L.map er) p
 | [] => ⟨fun _ => 0, rfl⟩
 | q :: L => by
  obtain ⟨p, h⟩ := tks_of L
  refine ⟨fun i => match i with | 0 => q.p | i + 1 => p i, ?_⟩
  rw [List.map_cons, tks]
  simp only
  rw [← h]; rfl
theorem z44 {t : List UInt8} {ts : List T3} {e : V} (f : Nat) (hl : t.length ≤ 200) (h : LexP t ts []) (hp : ∀ p sz, pE (tks ts p) sz f 1 0 = some (.ok e ts.length)) (hr : rightE e = true) : parseV f t = some (e, 0, 0) := by
 obtain ⟨L, h1, h2⟩ := lex_whole h
 obtain ⟨p, hL⟩ := tks_of L
 have hp := hp p t.length
 rw [← h1, ← hL] at hp
 have hlen : (L.map er).length = L.length := by simp
 rw [hlen] at hp
 unfold parseV
 rw [if_neg (by omega), h2]
 simp only
 rw [hp]
 simp only
 rw [if_neg (by omega), if_pos hr]
end Go.Mor
end

section
namespace Go.Mor
open Go
open Go.Proofs.YtmiokadmddjccaaGreatDoor (cmpV z97 cmpV_zero cmpV_rng cmpV_eq cmpV_anti ordI thenI ordS cmpL)
set_option maxHeartbeats 2000000
set_option maxRecDepth 100000
section
variable {fs : List Fld} {vals : List V} {d : Nat} {x : Int} {t : List UInt8} {a b c : V} {s : List UInt8} {n : Int}
theorem wo_N : worthV fs vals (d + 1) (eN n) = numE n := by kernel_rfl
theorem wo_add : worthV fs vals (d + 1) (eO [43] a b) = numE ((worthV fs vals d a).n + (worthV fs vals d b).n) := by kernel_rfl
theorem wo_sub : worthV fs vals (d + 1) (eO [45] a b) = numE ((worthV fs vals d a).n + -(worthV fs vals d b).n) := by kernel_rfl
theorem mk_n {k : Int} {l : List V} : (V.mk k n s l).n = n := rfl
end
section
variable {x y : Int} {t u : List UInt8}
end
section
variable {gs : List (List UInt8)} {x : Int}
end
theorem sum_w {a b : Int} (ha : 0 ≤ a ∧ a ≤ 1000000000000000) (hb : 0 ≤ b ∧ b ≤ 1000000000000000) : worthV [] [] 8 (eO [43] (eN a) (eN b)) = .mk 1 (min (a + b) 1000000000000000) [] [] ∧ worthV [] [] 8 (eO [45] (eN a) (eN b)) = .mk 1 (a - b) [] [] := by
 simp only [wo_add, wo_sub, wo_N]
 rw [numE_id (n := a) (by omega) (by omega), numE_id (n := b) (by omega) (by omega)]
 simp only [mk_n]
 unfold numE cutN
 exact ⟨by congr 1; omega, by congr 1; omega⟩
theorem z100 {n : Int} (h : Rg n) : (Lib.itoa n).length ≤ 17 := by
 have key : ∀ m : Nat, m ≤ 1000000000000000 → (Lib.decDigits m).length ≤ 16 := fun m hm => by
  rw [Lib.decDigits_length]
  by_cases h0 : Lib.nDigits m ≤ 16
  ·exact h0
  ·exfalso
   have : 10 ^ 16 ≤ m := by
    have h1 : ∀ (k u : Nat), k + 1 ≤ Lib.nDigits u → 10 ^ k ≤ u ∨ k = 0 := by
     intro k
     induction k with
     | zero => intro u _; exact .inr rfl
     | succ k ih =>
      intro u hu
      left
      by_cases h10 : u < 10
      ·rw [Lib.nDigits_small h10] at hu; omega
      ·rw [Lib.nDigits_big h10] at hu
       rcases ih (u / 10) (by omega) with h2 | h2
       ·rw [Nat.pow_succ]; omega
       ·subst h2; omega
    rcases h1 16 m (by omega) with h2 | h2
    ·exact h2
    ·omega
   omega
 unfold Lib.itoa
 obtain ⟨h0, h1⟩ := h
 split
 ·rw [List.length_cons]; have := key n.natAbs (by omega); omega
 ·have := key n.toNat (by omega); omega
end Go.Mor
end

section
namespace Go.Mor
open Go
set_option maxHeartbeats 2000000
set_option maxRecDepth 100000
theorem z36 {c : UInt8} {r : List UInt8} (h : nameB c = false) : NoWord (c :: r) := by intro d q e; cases e; exact h
theorem z56 {e : V} (h : okE 8 e = true) (h2 : decide (szE 8 e ≤ 40) = true) : rightE e = true := by unfold rightE; rw [h, h2]; rfl
section
variable {d : Nat} {a b c : V} {s : List UInt8} {y : Int}
theorem ok_node {e : V} (h : nodeE e = true) (hl : ∀ x ∈ e.l, okE d x = true) : okE (d + 1) e = true := by
 unfold okE
 rw [h, Bool.true_and, List.all_eq_true]; exact hl
theorem ok_N (h : 0 ≤ y ∧ y ≤ 1000000000000000) : okE (d + 1) (eN y) = true := by
 refine ok_node ?_ (by simp [eN, V.l])
 have e : nodeE (eN y) = (decide (0 ≤ y) && decide (y ≤ 1000000000000000) && true && true) := by kernel_rfl
 rw [e, decide_eq_true h.1, decide_eq_true h.2]; rfl
theorem ok_O (h : 0 < bindsV s) (ha : okE d a = true) (hb : okE d b = true) : okE (d + 1) (eO s a b) = true := by
 refine ok_node ?_ (by simp [eO, V.l, ha, hb])
 have e : nodeE (eO s a b) = (decide (0 < bindsV s) && true) := by kernel_rfl
 rw [e, decide_eq_true h]; rfl
end
theorem fx_18 (post : List UInt8) : LexP [32, 43, 32] [sg [43]] post := LexP.fix 3 rfl (fun a => by kernel_rfl) (fun f a acc => by kernel_rfl)
theorem pa_sum1 {a b : Int} (ha : 0 ≤ a ∧ a ≤ 1000000000000000) (hb : 0 ≤ b ∧ b ≤ 1000000000000000) (h1 : (Lib.itoa a).length ≤ 17) (h2 : (Lib.itoa b).length ≤ 17) : parseV 60 (Lib.itoa a ++ [32, 43, 32] ++ Lib.itoa b) = some (eO [43] (eN a) (eN b), 0, 0) := by
 have h : LexP (Lib.itoa a ++ ([32, 43, 32] ++ (Lib.itoa b))) ([(1, a, [])] ++ ([sg [43]] ++ ([(1, b, [])]))) [] := ((z29 (ha).1 (ha).2 (z36 (by decide))).app ((fx_18 _).app (z29 (hb).1 (hb).2 stop0.word)))
 have e : Lib.itoa a ++ [32, 43, 32] ++ Lib.itoa b = Lib.itoa a ++ ([32, 43, 32] ++ (Lib.itoa b)) := by simp only [List.append_assoc]
 rw [e]
 refine z44 60 ?_ h (fun p sz => by kernel_rfl) (z56 (ok_O (by decide) (ok_N ha) (ok_N hb)) (by kernel_rfl))
 simp only [List.length_append, List.length_cons, List.length_nil]
 omega
theorem fx_19 (post : List UInt8) : LexP [45] [sg [45]] post := LexP.fix 1 rfl (fun a => by kernel_rfl) (fun f a acc => by kernel_rfl)
theorem pa_sum2 {a b : Int} (ha : 0 ≤ a ∧ a ≤ 1000000000000000) (hb : 0 ≤ b ∧ b ≤ 1000000000000000) (h1 : (Lib.itoa a).length ≤ 17) (h2 : (Lib.itoa b).length ≤ 17) : parseV 60 (Lib.itoa a ++ [45] ++ Lib.itoa b) = some (eO [45] (eN a) (eN b), 0, 0) := by
 have h : LexP (Lib.itoa a ++ ([45] ++ (Lib.itoa b))) ([(1, a, [])] ++ ([sg [45]] ++ ([(1, b, [])]))) [] := ((z29 (ha).1 (ha).2 (z36 (by decide))).app ((fx_19 _).app (z29 (hb).1 (hb).2 stop0.word)))
 have e : Lib.itoa a ++ [45] ++ Lib.itoa b = Lib.itoa a ++ ([45] ++ (Lib.itoa b)) := by simp only [List.append_assoc]
 rw [e]
 refine z44 60 ?_ h (fun p sz => by kernel_rfl) (z56 (ok_O (by decide) (ok_N ha) (ok_N hb)) (by kernel_rfl))
 simp only [List.length_append, List.length_cons, List.length_nil]
 omega
end Go.Mor
end

section
namespace Go.Proofs.YtmiokadmddjccaaGreatDoor
open Go Go.RowKit Go.Mor Go.Sh Go.Sh.Cd1
set_option maxRecDepth 100000
set_option maxHeartbeats 8000000
theorem z101 {c n : Int} (hn : 0 < n) (hc : I64 c) : 0 ≤ pickI c n ∧ pickI c n < n := by
 unfold pickI
 obtain ⟨h0, h1⟩ := hc
 split
 ·exact ⟨Int.tmod_nonneg n (by omega), Int.tmod_lt_of_pos _ hn⟩
 ·exact ⟨Int.tmod_nonneg n (by omega), Int.tmod_lt_of_pos _ hn⟩
end Go.Proofs.YtmiokadmddjccaaGreatDoor
end

section
namespace Go.Proofs.YtmiokadmddjccaaGreatDoor
open Go Go.RowKit Go.Mor Go.Sh Go.Sh.Cd1 Go.Sh.Cd2
set_option maxRecDepth 100000
set_option maxHeartbeats 4000000
theorem digs : (⟨#[48, 49, 50, 51, 52, 53, 54, 55, 56, 57]⟩ : ByteArray) = str [48, 49, 50, 51, 52, 53, 54, 55, 56, 57] := rfl
theorem dig_at : ∀ k, k < 10 → List.take (k + 1 - k) (List.drop k [48, 49, 50, 51, 52, 53, 54, 55, 56, 57]) = [UInt8.ofNat (48 + k)] := by decide
theorem z141 (u : Nat) (h : ¬ u < 10) : Lib.decDigits u = Lib.decDigits (u / 10) ++ [UInt8.ofNat (48 + u % 10)] := by
 conv => lhs; rw [Lib.decDigits]
 rw [dif_neg h]
end Go.Proofs.YtmiokadmddjccaaGreatDoor
end

section
namespace Go.Proofs.YtmiokadmddjccaaGreatDoor
open Go Go.RowKit Go.Mor Go.Sh Go.Sh.Cd1 Go.Sh.Cd6
set_option maxRecDepth 100000
set_option maxHeartbeats 8000000
theorem pick6_ok (g : Sh.Glob) (c n : Int) (hc : I64 c) (hn : n ≠ 0) : SCalls Tryz.prog g 38 [I c, I n] [] (I (pickI c n)) [] := by
 obtain ⟨h0, h1⟩ := hc
 refine z7 hmix tf_74 rfl ?_
 unfold pickI
 by_cases hneg : c < 0
 ·rw [if_pos hneg]
  have w1 : IntKind.i64.wrap (c + 1) = c + 1 := wrap64 (by omega) (by omega)
  have w2 : IntKind.i64.wrap (0 - (c + 1)) = -(c + 1) := by rw [wrap64 (by omega) (by omega)]; omega
  simp only [vcA, seval, vV, hneg, hn, w1, w2]
 ·rw [if_neg hneg]
  simp only [vcA, seval, vV, hneg, hn]
theorem numbers_ok (g : Sh.Glob) : ∀ (f u : Nat), u ≤ f → u ≤ 1000000000000000 → SCalls Tryz.prog g 48 [I (u : Int)] [] (S (str (Lib.decDigits u))) []
 | f, u, hf, hu => by
  have e1 : (u : Int).tmod 10 = ((u % 10 : Nat) : Int) := (Int.ofNat_tmod _ _).symm
  have w1 : IntKind.i64.wrap (((u % 10 : Nat) : Int) + 1) = ((u % 10 + 1 : Nat) : Int) := by rw [wrap64 (by omega) (by omega)]; omega
  have dk := dig_at (u % 10) (by omega)
  refine z7 hmix tf_73 rfl ?_
  by_cases h10 : u < 10
  ·have d1 : (u : Int) < 10 := by omega
   have w0 : IntKind.i64.wrap ((u : Int) + 1) = ((u + 1 : Nat) : Int) := by rw [wrap64 (by omega) (by omega)]; omega
   have dk0 := dig_at u h10
   simp only [vcA, seval, vV, w0, digs, d1, dk0]
   refine ⟨⟨by omega, by omega⟩, ?_⟩
   rw [Lib.decDigits_one h10]
  ·have d1 : ¬ (u : Int) < 10 := by omega
   have w2 : IntKind.i64.wrap ((u : Int).tdiv 10) = ((u / 10 : Nat) : Int) := by
    rw [show (u : Int).tdiv 10 = ((u / 10 : Nat) : Int) from (Int.ofNat_tdiv _ _).symm, wrap64 (by omega) (by omega)]
   obtain ⟨f', rfl⟩ : ∃ f', f = f' + 1 := ⟨f - 1, by omega⟩
   have HD := numbers_ok g f' (u / 10) (by omega) (by omega)
   have hl := Lib.itoa_length_le (u / 10 : Nat) (by omega) (by omega)
   rw [Lib.itoa_nonneg] at hl
   rw [z141 u h10]
   simp only [vcA, seval, vV, e1, w1, digs, d1, dk, w2]
   (with_reducible apply v_call); (· simp only [vcA, seval, vV]; with_reducible rfl); (· rfl); (· exact HD); (· first | rfl | (simp only [vcA, seval]; omega)); (· simp only [vcA, seval, vV]; with_reducible rfl)
   simp only [vcA, seval, vV, e1, w1, digs, d1, dk, w2]
   refine ⟨⟨by omega, by omega⟩, ?_⟩
   omega
theorem saidL_ok (m : Nat) {s : List UInt8} {e : V} (hp : parseV 60 s = some (e, 0, 0)) (hy : (typeV [] 8 e).2 = true) :
  SCalls Tryz.prog (glE m) 47 [S (str s)] [] (.tuple [tv (worthV [] [] 8 e), I 0]) [] := by
 have hr := parse_rt hp
 have HP := sc_0E (parse_any m s hp)
 have hc : ClsOk ⟨[99], []⟩ := ⟨by unfold Short; decide, by simp, by decide⟩
 have HE := evEval_ok m ⟨[99], []⟩ e [] hc (z132 hr) (by simp) (by decide)
 have hA : evalA ⟨[99], []⟩ [] e = (worthV [] [] 8 e, 0) := by
  have h1 : z26 ⟨[99], []⟩ = true := by kernel_rfl
  have h2 : check ⟨[99], []⟩ [] = (0, 0) := by kernel_rfl
  unfold evalA typeA
  rw [if_pos hr, if_pos h1, if_pos (show (typeV (Cls.fs ⟨[99], []⟩) 8 e).2 = true from hy), if_neg (by simp), h2, if_neg (by simp)]
 rw [hA] at HE
 have HE' : SCalls Tryz.prog (glE m) 34 [tv e, .agg [S (str [99]), .pv (.v (.slice none 0 0))], .pv (.v (.slice none 0 0))] [] (evalT (worthV [] [] 8 e, 0)) [] := HE.inp rfl (fun j c d hc hd => by
  match j with
  | 0 => cases hc; cases hd; exact .refl _
  | 1 =>
   cases hc; cases hd
   refine wk_agg rfl (fun i p q hp hq => ?_)
   match i with
   | 0 => cases hp; cases hq; exact .refl _
   | 1 => cases hp; cases hq; exact wk_nil 4
   | i + 2 => simp at hp
  | 2 => cases hc; cases hd; exact wk_nil 4
  | j + 3 => simp at hc)
 unfold evalT at HE'
 rw [if_pos rfl] at HE'
 unfold parT at HP
 simp only [if_true] at HP
 generalize worthV [] [] 8 e = r at *
 have qc : (⟨#[99]⟩ : ByteArray) = str [99] := rfl
 refine z7 hmix tf_76 rfl ?_
 unfold tv at *
 simp only [vcA, seval, vV, cmV]
 (with_reducible apply v_call); (· simp only [vcA, seval, vV, cmV]; with_reducible rfl); (· rfl); (· exact HP); (· first | rfl | (simp only [vcA, seval]; omega)); (· simp only [vcA, seval, vV, cmV]; with_reducible rfl)
 simp only [vcA, seval, vV, cmV, qc]
 (with_reducible apply v_call); (· simp only [vcA, seval, vV, cmV]; with_reducible rfl); (· rfl); (· exact HE'); (· first | rfl | (simp only [vcA, seval]; omega)); (· simp only [vcA, seval, vV, cmV]; with_reducible rfl)
 simp only [vcA, seval, vV, cmV]
theorem evalSums_ok (m : Nat) (a b : Int) (ha : I64 a) (hb : I64 b) : SCalls Tryz.prog (glE m) 9 [I a, I b] [] (B true) [] := by
 have HA := awake_ok m
 have P1 := pick6_ok (glE m) a 1000000000000001 ha (by decide)
 have P2 := pick6_ok (glE m) b 1000000000000001 hb (by decide)
 have h1 := z101 (n := 1000000000000001) (by decide) ha
 have h2 := z101 (n := 1000000000000001) (by decide) hb
 obtain ⟨x, hx⟩ := Int.eq_ofNat_of_zero_le h1.1
 obtain ⟨y, hy⟩ := Int.eq_ofNat_of_zero_le h2.1
 rw [hx] at P1 h1
 rw [hy] at P2 h2
 clear hx hy
 have N1 := numbers_ok (glE m) x x (Nat.le_refl _) (by omega)
 have N2 := numbers_ok (glE m) y y (Nat.le_refl _) (by omega)
 rw [← Lib.itoa_nonneg] at N1 N2
 have l1 := z100 (n := x) ⟨by omega, by omega⟩
 have l2 := z100 (n := y) ⟨by omega, by omega⟩
 have hx : 0 ≤ (x : Int) ∧ (x : Int) ≤ 1000000000000000 := ⟨by omega, by omega⟩
 have hy : 0 ≤ (y : Int) ∧ (y : Int) ≤ 1000000000000000 := ⟨by omega, by omega⟩
 have S1 := saidL_ok m (pa_sum1 hx hy l1 l2) (by kernel_rfl)
 have S2 := saidL_ok m (pa_sum2 hx hy l1 l2) (by kernel_rfl)
 rw [(sum_w hx hy).1] at S1
 rw [(sum_w hx hy).2] at S2
 have w1 : IntKind.i64.wrap ((x : Int) + (y : Int)) = (x : Int) + (y : Int) := wrap64 (by omega) (by omega)
 have w2 : IntKind.i64.wrap ((x : Int) - (y : Int)) = (x : Int) - (y : Int) := wrap64 (by omega) (by omega)
 generalize Lib.itoa (x : Int) = s at *
 generalize Lib.itoa (y : Int) = t at *
 have q1 : (⟨#[32, 43, 32]⟩ : ByteArray) = str [32, 43, 32] := rfl
 have q2 : (⟨#[45]⟩ : ByteArray) = str [45] := rfl
 refine z7 hmix tf_68 rfl ?_
 unfold B tv at *
 simp only [vcA, seval, vV, cmV]
 (with_reducible apply v_call); (· simp only [vcA, seval, vV, cmV]; with_reducible rfl); (· rfl); (· exact HA); (· first | rfl | (simp only [vcA, seval]; omega)); (· simp only [vcA, seval, vV, cmV]; with_reducible rfl)
 simp only [vcA, seval, vV, cmV]
 (with_reducible apply v_call); (· simp only [vcA, seval, vV, cmV]; with_reducible rfl); (· rfl); (· exact P1); (· first | rfl | (simp only [vcA, seval]; omega)); (· simp only [vcA, seval, vV, cmV]; with_reducible rfl)
 simp only [vcA, seval, vV, cmV]
 (with_reducible apply v_call); (· simp only [vcA, seval, vV, cmV]; with_reducible rfl); (· rfl); (· exact P2); (· first | rfl | (simp only [vcA, seval]; omega)); (· simp only [vcA, seval, vV, cmV]; with_reducible rfl)
 simp only [vcA, seval, vV, cmV]
 (with_reducible apply v_call); (· simp only [vcA, seval, vV, cmV]; with_reducible rfl); (· rfl); (· exact N1); (· first | rfl | (simp only [vcA, seval]; omega)); (· simp only [vcA, seval, vV, cmV]; with_reducible rfl)
 simp only [vcA, seval, vV, cmV, q1]
 refine ⟨by omega, ?_⟩
 (with_reducible apply v_call); (· simp only [vcA, seval, vV, cmV]; with_reducible rfl); (· rfl); (· exact N2); (· first | rfl | (simp only [vcA, seval]; omega)); (· simp only [vcA, seval, vV, cmV]; with_reducible rfl)
 simp only [vcA, seval, vV, cmV, q1]
 refine ⟨by omega, ?_⟩
 (with_reducible apply v_call); (· simp only [vcA, seval, vV, cmV]; with_reducible rfl); (· rfl); (· exact S1); (· first | rfl | (simp only [vcA, seval]; omega)); (· simp only [vcA, seval, vV, cmV]; with_reducible rfl)
 simp only [vcA, seval, vV, cmV]
 (with_reducible apply v_call); (· simp only [vcA, seval, vV, cmV]; with_reducible rfl); (· rfl); (· exact N1); (· first | rfl | (simp only [vcA, seval]; omega)); (· simp only [vcA, seval, vV, cmV]; with_reducible rfl)
 simp only [vcA, seval, vV, cmV, q2]
 refine ⟨by omega, ?_⟩
 (with_reducible apply v_call); (· simp only [vcA, seval, vV, cmV]; with_reducible rfl); (· rfl); (· exact N2); (· first | rfl | (simp only [vcA, seval]; omega)); (· simp only [vcA, seval, vV, cmV]; with_reducible rfl)
 simp only [vcA, seval, vV, cmV, q2]
 refine ⟨by omega, ?_⟩
 (with_reducible apply v_call); (· simp only [vcA, seval, vV, cmV]; with_reducible rfl); (· rfl); (· exact S2); (· first | rfl | (simp only [vcA, seval]; omega)); (· simp only [vcA, seval, vV, cmV]; with_reducible rfl)
 simp only [vcA, seval, vV, cmV, w1, w2]
end Go.Proofs.YtmiokadmddjccaaGreatDoor
end
