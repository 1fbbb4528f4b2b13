/- Merged texts: Base OpenS Px1 Px2 Cd6 Px5 Px7 Pe7 Pe8 Zg14. No statement of the program is proved here. -/
import Derived.Test.YtmiokadmddjccaaGreatDoorM1
import Derived.Test.YtmiokadmddjccaaGreatDoorM2
import Derived.Test.YtmiokadmddjccaaGreatDoorM3
import Derived.Test.YtmiokadmddjccaaGreatDoorM4
import Derived.Test.YtmiokadmddjccaaGreatDoorM5
import Derived.Test.YtmiokadmddjccaaGreatDoorM6
import Derived.Test.YtmiokadmddjccaaGreatDoorM7
import Derived.Test.YtmiokadmddjccaaGreatDoorM8
set_option linter.unusedSimpArgs false
set_option linter.unusedVariables false
section
namespace Go.Mor
open Go Go.RowKit
theorem str_of (s : ByteArray) : str s.data.toList = s := by cases s; simp [str]

end Go.Mor
end

section
namespace Go.Proofs.YtmiokadmddjccaaGreatDoor
open Go.RowKit Go.Lib
theorem str_len {s : ByteArray} (h : s.size ≤ maxLen) : s.data.toList.length ≤ 9223372036854775807 := by
 have : s.data.toList.length = s.size := Array.length_toList
 unfold maxLen at h; omega
end Go.Proofs.YtmiokadmddjccaaGreatDoor
end

section
namespace Go.Mor
open Go
def qesc (s : List UInt8) : List UInt8 := s.flatMap fun b => if b = 34 ∨ b = 92 then [92, b] else [b]
end Go.Mor
end

section
namespace Go.Mor
open Go
set_option maxHeartbeats 2000000
theorem quoG_esc : ∀ (s acc : List UInt8) (k : Nat) (post : List UInt8), z8 (acc ++ s) = true → quoG (qesc s ++ 34 :: post) acc k = some (acc ++ s, k + (qesc s).length + 1)
 | [], acc, k, post, h => by
  rw [List.append_nil] at h
  simp [qesc, quoG_34, h]
 | b :: s, acc, k, post, h => by
  have e1 : acc ++ b :: s = (acc ++ [b]) ++ s := by simp
  rw [e1] at h
  by_cases hb : b = 34 ∨ b = 92
  ·have e2 : qesc (b :: s) = 92 :: b :: qesc s := by simp [qesc, hb]
   rw [e2, List.cons_append, List.cons_append, quoG_92, if_pos hb, quoG_esc s _ _ _ h, e1]
   simp only [List.length_cons]
   congr 2; omega
  ·have e2 : qesc (b :: s) = b :: qesc s := by simp [qesc, hb]
   rw [not_or] at hb
   rw [e2, List.cons_append, quoG_c hb.1 hb.2, quoG_esc s _ _ _ h, e1]
   simp only [List.length_cons]
   congr 2; omega
theorem lex_text {s : List UInt8} (h : z8 s = true) (post : List UInt8) : LexP (34 :: (qesc s ++ [34])) [(2, 0, s)] post := by
 refine LexP.one rfl (by decide) (fun a => ⟨⟨2, 0, s, a⟩, ?_, rfl⟩)
 have hq := quoG_esc s [] 1 post (by simpa using h)
 rw [List.nil_append] at hq
 rw [List.cons_append, List.append_assoc, List.singleton_append]
 unfold readP
 simp only [show digB 34 = false by decide, show small 34 = false by decide, Bool.false_eq_true, if_false, if_true, hq]
 congr 2
 simp; omega
end Go.Mor
end

section
namespace Go.Sh.Cd6
open Go Go.Sh
set_option maxRecDepth 100000
abbrev c_67_0 : SCode := .reg [([], [oD 6 (.mov (.val (.bool false)))])] [6]
abbrev c_67_1 : SCode := .reg [([2052, 2053, 2054, 2055], [oD 13 (.call 31 0 []), oM 7 13])] [13]
abbrev c_67_2 : SCode := .reg [([2060, 2061, 2062, 2063], [oM 14 0, oD 15 (.call 49 0 [.tmp 14]), oM 0 15])] [14, 15]
abbrev c_67_3 : SCode := .reg [([2068, 2069, 2070, 2071], [oM 16 1, oD 17 (.call 49 0 [.tmp 16]), oM 1 17])] [16, 17]
abbrev c_67_4 : SCode := .reg [([2076, 2077, 2078, 2079], [oM 18 2, oD 19 (.call 49 0 [.tmp 18]), oM 2 19])] [18, 19]
abbrev c_67_5 : SCode := .reg [([2120, 2121, 2122, 2123, 8], [oM 21 0, oD 22 (.bin .add 9 (.val (.string ⟨#[34]⟩)) (.tmp 21)), oD 23 (.bin .add 9 (.tmp 22) (.val (.string ⟨#[34, 38, 34]⟩))), oM 24 1, oD 25 (.bin .add 9 (.tmp 23) (.tmp 24)), oD 26 (.bin .add 9 (.tmp 25) (.val (.string ⟨#[34, 38, 34]⟩))), oM 27 2, oD 28 (.bin .add 9 (.tmp 26) (.tmp 27)), oD 29 (.bin .add 9 (.tmp 28) (.val (.string ⟨#[34]⟩))), oD 30 (.call 47 0 [.tmp 29]), oM 20 30, oD 31 (.ext (.tmp 20) 0), oD 32 (.ext (.tmp 20) 1), oD 8 (.new zV), oN (.st 4 (.tmp 8) (.tmp 31)), oM 9 32])] [20, 21, 22, 23, 24, 25, 26, 27, 28, 29, 30, 31, 32]
abbrev c_67_6 : SCode := .reg [([2172, 2173, 2174, 2175, 10], [oM 34 0, oD 35 (.bin .add 9 (.val (.string ⟨#[34]⟩)) (.tmp 34)), oD 36 (.bin .add 9 (.tmp 35) (.val (.string ⟨#[34, 32, 38, 32, 40, 34]⟩))), oM 37 1, oD 38 (.bin .add 9 (.tmp 36) (.tmp 37)), oD 39 (.bin .add 9 (.tmp 38) (.val (.string ⟨#[34, 32, 38, 32, 34]⟩))), oM 40 2, oD 41 (.bin .add 9 (.tmp 39) (.tmp 40)), oD 42 (.bin .add 9 (.tmp 41) (.val (.string ⟨#[34, 41]⟩))), oD 43 (.call 47 0 [.tmp 42]), oM 33 43, oD 44 (.ext (.tmp 33) 0), oD 45 (.ext (.tmp 33) 1), oD 10 (.new zV), oN (.st 4 (.tmp 10) (.tmp 44)), oM 11 45])] [33, 34, 35, 36, 37, 38, 39, 40, 41, 42, 43, 44, 45]
abbrev c_67_7 : SCode := .reg [([], [oM 46 0, oM 47 1, oD 48 (.bin .add 9 (.tmp 46) (.tmp 47)), oM 49 2, oD 50 (.bin .add 9 (.tmp 48) (.tmp 49)), oM 12 50])] [0, 1, 2, 46, 47, 48, 49, 50]
abbrev c_67_8 : SCode := .reg [([], [oM 51 7, oM 52 51, oH 53 52 true 9, oG 54 52 true (.bin .eql 28 (.tmp 53) (vI 0)), oP 55 52 54 false, oM 56 55, oH 57 56 true 11, oG 58 56 true (.bin .eql 28 (.tmp 57) (vI 0)), oP 59 56 58 false, oM 60 59, oG 61 60 true (.fldA 0 (.tmp 8)), oG 62 60 true (.ld false 1 (.tmp 61)), oG 63 60 true (.bin .eql 3 (.tmp 62) (vI 2)), oP 64 60 63 false, oM 65 64, oG 66 65 true (.fldA 0 (.tmp 10)), oG 67 65 true (.ld false 1 (.tmp 66)), oG 68 65 true (.bin .eql 3 (.tmp 67) (vI 2)), oP 69 65 68 false, oM 70 69, oG 71 70 true (.fldA 2 (.tmp 8)), oG 72 70 true (.ld false 1 (.tmp 71)), oH 73 70 true 12, oH 74 70 true 12, oG 75 70 true (.slen (.tmp 74)), oG 76 70 true (.imm false (.tmp 75) (vI 60)), oG 77 70 true (.ssub (.tmp 73) none (some (.tmp 76))), oG 78 70 true (.bin .eql 9 (.tmp 72) (.tmp 77)), oP 79 70 78 false, oM 80 79, oG 81 80 true (.fldA 2 (.tmp 10)), oG 82 80 true (.ld false 1 (.tmp 81)), oG 83 80 true (.fldA 2 (.tmp 8)), oG 84 80 true (.ld false 1 (.tmp 83)), oG 85 80 true (.bin .eql 9 (.tmp 82) (.tmp 84)), oP 86 80 85 false, oM 6 86])] [7, 8, 9, 10, 11, 12, 51, 52, 53, 54, 55, 56, 57, 58, 59, 60, 61, 62, 63, 64, 65, 66, 67, 68, 69, 70, 71, 72, 73, 74, 75, 76, 77, 78, 79, 80, 81, 82, 83, 84, 85, 86]
abbrev F_67 : SFunc := ⟨87, (.seq c_67_0 (.seq c_67_1 (.seq c_67_2 (.seq c_67_3 (.seq c_67_4 (.seq c_67_5 (.seq c_67_6 (.seq c_67_7 (.seq c_67_8 .ret))))))))), [.tmp 6], false⟩
theorem tf_67 : z6 Go.Proofs.Tryz.prog 10 (hintT [(13, 0), (15, 0), (17, 0), (19, 0), (30, 0), (43, 0)]) (fpT []) (killT (klN 0 F_67.code.kl)) false = some F_67 := by kernel_rfl
abbrev c_76_0 : SCode := .reg [([2], [oD 2 (.new zV), oD 3 (.mov (vI 0))])] [3]
abbrev c_76_1 : SCode := .reg [([2036, 2037, 2038, 2039, 4], [oM 8 0, oD 9 (.call 17 0 [.tmp 8]), oM 7 9, oD 10 (.ext (.tmp 7) 0), oD 11 (.ext (.tmp 7) 1), oD 12 (.ext (.tmp 7) 2), oD 4 (.new zV), oN (.st 4 (.tmp 4) (.tmp 10)), oM 5 11, oM 6 12])] [0, 5, 7, 8, 9, 10, 11, 12]
abbrev c_76_2 : SCode := .reg [([], [oM 13 6, oD 14 (.bin .neq 28 (.tmp 13) (vI 0))])] [13]
abbrev c_76_3 : SCode := .reg [([], [oD 15 (.build zV []), oM 16 6, oN (.st 4 (.tmp 2) (.tmp 15)), oM 3 16])] [4, 6, 14, 15, 16]
abbrev c_76_4 : SCode := .reg [([2076, 2077, 2078, 2079], [oL 17 true 4 4, oD 18 (.build [(.string ⟨#[]⟩), (.slice none 0 0)] [(0, 1, (.val (.string ⟨#[99]⟩)))]), oD 19 (.call 34 0 [.tmp 17, .tmp 18, .val (.slice none 0 0)]), oD 20 (.ext (.tmp 19) 0), oD 21 (.ext (.tmp 19) 1), oN (.st 4 (.tmp 2) (.tmp 20)), oM 3 21])] [4, 6, 14, 17, 18, 19, 20, 21]
abbrev F_76 : SFunc := ⟨22, (.seq c_76_0 (.seq c_76_1 (.seq (.seq c_76_2 (.cond (.tmp 14) (.seq c_76_3 .ret) .skip)) (.seq c_76_4 .ret)))), [.cell true 4 2, .tmp 3], false⟩
theorem tf_76 : z6 Go.Proofs.Tryz.prog 47 (hintT [(9, 0), (19, 0)]) (fpT []) (killT (klN 0 F_76.code.kl)) false = some F_76 := by kernel_rfl
abbrev c_75_0 : SCode := .reg [([], [oD 2 (.mov (.val (.string ⟨#[]⟩)))])] [2]
abbrev c_75_1 : SCode := .reg [([], [oD 3 (.mov (.val (.string ⟨#[]⟩)))])] []
abbrev c_75_2 : SCode := .reg [([], [oD 4 (.mov (vI 0))])] []
abbrev c_75_3 : SCode := .reg [([], [oM 5 4, oM 6 0, oD 7 (.slen (.tmp 6)), oD 8 (.bin .lss 3 (.tmp 5) (.tmp 7)), oM 9 8, oH 10 9 true 3, oG 11 9 true (.slen (.tmp 10)), oG 12 9 true (.bin .lss 3 (.tmp 11) (vI 40)), oP 13 9 12 false])] [5, 6, 7, 8, 9, 10, 11, 12]
abbrev c_75_4 : SCode := .reg [([], [oM 16 0, oM 17 4, oD 18 (.sidx (.tmp 16) (.tmp 17)), oD 19 (.bin .geq 5 (.tmp 18) (.val (.int .u8 97))), oM 20 19, oH 21 20 true 0, oH 22 20 true 4, oG 23 20 true (.sidx (.tmp 21) (.tmp 22)), oG 24 20 true (.bin .leq 5 (.tmp 23) (.val (.int .u8 122))), oP 25 20 24 false])] [13, 16, 17, 18, 19, 20, 21, 22, 23, 24]
abbrev c_75_5 : SCode := .reg [([], [oM 26 3, oM 27 0, oM 28 4, oM 29 4, oD 30 (.bin .add 3 (.tmp 29) (vI 1)), oD 31 (.ssub (.tmp 27) (some (.tmp 28)) (some (.tmp 30))), oD 32 (.bin .add 9 (.tmp 26) (.tmp 31)), oM 3 32])] [25, 26, 27, 28, 29, 30, 31, 32]
abbrev c_75_6 : SCode := .reg [([], [oM 14 4, oD 15 (.bin .add 3 (.tmp 14) (vI 1)), oM 4 15])] [14, 15, 25]
abbrev c_75_7 : SCode := (.seq (.seq c_75_3 (.cond (.tmp 13) .skip (.exit 0))) (.seq (.block 1 (.seq c_75_4 (.cond (.tmp 25) c_75_5 .skip))) c_75_6))
abbrev c_75_8 : SCode := .reg [([], [oM 33 3, oM 2 33])] [0, 3, 4, 33]
abbrev F_75 : SFunc := ⟨34, (.seq c_75_0 (.seq c_75_1 (.seq (.seq c_75_2 (.block 0 (.loop c_75_7))) (.seq c_75_8 .ret)))), [.tmp 2], false⟩
theorem tf_75 : z6 Go.Proofs.Tryz.prog 49 (hintT []) (fpT []) (killT [(0, [2]), (3, [5, 6, 7, 8, 9, 10, 11, 12]), (5, [13, 16, 17, 18, 19, 20, 21, 22, 23, 24]), (6, [25, 26, 27, 28, 29, 30, 31, 32]), (4, [14, 15, 25]), (7, [0, 3, 4, 33])]) false = some F_75 := by kernel_rfl
end Go.Sh.Cd6
end

section
namespace Go.Mor
open Go
set_option maxHeartbeats 2000000
theorem lex_whole {t : List UInt8} {ts : List T3} (h : LexP t ts []) : ∃ L, L.map er = ts ∧ lexG (t.length + 1) t 0 [] = some (.ok L) := by
 obtain ⟨f', L, h1, h2, h3⟩ := h (t.length + 1) 0 [] (by simp)
 obtain ⟨g, rfl⟩ : ∃ g, f' = g + 1 := ⟨f' - 1, by simp at h1; omega⟩
 rw [List.append_nil, List.nil_append] at h3
 exact ⟨L, h2, by rw [h3, lexG]⟩
end Go.Mor
end

section
namespace Go.Mor
open Go
set_option maxHeartbeats 2000000
set_option maxRecDepth 100000
def fixL (t : List UInt8) (a : Nat) : List Pc := match lexG (t.length + 1) t a [] with
 | some (.ok L) => L
 | _ => []
def snocs (acc L : List Pc) : List Pc := L.foldl (fun x q => x ++ [q]) acc
theorem snocs_app : ∀ (L acc : List Pc), snocs acc L = acc ++ L
 | [], acc => by simp [snocs]
 | q :: L, acc => by
  show snocs (acc ++ [q]) L = _
  rw [snocs_app L]; simp
theorem LexP.fix {t : List UInt8} {ts : List T3} {post : List UInt8} (n : Nat) (hn : Nat.ble n t.length = true) (hL : ∀ a, (fixL t a).map er = ts)
  (h : ∀ f a acc, lexG (f + n) (t ++ post) a acc = lexG f post (a + t.length) (snocs acc (fixL t a))) : LexP t ts post := by
 have hn := Nat.le_of_ble_eq_true hn
 intro f a acc hf
 obtain ⟨g, rfl⟩ : ∃ g, f = g + n := ⟨f - n, by omega⟩
 refine ⟨g, fixL t a, by omega, hL a, ?_⟩
 rw [h g a acc, snocs_app]
def tks : List T3 → (Nat → Nat) → List Pc
 | [], _ => []
 | t :: r, p => ⟨t.1, t.2.1, t.2.2, p 0⟩ :: tks r (fun i => p (i + 1))
theorem tks_of : ∀ (L : List Pc), ∃ p, L = tks (L.map er) p
 | [] => ⟨fun _ => 0, rfl⟩
 | q :: L => by
  obtain ⟨p, h⟩ := tks_of L
  refine ⟨fun i => match i with | 0 => q.p | i + 1 => p i, ?_⟩
  rw [List.map_cons, tks]
  simp only
  rw [← h]; rfl
theorem z44 {t : List UInt8} {ts : List T3} {e : V} (f : Nat) (hl : t.length ≤ 200) (h : LexP t ts []) (hp : ∀ p sz, pE (tks ts p) sz f 1 0 = some (.ok e ts.length)) (hr : rightE e = true) : parseV f t = some (e, 0, 0) := by
 obtain ⟨L, h1, h2⟩ := lex_whole h
 obtain ⟨p, hL⟩ := tks_of L
 have hp := hp p t.length
 rw [← h1, ← hL] at hp
 have hlen : (L.map er).length = L.length := by simp
 rw [hlen] at hp
 unfold parseV
 rw [if_neg (by omega), h2]
 simp only
 rw [hp]
 simp only
 rw [if_neg (by omega), if_pos hr]
end Go.Mor
end

section
namespace Go.Mor
open Go
open Go.Proofs.YtmiokadmddjccaaGreatDoor (cmpV z97 cmpV_zero cmpV_rng cmpV_eq cmpV_anti ordI thenI ordS cmpL)
set_option maxHeartbeats 2000000
set_option maxRecDepth 100000
section
variable {fs : List Fld} {vals : List V} {d : Nat} {x : Int} {t : List UInt8} {a b c : V} {s : List UInt8} {n : Int}
theorem wo_T : worthV fs vals (d + 1) (eT s) = textE s := by kernel_rfl
theorem wo_cat : worthV fs vals (d + 1) (eO [38] a b) = textE ((worthV fs vals d a).s ++ (worthV fs vals d b).s) := by kernel_rfl
theorem text_s : (textE s).s = cutT s := rfl
end
section
variable {x y : Int} {t u : List UInt8}
end
section
variable {gs : List (List UInt8)} {x : Int}
end
theorem flat_one : ∀ (s : List UInt8), (s.map fun b => [b]).flatten = s
 | [] => rfl
 | b :: s => by rw [List.map_cons, List.flatten_cons, flat_one s]; rfl
theorem z50 {s : List UInt8} (h : Ascii s) : cutT s = s.take 60 := by
 obtain ⟨h1, h2⟩ := txt_ascii h
 obtain ⟨k, q1, q2, q3, q4⟩ := cut_txt h1
 rw [h2] at q2
 have e1 : ∀ n, ((s.map fun b => [b]).take n).flatten = s.take n := fun n => by rw [← List.map_take, flat_one]
 rw [e1] at q2 q3
 rw [e1] at q4
 rw [List.length_map] at q1 q4
 rw [List.length_take] at q3 q4
 rw [q2]
 rcases q4 with q4 | q4
 ·rw [q4, List.take_of_length_le (by omega), List.take_of_length_le (by omega)]
 ·congr 1; omega
theorem join_w {s t u : List UInt8} (hs : Ascii s) (ht : Ascii t) (hu : Ascii u) (ls : s.length ≤ 40) (lt : t.length ≤ 40) (lu : u.length ≤ 40) :
  worthV [] [] 8 (eO [38] (eO [38] (eT s) (eT t)) (eT u)) = .mk 2 0 ((s ++ t ++ u).take 60) [] ∧ worthV [] [] 8 (eO [38] (eT s) (eO [38] (eT t) (eT u))) = .mk 2 0 ((s ++ t ++ u).take 60) [] := by
 simp only [wo_cat, wo_T, text_s, z50 hs, z50 ht, z50 hu]
 rw [List.take_of_length_le (show s.length ≤ 60 by omega), List.take_of_length_le (show t.length ≤ 60 by omega), List.take_of_length_le (show u.length ≤ 60 by omega)]
 rw [z50 (hs.app ht), z50 (ht.app hu)]
 unfold textE
 rw [z50 (((hs.app ht).take 60).app hu), z50 (hs.app ((ht.app hu).take 60))]
 constructor
 ·congr 1
  rw [List.take_append, List.take_append (l₁ := s ++ t), List.take_take, Nat.min_self]
  congr 1
  rw [List.length_take, List.length_append]
  by_cases h : s.length + t.length ≤ 60
  ·rw [Nat.min_eq_right h]
  ·rw [Nat.min_eq_left (by omega), Nat.sub_self, show 60 - (s.length + t.length) = 0 by omega]
 ·congr 1
  rw [List.append_assoc, List.take_append, List.take_append (l₁ := s), List.take_take, Nat.min_eq_left (by omega)]
end Go.Mor
end

section
namespace Go.Mor
open Go
set_option maxHeartbeats 2000000
set_option maxRecDepth 100000
def quot (s : List UInt8) : List UInt8 := 34 :: (qesc s ++ [34])
theorem z42 {s : List UInt8} (h : z8 s = true) (post : List UInt8) : LexP (quot s) [(2, 0, s)] post := lex_text h post
theorem z56 {e : V} (h : okE 8 e = true) (h2 : decide (szE 8 e ≤ 40) = true) : rightE e = true := by unfold rightE; rw [h, h2]; rfl
section
variable {d : Nat} {a b c : V} {s : List UInt8} {y : Int}
theorem ok_node {e : V} (h : nodeE e = true) (hl : ∀ x ∈ e.l, okE d x = true) : okE (d + 1) e = true := by
 unfold okE
 rw [h, Bool.true_and, List.all_eq_true]; exact hl
theorem ok_T (h : z8 s = true) : okE (d + 1) (eT s) = true := by
 refine ok_node ?_ (by simp [eT, V.l])
 have e : nodeE (eT s) = (z8 s && true) := by kernel_rfl
 rw [e, h]; rfl
theorem ok_O (h : 0 < bindsV s) (ha : okE d a = true) (hb : okE d b = true) : okE (d + 1) (eO s a b) = true := by
 refine ok_node ?_ (by simp [eO, V.l, ha, hb])
 have e : nodeE (eO s a b) = (decide (0 < bindsV s) && true) := by kernel_rfl
 rw [e, decide_eq_true h]; rfl
end
theorem fx_3 (post : List UInt8) : LexP [41] [sg [41]] post := LexP.fix 1 rfl (fun a => by kernel_rfl) (fun f a acc => by kernel_rfl)
theorem fx_20 (post : List UInt8) : LexP [38] [sg [38]] post := LexP.fix 1 rfl (fun a => by kernel_rfl) (fun f a acc => by kernel_rfl)
theorem pa_join1 {s t u : List UInt8} (hs : z8 s = true) (ht : z8 t = true) (hu : z8 u = true) (h1 : (quot s).length ≤ 62) (h2 : (quot t).length ≤ 62) (h3 : (quot u).length ≤ 62) : parseV 60 (quot s ++ [38] ++ quot t ++ [38] ++ quot u) = some (eO [38] (eO [38] (eT s) (eT t)) (eT u), 0, 0) := by
 have h : LexP (quot s ++ ([38] ++ (quot t ++ ([38] ++ (quot u))))) ([(2, 0, s)] ++ ([sg [38]] ++ ([(2, 0, t)] ++ ([sg [38]] ++ ([(2, 0, u)]))))) [] := ((z42 hs _).app ((fx_20 _).app ((z42 ht _).app ((fx_20 _).app (z42 hu _)))))
 have e : quot s ++ [38] ++ quot t ++ [38] ++ quot u = quot s ++ ([38] ++ (quot t ++ ([38] ++ (quot u)))) := by simp only [List.append_assoc]
 rw [e]
 refine z44 60 ?_ h (fun p sz => by kernel_rfl) (z56 (ok_O (by decide) (ok_O (by decide) (ok_T hs) (ok_T ht)) (ok_T hu)) (by kernel_rfl))
 simp only [List.length_append, List.length_cons, List.length_nil]
 omega
theorem fx_21 (post : List UInt8) : LexP [32, 38, 32, 40] [sg [38], sg [40]] post := LexP.fix 4 rfl (fun a => by kernel_rfl) (fun f a acc => by kernel_rfl)
theorem fx_22 (post : List UInt8) : LexP [32, 38, 32] [sg [38]] post := LexP.fix 3 rfl (fun a => by kernel_rfl) (fun f a acc => by kernel_rfl)
theorem pa_join2 {s t u : List UInt8} (hs : z8 s = true) (ht : z8 t = true) (hu : z8 u = true) (h1 : (quot s).length ≤ 62) (h2 : (quot t).length ≤ 62) (h3 : (quot u).length ≤ 62) : parseV 60 (quot s ++ [32, 38, 32, 40] ++ quot t ++ [32, 38, 32] ++ quot u ++ [41]) = some (eO [38] (eT s) (eO [38] (eT t) (eT u)), 0, 0) := by
 have h : LexP (quot s ++ ([32, 38, 32, 40] ++ (quot t ++ ([32, 38, 32] ++ (quot u ++ ([41])))))) ([(2, 0, s)] ++ ([sg [38], sg [40]] ++ ([(2, 0, t)] ++ ([sg [38]] ++ ([(2, 0, u)] ++ ([sg [41]])))))) [] := ((z42 hs _).app ((fx_21 _).app ((z42 ht _).app ((fx_22 _).app ((z42 hu _).app (fx_3 _))))))
 have e : quot s ++ [32, 38, 32, 40] ++ quot t ++ [32, 38, 32] ++ quot u ++ [41] = quot s ++ ([32, 38, 32, 40] ++ (quot t ++ ([32, 38, 32] ++ (quot u ++ ([41]))))) := by simp only [List.append_assoc]
 rw [e]
 refine z44 60 ?_ h (fun p sz => by kernel_rfl) (z56 (ok_O (by decide) (ok_T hs) (ok_O (by decide) (ok_T ht) (ok_T hu))) (by kernel_rfl))
 simp only [List.length_append, List.length_cons, List.length_nil]
 omega
end Go.Mor
end

section
namespace Go.Proofs.YtmiokadmddjccaaGreatDoor
open Go Go.RowKit Go.Mor Go.Sh Go.Sh.Cd1 Go.Sh.Cd6
set_option maxRecDepth 100000
set_option maxHeartbeats 8000000
theorem saidL_ok (m : Nat) {s : List UInt8} {e : V} (hp : parseV 60 s = some (e, 0, 0)) (hy : (typeV [] 8 e).2 = true) :
  SCalls Tryz.prog (glE m) 47 [S (str s)] [] (.tuple [tv (worthV [] [] 8 e), I 0]) [] := by
 have hr := parse_rt hp
 have HP := sc_0E (parse_any m s hp)
 have hc : ClsOk ⟨[99], []⟩ := ⟨by unfold Short; decide, by simp, by decide⟩
 have HE := evEval_ok m ⟨[99], []⟩ e [] hc (z132 hr) (by simp) (by decide)
 have hA : evalA ⟨[99], []⟩ [] e = (worthV [] [] 8 e, 0) := by
  have h1 : z26 ⟨[99], []⟩ = true := by kernel_rfl
  have h2 : check ⟨[99], []⟩ [] = (0, 0) := by kernel_rfl
  unfold evalA typeA
  rw [if_pos hr, if_pos h1, if_pos (show (typeV (Cls.fs ⟨[99], []⟩) 8 e).2 = true from hy), if_neg (by simp), h2, if_neg (by simp)]
 rw [hA] at HE
 have HE' : SCalls Tryz.prog (glE m) 34 [tv e, .agg [S (str [99]), .pv (.v (.slice none 0 0))], .pv (.v (.slice none 0 0))] [] (evalT (worthV [] [] 8 e, 0)) [] := HE.inp rfl (fun j c d hc hd => by
  match j with
  | 0 => cases hc; cases hd; exact .refl _
  | 1 =>
   cases hc; cases hd
   refine wk_agg rfl (fun i p q hp hq => ?_)
   match i with
   | 0 => cases hp; cases hq; exact .refl _
   | 1 => cases hp; cases hq; exact wk_nil 4
   | i + 2 => simp at hp
  | 2 => cases hc; cases hd; exact wk_nil 4
  | j + 3 => simp at hc)
 unfold evalT at HE'
 rw [if_pos rfl] at HE'
 unfold parT at HP
 simp only [if_true] at HP
 generalize worthV [] [] 8 e = r at *
 have qc : (⟨#[99]⟩ : ByteArray) = str [99] := rfl
 refine z7 hmix tf_76 rfl ?_
 unfold tv at *
 simp only [vcA, seval, vV, cmV]
 (with_reducible apply v_call); (· simp only [vcA, seval, vV, cmV]; with_reducible rfl); (· rfl); (· exact HP); (· first | rfl | (simp only [vcA, seval]; omega)); (· simp only [vcA, seval, vV, cmV]; with_reducible rfl)
 simp only [vcA, seval, vV, cmV, qc]
 (with_reducible apply v_call); (· simp only [vcA, seval, vV, cmV]; with_reducible rfl); (· rfl); (· exact HE'); (· first | rfl | (simp only [vcA, seval]; omega)); (· simp only [vcA, seval, vV, cmV]; with_reducible rfl)
 simp only [vcA, seval, vV, cmV]
def plG : List UInt8 → List UInt8 → List UInt8
 | [], o => o
 | c :: r, o => if o.length < 40 then plG r (if 97 ≤ (c.toNat : Int) ∧ (c.toNat : Int) ≤ 122 then o ++ [c] else o) else o
def Letters (s : List UInt8) : Prop := s.length ≤ 40 ∧ ∀ b ∈ s, 97 ≤ b.toNat ∧ b.toNat ≤ 122
theorem z144 : ∀ (s o : List UInt8), Letters o → Letters (plG s o)
 | [], o, h => h
 | c :: r, o, h => by
  unfold plG
  split
  ·rename_i hl
   refine z144 r _ ?_
   split
   ·rename_i hc
    exact ⟨by simp; omega, fun b hb => by
     rcases List.mem_append.1 hb with hb | hb
     ·exact h.2 b hb
     ·simp at hb; subst hb; omega⟩
   ·exact h
  ·exact h
theorem plain6_ok (g : Sh.Glob) (l : List UInt8) (hl : l.length ≤ 9223372036854775807) : SCalls Tryz.prog g 49 [S (str l)] [] (S (str (plG l []))) [] := by
 refine z7 hmix tf_75 rfl ?_
 have e0 : (⟨#[]⟩ : ByteArray) = str [] := rfl
 obtain ⟨r, hr⟩ : ∃ r, plG l [] = r := ⟨_, rfl⟩
 rw [hr]
 simp only [vcA, seval, vV]
 refine v_loop (σ := {p : Nat × List UInt8 // p.1 ≤ l.length ∧ p.2.length ≤ 40 ∧ plG (l.drop p.1) p.2 = r}) (fun p => ⟨[(0, S (str l)), (3, S (str p.1.2)), (4, I (p.1.1 : Int))], [], [], []⟩) (fun p => l.length - p.1.1) ⟨(0, []), Nat.zero_le _, by simp, by simpa using hr⟩ ?_ ?_
 ·apply lw_of <;> simp [leL, lk, sv, Nat.beq, I, S, ES.kill, has, drp, nilT, e0]
 rintro ⟨⟨i, o⟩, hi, ho, hT⟩
 simp only at hi ho hT
 by_cases hlt : i < l.length
 ·have d1 : (i : Int) < (l.length : Int) := by omega
  obtain ⟨c, ec⟩ : ∃ c, l[i]? = some c := ⟨_, List.getElem?_eq_getElem hlt⟩
  have hdr : l.drop i = c :: l.drop (i + 1) := by rw [List.drop_eq_getElem_cons hlt]; congr 1; exact (List.getElem?_eq_some_iff.1 ec).2
  rw [hdr] at hT
  unfold plG at hT
  have w1 : IntKind.i64.wrap ((i : Int) + 1) = ((i + 1 : Nat) : Int) := by rw [wrap64 (by omega) (by omega)]; omega
  by_cases ho2 : o.length < 40
  ·have d2 : (o.length : Int) < 40 := by omega
   rw [if_pos ho2] at hT
   have tk : List.take (i + 1 - i) (List.drop i l) = [c] := by rw [show i + 1 - i = 1 by omega, hdr]; rfl
   have g1 : i ≤ i + 1 := by omega
   have g2 : i + 1 ≤ l.length := by omega
   by_cases ha : 97 ≤ (c.toNat : Int)
   ·by_cases hb : (c.toNat : Int) ≤ 122
    ·rw [if_pos ⟨ha, hb⟩] at hT
     simp only [vcA, seval, vV, d1, d2, ec, ha, hb, tk, g1, g2, w1]
     refine ⟨by omega, z10 ⟨(i + 1, o ++ [c]), by simp only; omega, by simp; omega, hT⟩ (by show l.length - (i + 1) < l.length - i; omega) ?_⟩
     apply lw_of <;> simp [leL, lk, sv, Nat.beq, I, S, ES.kill, has, drp, nilT, e0]
    ·rw [if_neg (fun h => hb h.2)] at hT
     simp only [vcA, seval, vV, d1, d2, ec, ha, hb, w1]
     refine z10 ⟨(i + 1, o), by simp only; omega, ho, hT⟩ (by show l.length - (i + 1) < l.length - i; omega) ?_
     apply lw_of <;> simp [leL, lk, sv, Nat.beq, I, S, ES.kill, has, drp, nilT, e0]
   ·rw [if_neg (fun h => ha h.1)] at hT
    simp only [vcA, seval, vV, d1, d2, ec, ha, w1]
    refine z10 ⟨(i + 1, o), by simp only; omega, ho, hT⟩ (by show l.length - (i + 1) < l.length - i; omega) ?_
    apply lw_of <;> simp [leL, lk, sv, Nat.beq, I, S, ES.kill, has, drp, nilT, e0]
  ·have d2 : ¬ (o.length : Int) < 40 := by omega
   rw [if_neg ho2] at hT
   subst hT
   simp only [vcA, seval, vV, d1, d2]
 ·have d1 : ¬ (i : Int) < (l.length : Int) := by omega
  obtain rfl : i = l.length := by omega
  rw [List.drop_length] at hT
  unfold plG at hT
  subst hT
  simp only [vcA, seval, vV, d1]
theorem Letters.asc {s : List UInt8} (h : Letters s) : Ascii s := fun b hb => by have := h.2 b hb; omega
theorem Letters.right {s : List UInt8} (h : Letters s) : z8 s = true := by
 obtain ⟨h1, h2⟩ := txt_ascii h.asc
 have := txt_right h1 (by rw [h2]; have := h.1; omega)
 rwa [h2] at this
theorem Letters.quot {s : List UInt8} (h : Letters s) : quot s = [34] ++ s ++ [34] := by
 have key : ∀ l : List UInt8, (∀ b ∈ l, 97 ≤ b.toNat ∧ b.toNat ≤ 122) → qesc l = l := by
  intro l
  induction l with
  | nil => intro _; rfl
  | cons b l ih =>
   intro hb
   have h1 := hb b (by simp)
   have e1 : ¬ (b = 34 ∨ b = 92) := by rintro (rfl | rfl) <;> revert h1 <;> decide
   have := ih (fun c hc => hb c (by simp [hc]))
   unfold qesc at this ⊢
   rw [List.flatMap_cons, if_neg e1, this]; rfl
 unfold Go.Mor.quot
 rw [key s h.2]; rfl
theorem evalJoins_ok (m : Nat) (a b c : List UInt8) (ha : a.length ≤ 9223372036854775807) (hb : b.length ≤ 9223372036854775807) (hc : c.length ≤ 9223372036854775807) : SCalls Tryz.prog (glE m) 10 [S (str a), S (str b), S (str c)] [] (B true) [] := by
 have HA := awake_ok m
 have P1 := plain6_ok (glE m) a ha
 have P2 := plain6_ok (glE m) b hb
 have P3 := plain6_ok (glE m) c hc
 have L1 := z144 a [] ⟨by simp, by simp⟩
 have L2 := z144 b [] ⟨by simp, by simp⟩
 have L3 := z144 c [] ⟨by simp, by simp⟩
 generalize plG a [] = s at *
 generalize plG b [] = t at *
 generalize plG c [] = u at *
 have l1 := L1.1
 have l2 := L2.1
 have l3 := L3.1
 have q1 : (⟨#[34]⟩ : ByteArray) = str [34] := rfl
 have q2 : (⟨#[34, 38, 34]⟩ : ByteArray) = str [34, 38, 34] := rfl
 have q3 : (⟨#[34, 32, 38, 32, 40, 34]⟩ : ByteArray) = str [34, 32, 38, 32, 40, 34] := rfl
 have q4 : (⟨#[34, 32, 38, 32, 34]⟩ : ByteArray) = str [34, 32, 38, 32, 34] := rfl
 have q5 : (⟨#[34, 41]⟩ : ByteArray) = str [34, 41] := rfl
 have n1 := L1.quot
 have n2 := L2.quot
 have n3 := L3.quot
 have z : ∀ {s : List UInt8}, s.length ≤ 40 → ([34] ++ s ++ [34]).length ≤ 62 := fun h => by simp; omega
 have J1 := pa_join1 L1.right L2.right L3.right (by rw [n1]; exact z l1) (by rw [n2]; exact z l2) (by rw [n3]; exact z l3)
 have J2 := pa_join2 L1.right L2.right L3.right (by rw [n1]; exact z l1) (by rw [n2]; exact z l2) (by rw [n3]; exact z l3)
 have S1 := saidL_ok m J1 (by kernel_rfl)
 have S2 := saidL_ok m J2 (by kernel_rfl)
 obtain ⟨w1, w2⟩ := join_w L1.asc L2.asc L3.asc l1 l2 l3
 rw [w1] at S1
 rw [w2] at S2
 clear J1 J2 w1 w2
 rw [n1, n2, n3] at S1 S2
 have e1 : [34] ++ s ++ [34] ++ [38] ++ ([34] ++ t ++ [34]) ++ [38] ++ ([34] ++ u ++ [34]) = [34] ++ s ++ [34, 38, 34] ++ t ++ [34, 38, 34] ++ u ++ [34] := by simp
 have e2 : [34] ++ s ++ [34] ++ [32, 38, 32, 40] ++ ([34] ++ t ++ [34]) ++ [32, 38, 32] ++ ([34] ++ u ++ [34]) ++ [41] = [34] ++ s ++ [34, 32, 38, 32, 40, 34] ++ t ++ [34, 32, 38, 32, 34] ++ u ++ [34, 41] := by simp
 rw [e1] at S1
 rw [e2] at S2
 simp only [List.cons_append, List.nil_append] at S1 S2
 refine z7 hmix tf_67 rfl ?_
 unfold B tv at *
 simp only [vcA, seval, vV, cmV]
 (with_reducible apply v_call); (· simp only [vcA, seval, vV, cmV]; with_reducible rfl); (· rfl); (· exact HA); (· first | rfl | (simp only [vcA, seval]; omega)); (· simp only [vcA, seval, vV, cmV]; with_reducible rfl)
 simp only [vcA, seval, vV, cmV]
 (with_reducible apply v_call); (· simp only [vcA, seval, vV, cmV]; with_reducible rfl); (· rfl); (· exact P1); (· first | rfl | (simp only [vcA, seval]; omega)); (· simp only [vcA, seval, vV, cmV]; with_reducible rfl)
 simp only [vcA, seval, vV, cmV]
 (with_reducible apply v_call); (· simp only [vcA, seval, vV, cmV]; with_reducible rfl); (· rfl); (· exact P2); (· first | rfl | (simp only [vcA, seval]; omega)); (· simp only [vcA, seval, vV, cmV]; with_reducible rfl)
 simp only [vcA, seval, vV, cmV]
 (with_reducible apply v_call); (· simp only [vcA, seval, vV, cmV]; with_reducible rfl); (· rfl); (· exact P3); (· first | rfl | (simp only [vcA, seval]; omega)); (· simp only [vcA, seval, vV, cmV]; with_reducible rfl)
 simp only [vcA, seval, vV, cmV, q1, q2]
 refine ⟨by omega, by omega, by omega, by omega, by omega, by omega, ?_⟩
 (with_reducible apply v_call); (· simp only [vcA, seval, vV, cmV]; with_reducible rfl); (· rfl); (· exact S1); (· first | rfl | (simp only [vcA, seval]; omega)); (· simp only [vcA, seval, vV, cmV]; with_reducible rfl)
 simp only [vcA, seval, vV, cmV, q1, q3, q4, q5]
 refine ⟨by omega, by omega, by omega, by omega, by omega, by omega, ?_⟩
 (with_reducible apply v_call); (· simp only [vcA, seval, vV, cmV]; with_reducible rfl); (· rfl); (· exact S2); (· first | rfl | (simp only [vcA, seval]; omega)); (· simp only [vcA, seval, vV, cmV]; with_reducible rfl)
 simp only [vcA, seval, vV, cmV]
 have tk : (List.take 60 (s ++ t ++ u) == List.take (min (((s.length + t.length + u.length : Nat) : Int)) 60).toNat (s ++ t ++ u)) = true := by
  rw [beq_iff_eq]
  by_cases h : s.length + t.length + u.length ≤ 60
  ·rw [List.take_of_length_le (by simp; omega), List.take_of_length_le (by simp; omega)]
  ·congr 1; omega
 refine ⟨by omega, by omega, by omega, ⟨by omega, by omega⟩, ?_⟩
 simp only [vcA, seval, vV, cmV, tk]
end Go.Proofs.YtmiokadmddjccaaGreatDoor
end
