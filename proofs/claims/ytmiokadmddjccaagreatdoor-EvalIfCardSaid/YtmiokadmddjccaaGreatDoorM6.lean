/- Merged texts: Pe8 PFits Zg11 Zg12 Sn1 Sy5 Sy6 Sy12 Pq Cd2 Zt7 Pt0 Pt3 Zg13. No statement of the program is proved here. -/
import Derived.Test.YtmiokadmddjccaaGreatDoorM5
import Derived.Test.YtmiokadmddjccaaGreatDoorProg
import Derived.KernelRfl
import Derived.Lib.ItoaLen
set_option linter.unusedSimpArgs false
set_option linter.unusedVariables false
section
namespace Go.Mor
open Go
set_option maxHeartbeats 2000000
set_option maxRecDepth 100000
theorem word_of {c : UInt8} {r : List UInt8} (h : nameB c = false) : NoWord (c :: r) := by intro d q e; cases e; exact h
def quot (s : List UInt8) : List UInt8 := 34 :: (qesc s ++ [34])
theorem lex_quot {s : List UInt8} (h : rightText s = true) (post : List UInt8) : LexP (quot s) [(2, 0, s)] post := lex_text h post
theorem qesc_len (s : List UInt8) : (qesc s).length ≤ 2 * s.length := by
 induction s with
 | nil => simp [qesc]
 | cons b s ih =>
  have : qesc (b :: s) = (if b = 34 ∨ b = 92 then [92, b] else [b]) ++ qesc s := rfl
  rw [this, List.length_append, List.length_cons]
  split <;> simp only [List.length_cons, List.length_nil] <;> omega
theorem quot_len (s : List UInt8) : (quot s).length ≤ 2 * s.length + 2 := by
 unfold quot
 have := qesc_len s
 simp; omega
theorem right_of {e : V} (h : okE 8 e = true) (h2 : decide (szE 8 e ≤ 40) = true) : rightE e = true := by unfold rightE; rw [h, h2]; rfl
section
variable {d : Nat} {a b c : V} {s : List UInt8} {y : Int}
theorem ok_n : okE (d + 1) fn' = true := by kernel_rfl
theorem ok_t : okE (d + 1) ft' = true := by kernel_rfl
theorem ok_node {e : V} (h : nodeE e = true) (hl : ∀ x ∈ e.l, okE d x = true) : okE (d + 1) e = true := by
 unfold okE
 rw [h, Bool.true_and, List.all_eq_true]; exact hl
theorem ok_N (h : 0 ≤ y ∧ y ≤ 1000000000000000) : okE (d + 1) (eN y) = true := by
 refine ok_node ?_ (by simp [eN, V.l])
 have e : nodeE (eN y) = (decide (0 ≤ y) && decide (y ≤ 1000000000000000) && true && true) := by kernel_rfl
 rw [e, decide_eq_true h.1, decide_eq_true h.2]; rfl
theorem ok_T (h : rightText s = true) : okE (d + 1) (eT s) = true := by
 refine ok_node ?_ (by simp [eT, V.l])
 have e : nodeE (eT s) = (rightText s && true) := by kernel_rfl
 rw [e, h]; rfl
theorem ok_O (h : 0 < bindsV s) (ha : okE d a = true) (hb : okE d b = true) : okE (d + 1) (eO s a b) = true := by
 refine ok_node ?_ (by simp [eO, V.l, ha, hb])
 have e : nodeE (eO s a b) = (decide (0 < bindsV s) && true) := by kernel_rfl
 rw [e, decide_eq_true h]; rfl
theorem ok_C {l : List V} (h : (l.length : Int) = takesV s ∧ 0 < takesV s) (hl : ∀ x ∈ l, okE d x = true) : okE (d + 1) (eC s l) = true := by
 refine ok_node ?_ hl
 have e : nodeE (eC s l) = (decide (0 < takesV s) && decide ((l.length : Int) = takesV s)) := by kernel_rfl
 rw [e, decide_eq_true h.2, decide_eq_true h.1]; rfl
theorem ok_C2 (h : (2 : Int) = takesV s ∧ 0 < takesV s) (ha : okE d a = true) (hb : okE d b = true) : okE (d + 1) (eC s [a, b]) = true := ok_C h (by simp [ha, hb])
theorem ok_C3 (h : (3 : Int) = takesV s ∧ 0 < takesV s) (ha : okE d a = true) (hb : okE d b = true) (hc : okE d c = true) : okE (d + 1) (eC s [a, b, c]) = true := ok_C h (by simp [ha, hb, hc])
end
theorem fx_0 (post : List UInt8) : LexP [109, 105, 110, 40, 110, 44, 32] [(3, 0, [109, 105, 110]), sg [40], (3, 0, [110]), sg [44]] post := LexP.fix 5 rfl (fun a => by kernel_rfl) (fun f a acc => by kernel_rfl)
theorem fx_1 (post : List UInt8) : LexP [41, 32, 61, 32, 105, 102, 40, 110, 32, 60, 32] [sg [41], sg [61], (3, 0, [105, 102]), sg [40], (3, 0, [110]), sg [60]] post := LexP.fix 10 rfl (fun a => by kernel_rfl) (fun f a acc => by kernel_rfl)
theorem fx_2 (post : List UInt8) : LexP [44, 32, 110, 44, 32] [sg [44], (3, 0, [110]), sg [44]] post := LexP.fix 5 rfl (fun a => by kernel_rfl) (fun f a acc => by kernel_rfl)
theorem fx_3 (post : List UInt8) : LexP [41] [sg [41]] post := LexP.fix 1 rfl (fun a => by kernel_rfl) (fun f a acc => by kernel_rfl)
theorem pa_if1 {y : Int} (hy : 0 ≤ y ∧ y ≤ 1000000000000000) (hw : (Lib.itoa y).length ≤ 17) : parseV 60 ([109, 105, 110, 40, 110, 44, 32] ++ Lib.itoa y ++ [41, 32, 61, 32, 105, 102, 40, 110, 32, 60, 32] ++ Lib.itoa y ++ [44, 32, 110, 44, 32] ++ Lib.itoa y ++ [41]) = some (eO [61] (eC nMin [fn', eN y]) (eC nIf [eO [60] (fn') (eN y), fn', eN y]), 0, 0) := by
 have h : LexP ([109, 105, 110, 40, 110, 44, 32] ++ (Lib.itoa y ++ ([41, 32, 61, 32, 105, 102, 40, 110, 32, 60, 32] ++ (Lib.itoa y ++ ([44, 32, 110, 44, 32] ++ (Lib.itoa y ++ ([41]))))))) ([(3, 0, [109, 105, 110]), sg [40], (3, 0, [110]), sg [44]] ++ ([(1, y, [])] ++ ([sg [41], sg [61], (3, 0, [105, 102]), sg [40], (3, 0, [110]), sg [60]] ++ ([(1, y, [])] ++ ([sg [44], (3, 0, [110]), sg [44]] ++ ([(1, y, [])] ++ ([sg [41]]))))))) [] := ((fx_0 _).app ((lex_num (hy).1 (hy).2 (word_of (by decide))).app ((fx_1 _).app ((lex_num (hy).1 (hy).2 (word_of (by decide))).app ((fx_2 _).app ((lex_num (hy).1 (hy).2 (word_of (by decide))).app (fx_3 _)))))))
 have e : [109, 105, 110, 40, 110, 44, 32] ++ Lib.itoa y ++ [41, 32, 61, 32, 105, 102, 40, 110, 32, 60, 32] ++ Lib.itoa y ++ [44, 32, 110, 44, 32] ++ Lib.itoa y ++ [41] = [109, 105, 110, 40, 110, 44, 32] ++ (Lib.itoa y ++ ([41, 32, 61, 32, 105, 102, 40, 110, 32, 60, 32] ++ (Lib.itoa y ++ ([44, 32, 110, 44, 32] ++ (Lib.itoa y ++ ([41])))))) := by simp only [List.append_assoc]
 rw [e]
 refine parse_fix 60 ?_ h (fun p sz => by kernel_rfl) (right_of (ok_O (by decide) (ok_C2 (by decide) ok_n (ok_N hy)) (ok_C3 (by decide) (ok_O (by decide) ok_n (ok_N hy)) ok_n (ok_N hy))) (by kernel_rfl))
 simp only [List.length_append, List.length_cons, List.length_nil]
 omega
theorem fx_4 (post : List UInt8) : LexP [109, 97, 120, 40, 110, 44, 32] [(3, 0, [109, 97, 120]), sg [40], (3, 0, [110]), sg [44]] post := LexP.fix 5 rfl (fun a => by kernel_rfl) (fun f a acc => by kernel_rfl)
theorem fx_5 (post : List UInt8) : LexP [41, 32, 43, 32, 109, 105, 110, 40, 110, 44, 32] [sg [41], sg [43], (3, 0, [109, 105, 110]), sg [40], (3, 0, [110]), sg [44]] post := LexP.fix 9 rfl (fun a => by kernel_rfl) (fun f a acc => by kernel_rfl)
theorem fx_6 (post : List UInt8) : LexP [41, 32, 61, 32, 110, 32, 43, 32] [sg [41], sg [61], (3, 0, [110]), sg [43]] post := LexP.fix 8 rfl (fun a => by kernel_rfl) (fun f a acc => by kernel_rfl)
theorem pa_if2 {y : Int} (hy : 0 ≤ y ∧ y ≤ 1000000000000000) (hw : (Lib.itoa y).length ≤ 17) : parseV 60 ([109, 97, 120, 40, 110, 44, 32] ++ Lib.itoa y ++ [41, 32, 43, 32, 109, 105, 110, 40, 110, 44, 32] ++ Lib.itoa y ++ [41, 32, 61, 32, 110, 32, 43, 32] ++ Lib.itoa y) = some (eO [61] (eO [43] (eC nMax [fn', eN y]) (eC nMin [fn', eN y])) (eO [43] (fn') (eN y)), 0, 0) := by
 have h : LexP ([109, 97, 120, 40, 110, 44, 32] ++ (Lib.itoa y ++ ([41, 32, 43, 32, 109, 105, 110, 40, 110, 44, 32] ++ (Lib.itoa y ++ ([41, 32, 61, 32, 110, 32, 43, 32] ++ (Lib.itoa y)))))) ([(3, 0, [109, 97, 120]), sg [40], (3, 0, [110]), sg [44]] ++ ([(1, y, [])] ++ ([sg [41], sg [43], (3, 0, [109, 105, 110]), sg [40], (3, 0, [110]), sg [44]] ++ ([(1, y, [])] ++ ([sg [41], sg [61], (3, 0, [110]), sg [43]] ++ ([(1, y, [])])))))) [] := ((fx_4 _).app ((lex_num (hy).1 (hy).2 (word_of (by decide))).app ((fx_5 _).app ((lex_num (hy).1 (hy).2 (word_of (by decide))).app ((fx_6 _).app (lex_num (hy).1 (hy).2 stop0.word))))))
 have e : [109, 97, 120, 40, 110, 44, 32] ++ Lib.itoa y ++ [41, 32, 43, 32, 109, 105, 110, 40, 110, 44, 32] ++ Lib.itoa y ++ [41, 32, 61, 32, 110, 32, 43, 32] ++ Lib.itoa y = [109, 97, 120, 40, 110, 44, 32] ++ (Lib.itoa y ++ ([41, 32, 43, 32, 109, 105, 110, 40, 110, 44, 32] ++ (Lib.itoa y ++ ([41, 32, 61, 32, 110, 32, 43, 32] ++ (Lib.itoa y))))) := by simp only [List.append_assoc]
 rw [e]
 refine parse_fix 60 ?_ h (fun p sz => by kernel_rfl) (right_of (ok_O (by decide) (ok_O (by decide) (ok_C2 (by decide) ok_n (ok_N hy)) (ok_C2 (by decide) ok_n (ok_N hy))) (ok_O (by decide) ok_n (ok_N hy))) (by kernel_rfl))
 simp only [List.length_append, List.length_cons, List.length_nil]
 omega
theorem fx_7 (post : List UInt8) : LexP [40, 110, 32, 60, 32] [sg [40], (3, 0, [110]), sg [60]] post := LexP.fix 5 rfl (fun a => by kernel_rfl) (fun f a acc => by kernel_rfl)
theorem fx_8 (post : List UInt8) : LexP [41, 32, 43, 32, 40, 110, 32, 61, 32] [sg [41], sg [43], sg [40], (3, 0, [110]), sg [61]] post := LexP.fix 9 rfl (fun a => by kernel_rfl) (fun f a acc => by kernel_rfl)
theorem fx_9 (post : List UInt8) : LexP [41, 32, 43, 32, 40, 110, 32, 62, 32] [sg [41], sg [43], sg [40], (3, 0, [110]), sg [62]] post := LexP.fix 9 rfl (fun a => by kernel_rfl) (fun f a acc => by kernel_rfl)
theorem pa_if3 {y : Int} (hy : 0 ≤ y ∧ y ≤ 1000000000000000) (hw : (Lib.itoa y).length ≤ 17) : parseV 60 ([40, 110, 32, 60, 32] ++ Lib.itoa y ++ [41, 32, 43, 32, 40, 110, 32, 61, 32] ++ Lib.itoa y ++ [41, 32, 43, 32, 40, 110, 32, 62, 32] ++ Lib.itoa y ++ [41]) = some (eO [43] (eO [43] (eO [60] (fn') (eN y)) (eO [61] (fn') (eN y))) (eO [62] (fn') (eN y)), 0, 0) := by
 have h : LexP ([40, 110, 32, 60, 32] ++ (Lib.itoa y ++ ([41, 32, 43, 32, 40, 110, 32, 61, 32] ++ (Lib.itoa y ++ ([41, 32, 43, 32, 40, 110, 32, 62, 32] ++ (Lib.itoa y ++ ([41]))))))) ([sg [40], (3, 0, [110]), sg [60]] ++ ([(1, y, [])] ++ ([sg [41], sg [43], sg [40], (3, 0, [110]), sg [61]] ++ ([(1, y, [])] ++ ([sg [41], sg [43], sg [40], (3, 0, [110]), sg [62]] ++ ([(1, y, [])] ++ ([sg [41]]))))))) [] := ((fx_7 _).app ((lex_num (hy).1 (hy).2 (word_of (by decide))).app ((fx_8 _).app ((lex_num (hy).1 (hy).2 (word_of (by decide))).app ((fx_9 _).app ((lex_num (hy).1 (hy).2 (word_of (by decide))).app (fx_3 _)))))))
 have e : [40, 110, 32, 60, 32] ++ Lib.itoa y ++ [41, 32, 43, 32, 40, 110, 32, 61, 32] ++ Lib.itoa y ++ [41, 32, 43, 32, 40, 110, 32, 62, 32] ++ Lib.itoa y ++ [41] = [40, 110, 32, 60, 32] ++ (Lib.itoa y ++ ([41, 32, 43, 32, 40, 110, 32, 61, 32] ++ (Lib.itoa y ++ ([41, 32, 43, 32, 40, 110, 32, 62, 32] ++ (Lib.itoa y ++ ([41])))))) := by simp only [List.append_assoc]
 rw [e]
 refine parse_fix 60 ?_ h (fun p sz => by kernel_rfl) (right_of (ok_O (by decide) (ok_O (by decide) (ok_O (by decide) ok_n (ok_N hy)) (ok_O (by decide) ok_n (ok_N hy))) (ok_O (by decide) ok_n (ok_N hy))) (by kernel_rfl))
 simp only [List.length_append, List.length_cons, List.length_nil]
 omega
theorem fx_10 (post : List UInt8) : LexP [40, 116, 32, 60, 32] [sg [40], (3, 0, [116]), sg [60]] post := LexP.fix 5 rfl (fun a => by kernel_rfl) (fun f a acc => by kernel_rfl)
theorem fx_11 (post : List UInt8) : LexP [41, 32, 43, 32, 40, 116, 32, 61, 32] [sg [41], sg [43], sg [40], (3, 0, [116]), sg [61]] post := LexP.fix 9 rfl (fun a => by kernel_rfl) (fun f a acc => by kernel_rfl)
theorem fx_12 (post : List UInt8) : LexP [41, 32, 43, 32, 40, 116, 32, 62, 32] [sg [41], sg [43], sg [40], (3, 0, [116]), sg [62]] post := LexP.fix 9 rfl (fun a => by kernel_rfl) (fun f a acc => by kernel_rfl)
theorem pa_if4 {u : List UInt8} (hu : rightText u = true) (hw : (quot u).length ≤ 42) : parseV 60 ([40, 116, 32, 60, 32] ++ quot u ++ [41, 32, 43, 32, 40, 116, 32, 61, 32] ++ quot u ++ [41, 32, 43, 32, 40, 116, 32, 62, 32] ++ quot u ++ [41]) = some (eO [43] (eO [43] (eO [60] (ft') (eT u)) (eO [61] (ft') (eT u))) (eO [62] (ft') (eT u)), 0, 0) := by
 have h : LexP ([40, 116, 32, 60, 32] ++ (quot u ++ ([41, 32, 43, 32, 40, 116, 32, 61, 32] ++ (quot u ++ ([41, 32, 43, 32, 40, 116, 32, 62, 32] ++ (quot u ++ ([41]))))))) ([sg [40], (3, 0, [116]), sg [60]] ++ ([(2, 0, u)] ++ ([sg [41], sg [43], sg [40], (3, 0, [116]), sg [61]] ++ ([(2, 0, u)] ++ ([sg [41], sg [43], sg [40], (3, 0, [116]), sg [62]] ++ ([(2, 0, u)] ++ ([sg [41]]))))))) [] := ((fx_10 _).app ((lex_quot hu _).app ((fx_11 _).app ((lex_quot hu _).app ((fx_12 _).app ((lex_quot hu _).app (fx_3 _)))))))
 have e : [40, 116, 32, 60, 32] ++ quot u ++ [41, 32, 43, 32, 40, 116, 32, 61, 32] ++ quot u ++ [41, 32, 43, 32, 40, 116, 32, 62, 32] ++ quot u ++ [41] = [40, 116, 32, 60, 32] ++ (quot u ++ ([41, 32, 43, 32, 40, 116, 32, 61, 32] ++ (quot u ++ ([41, 32, 43, 32, 40, 116, 32, 62, 32] ++ (quot u ++ ([41])))))) := by simp only [List.append_assoc]
 rw [e]
 refine parse_fix 60 ?_ h (fun p sz => by kernel_rfl) (right_of (ok_O (by decide) (ok_O (by decide) (ok_O (by decide) ok_t (ok_T hu)) (ok_O (by decide) ok_t (ok_T hu))) (ok_O (by decide) ok_t (ok_T hu))) (by kernel_rfl))
 simp only [List.length_append, List.length_cons, List.length_nil]
 omega
theorem fx_13 (post : List UInt8) : LexP [40, 116, 32, 60, 61, 32] [sg [40], (3, 0, [116]), sg [60, 61]] post := LexP.fix 5 rfl (fun a => by kernel_rfl) (fun f a acc => by kernel_rfl)
theorem fx_14 (post : List UInt8) : LexP [41, 32, 43, 32, 40, 116, 32, 62, 61, 32] [sg [41], sg [43], sg [40], (3, 0, [116]), sg [62, 61]] post := LexP.fix 9 rfl (fun a => by kernel_rfl) (fun f a acc => by kernel_rfl)
theorem fx_15 (post : List UInt8) : LexP [41, 32, 45, 32, 40, 116, 32, 61, 32] [sg [41], sg [45], sg [40], (3, 0, [116]), sg [61]] post := LexP.fix 9 rfl (fun a => by kernel_rfl) (fun f a acc => by kernel_rfl)
theorem pa_if5 {u : List UInt8} (hu : rightText u = true) (hw : (quot u).length ≤ 42) : parseV 60 ([40, 116, 32, 60, 61, 32] ++ quot u ++ [41, 32, 43, 32, 40, 116, 32, 62, 61, 32] ++ quot u ++ [41, 32, 45, 32, 40, 116, 32, 61, 32] ++ quot u ++ [41]) = some (eO [45] (eO [43] (eO [60, 61] (ft') (eT u)) (eO [62, 61] (ft') (eT u))) (eO [61] (ft') (eT u)), 0, 0) := by
 have h : LexP ([40, 116, 32, 60, 61, 32] ++ (quot u ++ ([41, 32, 43, 32, 40, 116, 32, 62, 61, 32] ++ (quot u ++ ([41, 32, 45, 32, 40, 116, 32, 61, 32] ++ (quot u ++ ([41]))))))) ([sg [40], (3, 0, [116]), sg [60, 61]] ++ ([(2, 0, u)] ++ ([sg [41], sg [43], sg [40], (3, 0, [116]), sg [62, 61]] ++ ([(2, 0, u)] ++ ([sg [41], sg [45], sg [40], (3, 0, [116]), sg [61]] ++ ([(2, 0, u)] ++ ([sg [41]]))))))) [] := ((fx_13 _).app ((lex_quot hu _).app ((fx_14 _).app ((lex_quot hu _).app ((fx_15 _).app ((lex_quot hu _).app (fx_3 _)))))))
 have e : [40, 116, 32, 60, 61, 32] ++ quot u ++ [41, 32, 43, 32, 40, 116, 32, 62, 61, 32] ++ quot u ++ [41, 32, 45, 32, 40, 116, 32, 61, 32] ++ quot u ++ [41] = [40, 116, 32, 60, 61, 32] ++ (quot u ++ ([41, 32, 43, 32, 40, 116, 32, 62, 61, 32] ++ (quot u ++ ([41, 32, 45, 32, 40, 116, 32, 61, 32] ++ (quot u ++ ([41])))))) := by simp only [List.append_assoc]
 rw [e]
 refine parse_fix 60 ?_ h (fun p sz => by kernel_rfl) (right_of (ok_O (by decide) (ok_O (by decide) (ok_O (by decide) ok_t (ok_T hu)) (ok_O (by decide) ok_t (ok_T hu))) (ok_O (by decide) ok_t (ok_T hu))) (by kernel_rfl))
 simp only [List.length_append, List.length_cons, List.length_nil]
 omega
theorem fx_16 (post : List UInt8) : LexP [105, 102, 40, 116, 32, 60, 62, 32] [(3, 0, [105, 102]), sg [40], (3, 0, [116]), sg [60, 62]] post := LexP.fix 6 rfl (fun a => by kernel_rfl) (fun f a acc => by kernel_rfl)
theorem fx_17 (post : List UInt8) : LexP [44, 32, 49, 44, 32, 48, 41, 32, 61, 32, 40, 116, 32, 60, 62, 32] [sg [44], (1, 1, []), sg [44], (1, 0, []), sg [41], sg [61], sg [40], (3, 0, [116]), sg [60, 62]] post := LexP.fix 15 rfl (fun a => by kernel_rfl) (fun f a acc => by kernel_rfl)
theorem pa_if6 {u : List UInt8} (hu : rightText u = true) (hw : (quot u).length ≤ 42) : parseV 60 ([105, 102, 40, 116, 32, 60, 62, 32] ++ quot u ++ [44, 32, 49, 44, 32, 48, 41, 32, 61, 32, 40, 116, 32, 60, 62, 32] ++ quot u ++ [41]) = some (eO [61] (eC nIf [eO [60, 62] (ft') (eT u), eN 1, eN 0]) (eO [60, 62] (ft') (eT u)), 0, 0) := by
 have h : LexP ([105, 102, 40, 116, 32, 60, 62, 32] ++ (quot u ++ ([44, 32, 49, 44, 32, 48, 41, 32, 61, 32, 40, 116, 32, 60, 62, 32] ++ (quot u ++ ([41]))))) ([(3, 0, [105, 102]), sg [40], (3, 0, [116]), sg [60, 62]] ++ ([(2, 0, u)] ++ ([sg [44], (1, 1, []), sg [44], (1, 0, []), sg [41], sg [61], sg [40], (3, 0, [116]), sg [60, 62]] ++ ([(2, 0, u)] ++ ([sg [41]]))))) [] := ((fx_16 _).app ((lex_quot hu _).app ((fx_17 _).app ((lex_quot hu _).app (fx_3 _)))))
 have e : [105, 102, 40, 116, 32, 60, 62, 32] ++ quot u ++ [44, 32, 49, 44, 32, 48, 41, 32, 61, 32, 40, 116, 32, 60, 62, 32] ++ quot u ++ [41] = [105, 102, 40, 116, 32, 60, 62, 32] ++ (quot u ++ ([44, 32, 49, 44, 32, 48, 41, 32, 61, 32, 40, 116, 32, 60, 62, 32] ++ (quot u ++ ([41])))) := by simp only [List.append_assoc]
 rw [e]
 refine parse_fix 60 ?_ h (fun p sz => by kernel_rfl) (right_of (ok_O (by decide) (ok_C3 (by decide) (ok_O (by decide) ok_t (ok_T hu)) (ok_N ⟨by decide, by decide⟩) (ok_N ⟨by decide, by decide⟩)) (ok_O (by decide) ok_t (ok_T hu))) (by kernel_rfl))
 simp only [List.length_append, List.length_cons, List.length_nil]
 omega
end Go.Mor
end

section
namespace Go.Mor
open Go Go.RowKit
set_option maxHeartbeats 1000000
theorem checkGo_ok : ∀ (fs : List Fld) (vs : List V) (k : Nat), (∀ (i : Nat) f v, fs[i]? = some f → vs[i]? = some v → fitsV v f.t = true) → checkGo k fs vs = (0, 0) := by
 intro fs
 induction fs with
 | nil => intro vs k _; simp [checkGo]
 | cons f r ih =>
  intro vs k h
  cases vs with
  | nil => simp [checkGo]
  | cons v q =>
   rw [checkGo, if_pos (h 0 f v rfl rfl)]
   exact ih q (k + 1) fun i f v hf hv => h (i + 1) f v (by simpa using hf) (by simpa using hv)
theorem check_ok {c : Cls} {vs : List V} (hc : rightClass c = true) (hl : vs.length = c.fs.length) (h : ∀ (i : Nat) f v, c.fs[i]? = some f → vs[i]? = some v → fitsV v f.t = true) : check c vs = (0, 0) := by
 simp only [check, hc, Bool.not_true, Bool.false_eq_true, if_false, hl, ne_eq, not_true_eq_false]
 exact checkGo_ok _ _ _ h
end Go.Mor
end

section
namespace Go.Proofs.YtmiokadmddjccaaGreatDoor
open Go Go.RowKit Go.Mor Go.Sh Go.Sh.Cd1 Go.Sh.Cd6
set_option maxRecDepth 100000
set_option maxHeartbeats 4000000
theorem okE_small : ∀ (d : Nat) (e : V), okE d e = true → ESmall e
 | 0, e, h => by simp [okE] at h
 | d + 1, e, h => by
  obtain ⟨hn, hk⟩ := ok_kids h
  have key : e.l.length ≤ 3 ∧ e.s.length ≤ 60 := by
   rcases node_kind hn with k | k | k | k | k | k
   ·have := node1 hn k; rw [this.2.2.1, this.2.2.2]; simp
   ·have := node2 hn k; rw [this.2.2]; exact ⟨by simp, right60 this.2.1⟩
   ·have := node3 hn k
    rw [this.2.2]
    have h2 := this.2.1
    unfold rightName at h2
    simp at h2
    refine ⟨by simp, by omega⟩
   ·obtain ⟨_, hb, a, b, h⟩ := node4 hn k
    have := binds_len hb
    rw [h]; exact ⟨by simp, by omega⟩
   ·obtain ⟨_, hb, a, h⟩ := node5 hn k; rw [h, hb]; simp
   ·obtain ⟨_, hb, h⟩ := node6 hn k
    have h2 := takes_3 e.s
    refine ⟨by omega, ?_⟩
    rcases takes_kinds hb with h | h | h | h | h | h | h | h | h | h <;> rw [h] <;> decide
  obtain ⟨k, n, s, l⟩ := e
  exact .mk (by have := key.1; simp only [Vl] at this; omega) (by have := key.2; simp only [Vs] at this; omega) (fun y hy => okE_small d y (hk y hy))
theorem rightE_small {e : V} (h : rightE e = true) : ESmall e := okE_small 8 e (rightE_inv h).1
theorem parse_rt {s : List UInt8} {f : Nat} {e : V} (h : parseV f s = some (e, 0, 0)) : rightE e = true := by
 unfold parseV at h
 split at h
 ·cases h
 split at h
 ·cases h
 ·cases h
 ·split at h
  ·split at h
   ·simp at h
   ·split at h
    ·rename_i hr
     cases h; exact hr
    ·cases h
  ·cases h
  ·cases h
theorem num6_ok (g : Sh.Glob) (n : Int) : SCalls Tryz.prog g 41 [I n] [] (nv (.mk 1 n [] [])) [] := by
 refine call_of0 hmix tf_68 rfl ?_
 simp only [vcA, seval, vV]
 rfl
theorem text6_ok (g : Sh.Glob) (s : List UInt8) : SCalls Tryz.prog g 40 [S (str s)] [] (nv (.mk 2 0 s [])) [] := by
 refine call_of0 hmix tf_71 rfl ?_
 simp only [vcA, seval, vV]
theorem sample_ok (g : Sh.Glob) : SCalls Tryz.prog g 54 [] [] (clT sCls) [] := by
 refine call_of0 hmix tf_70 rfl ?_
 simp only [vcA, seval, vV]
 rfl
def rawRow (x : V) : List PV := [.v (.int .i64 x.k), .v (.int .i64 x.n), .v (.string (str x.s)), .v (.slice none 0 0)]
theorem pwk_raw {x : V} (h : x.l = []) (j : Nat) (c d : PV) (hc : (rawRow x)[j]? = some c) (hd : (V.row x)[j]? = some d) : PWk c d := by
 rw [row4, h] at hd
 match j with
 | 0 => cases hc; cases hd; exact .refl _
 | 1 => cases hc; cases hd; exact .refl _
 | 2 => cases hc; cases hd; exact .refl _
 | 3 => cases hc; cases hd; exact pwk_nil 4
 | j + 4 => simp [rawRow] at hc
theorem pwk_raws {l : List V} (h : ∀ x ∈ l, x.l = []) : PWk (.sl 4 (l.map rawRow)) (.sl 4 (V.rows l)) := by
 refine pwk_sl (by rw [rowsLen, List.length_map]) (fun i cs ds h1 h2 => ?_)
 rw [List.getElem?_map] at h1
 rw [rowsGet] at h2
 obtain ⟨x, hx, rfl⟩ := Option.map_eq_some_iff.1 h1
 rw [hx] at h2
 cases h2
 exact ⟨by rw [row4]; rfl, fun j c d hc hd => pwk_raw (h x (List.mem_of_getElem? hx)) j c d hc hd⟩
theorem sVals_l (x : Int) (t : List UInt8) : ∀ v ∈ sVals x t, v.l = [] := by
 intro v hv
 unfold sVals at hv
 simp only [List.mem_cons, List.not_mem_nil, or_false] at hv
 rcases hv with rfl | rfl | rfl <;> rfl
theorem sCls_ok : ClsOk sCls := by
 refine ⟨by unfold Short; decide, fun f hf => ?_, by decide⟩
 unfold sCls sFs at hf
 simp only [List.mem_cons, List.not_mem_nil, or_false] at hf
 rcases hf with rfl | rfl | rfl <;> (unfold Short; decide)
theorem sVals_few (x : Int) {t : List UInt8} (ht : t.length ≤ 60) : ∀ v ∈ sVals x t, VFew v ∧ VOk v := by
 intro v hv
 refine ⟨few0 (sVals_l x t v hv), ?_⟩
 unfold sVals at hv
 simp only [List.mem_cons, List.not_mem_nil, or_false] at hv
 rcases hv with rfl | rfl | rfl
 ·exact ⟨by unfold TextsOk; simp [Vs], by simp [Vl]⟩
 ·exact ⟨by unfold TextsOk; simp [Vs]; omega, by simp [Vl]⟩
 ·exact ⟨by unfold TextsOk; simp [V.nil, Vs], by simp [V.nil, Vl]⟩
theorem sCls_right : rightClass sCls = true := by kernel_rfl
theorem sVals_check {x : Int} {t : List UInt8} (hx : Rg x) (ht : rightText t = true) : check sCls (sVals x t) = (0, 0) := by
 refine check_ok sCls_right rfl (fun i f v hf hv => ?_)
 match i with
 | 0 => cases hf; cases hv; have := fits_num x; rwa [numE_id hx.1 hx.2] at this
 | 1 => cases hf; cases hv; exact fits_text ht
 | 2 => cases hf; cases hv; show fitsV V.nil ⟨3, 0⟩ = true; kernel_rfl
 | i + 3 => simp [sCls, sFs] at hf
theorem worthL_ok (m : Nat) {s : List UInt8} {e : V} (hp : parseV 60 s = some (e, 0, 0)) {x : Int} {t : List UInt8} (hx : Rg x) (ht : rightText t = true) (hy : (typeV sFs 8 e).2 = true) :
  SCalls Tryz.prog (glE m) 42 [S (str s), I x, S (str t)] [] (.tuple [tv (worthV sFs (sVals x t) 8 e), B true]) [] := by
 have hr := parse_rt hp
 have HP := sc_0E (parse_any m s hp)
 have HS := sample_ok (glE m)
 have HN := num6_ok (glE m) x
 have HT := text6_ok (glE m) t
 have HE := evEval_ok m sCls e (sVals x t) sCls_ok (rightE_small hr) (sVals_few x (right60 ht)) (by show 3 ≤ _; decide)
 have hA : evalA sCls (sVals x t) e = (worthV sFs (sVals x t) 8 e, 0) := by
  unfold evalA typeA
  rw [if_pos hr, if_pos sCls_right, if_pos (show (typeV sCls.fs 8 e).2 = true from hy), if_neg (by simp), sVals_check hx ht, if_neg (by simp)]
  rfl
 rw [hA] at HE
 have HE' : SCalls Tryz.prog (glE m) 34 [tv e, clT sCls, .pv (.sl 4 ((sVals x t).map rawRow))] [] (evalT (worthV sFs (sVals x t) 8 e, 0)) [] := HE.inp rfl (fun j c d hc hd => by
  match j with
  | 0 => cases hc; cases hd; exact .refl _
  | 1 => cases hc; cases hd; exact .refl _
  | 2 => cases hc; cases hd; exact wk_pv (pwk_raws (sVals_l x t))
  | j + 3 => simp at hc)
 unfold evalT at HE'
 rw [if_pos rfl] at HE'
 unfold parT at HP
 simp only [if_true] at HP
 generalize worthV sFs (sVals x t) 8 e = r at *
 unfold sVals rawRow V.nil at HE'
 simp only [List.map_cons, List.map_nil] at HE'
 refine call_of0 hmix tf_72 rfl ?_
 unfold B tv nv clT at *
 simp only [vcA, seval, vV, cmV]
 (with_reducible apply v_call); (· simp only [vcA, seval, vV, cmV]; with_reducible rfl); (· rfl); (· exact HP); (· first | rfl | (simp only [vcA, seval]; omega)); (· simp only [vcA, seval, vV, cmV]; with_reducible rfl)
 simp only [vcA, seval, vV, cmV]
 (with_reducible apply v_call); (· simp only [vcA, seval, vV, cmV]; with_reducible rfl); (· rfl); (· exact HS); (· first | rfl | (simp only [vcA, seval]; omega)); (· simp only [vcA, seval, vV, cmV]; with_reducible rfl)
 simp only [vcA, seval, vV, cmV]
 (with_reducible apply v_call); (· simp only [vcA, seval, vV, cmV]; with_reducible rfl); (· rfl); (· exact HN); (· first | rfl | (simp only [vcA, seval]; omega)); (· simp only [vcA, seval, vV, cmV]; with_reducible rfl)
 simp only [vcA, seval, vV, cmV]
 (with_reducible apply v_call); (· simp only [vcA, seval, vV, cmV]; with_reducible rfl); (· rfl); (· exact HT); (· first | rfl | (simp only [vcA, seval]; omega)); (· simp only [vcA, seval, vV, cmV]; with_reducible rfl)
 simp only [vcA, seval, vV, cmV]
 (with_reducible apply v_call); (· simp only [vcA, seval, vV, cmV]; with_reducible rfl); (· rfl); (· exact HE'); (· first | rfl | (simp only [vcA, seval]; omega)); (· simp only [vcA, seval, vV, cmV]; with_reducible rfl)
 simp only [vcA, seval, vV, cmV]
theorem isL_ok (m : Nat) {s : List UInt8} {e : V} (hp : parseV 60 s = some (e, 0, 0)) {x : Int} {t : List UInt8} (hx : Rg x) (ht : rightText t = true) (hy : (typeV sFs 8 e).2 = true) (w : V) (hw : worthV sFs (sVals x t) 8 e = w) (hl : w.l = []) :
  SCalls Tryz.prog (glE m) 39 [S (str s), I x, S (str t), nv w] [] (B true) [] := by
 have HW := worthL_ok m hp hx ht hy
 rw [hw] at HW
 have HS := refSame_ok (glE m) w w (few0 hl).small
 rw [decide_eq_true (cmpV_self w)] at HS
 have HS' : SCalls Tryz.prog (glE m) 36 [tv w, nv w] [] (.pv (.v (.bool true))) [] := HS.inp rfl (fun j c d hc hd => by
  match j with
  | 0 => cases hc; cases hd; exact .refl _
  | 1 => cases hc; cases hd; exact nv_tv hl
  | j + 2 => simp at hc)
 refine call_of0 hmix tf_67 rfl ?_
 unfold B tv nv at *
 simp only [vcA, seval, vV, cmV]
 (with_reducible apply v_call); (· simp only [vcA, seval, vV, cmV]; with_reducible rfl); (· rfl); (· exact HW); (· first | rfl | (simp only [vcA, seval]; omega)); (· simp only [vcA, seval, vV, cmV]; with_reducible rfl)
 simp only [vcA, seval, vV, cmV]
 (with_reducible apply v_call); (· simp only [vcA, seval, vV, cmV]; with_reducible rfl); (· rfl); (· exact HS'); (· first | rfl | (simp only [vcA, seval]; omega)); (· simp only [vcA, seval, vV, cmV]; with_reducible rfl)
 simp only [vcA, seval, vV, cmV]
end Go.Proofs.YtmiokadmddjccaaGreatDoor
end

section
namespace Go.Proofs.YtmiokadmddjccaaGreatDoor
open Go Go.RowKit Go.Mor Go.Sh Go.Sh.Cd1 Go.Sh.Cd6
set_option maxRecDepth 100000
set_option maxHeartbeats 8000000
def aw0 : V := eO [47] fn' (eN 2)
theorem aw0_p : parseV 60 [110, 32, 47, 32, 50] = some (aw0, 0, 0) := by kernel_rfl
theorem aw0_t : (typeV sFs 8 aw0).2 = true := by kernel_rfl
theorem aw0_w : worthV sFs (sVals 7 [97, 98]) 8 aw0 = .mk 1 (3) [] [] := by kernel_rfl
def aw1 : V := eO [37] (eM fn') (eN 4)
theorem aw1_p : parseV 60 [45, 110, 32, 37, 32, 52] = some (aw1, 0, 0) := by kernel_rfl
theorem aw1_t : (typeV sFs 8 aw1).2 = true := by kernel_rfl
theorem aw1_w : worthV sFs (sVals 7 [97, 98]) 8 aw1 = .mk 1 (-3) [] [] := by kernel_rfl
def aw2 : V := eO [38] ft' (Go.Mor.eC nText [fn'])
theorem aw2_p : parseV 60 [116, 32, 38, 32, 116, 101, 120, 116, 40, 110, 41] = some (aw2, 0, 0) := by kernel_rfl
theorem aw2_t : (typeV sFs 8 aw2).2 = true := by kernel_rfl
theorem aw2_w : worthV sFs (sVals 7 [97, 98]) 8 aw2 = .mk 2 0 [97, 98, 55] [] := by kernel_rfl
def aw3 : V := eO [47] fn' (eN 0)
theorem aw3_p : parseV 60 [110, 32, 47, 32, 48] = some (aw3, 0, 0) := by kernel_rfl
theorem aw3_t : (typeV sFs 8 aw3).2 = true := by kernel_rfl
theorem aw3_w : worthV sFs (sVals 7 [97, 98]) 8 aw3 = .mk 1 (0) [] [] := by kernel_rfl
def aw4 : V := Go.Mor.eC nFind [ft', eT [98]]
theorem aw4_p : parseV 60 [102, 105, 110, 100, 40, 116, 44, 32, 34, 98, 34, 41] = some (aw4, 0, 0) := by kernel_rfl
theorem aw4_t : (typeV sFs 8 aw4).2 = true := by kernel_rfl
theorem aw4_w : worthV sFs (sVals 7 [97, 98]) 8 aw4 = .mk 1 (1) [] [] := by kernel_rfl
def aw5 : V := Go.Mor.eC nIf [eO [62] fn' (eN 5), Go.Mor.eC nLeft [ft', eN 1], eT []]
theorem aw5_p : parseV 60 [105, 102, 40, 110, 32, 62, 32, 53, 44, 32, 108, 101, 102, 116, 40, 116, 44, 32, 49, 41, 44, 32, 34, 34, 41] = some (aw5, 0, 0) := by kernel_rfl
theorem aw5_t : (typeV sFs 8 aw5).2 = true := by kernel_rfl
theorem aw5_w : worthV sFs (sVals 7 [97, 98]) 8 aw5 = .mk 2 0 [97] [] := by kernel_rfl
def awS : V := eO [43] fn' ft'
theorem awS_p : parseV 60 [110, 32, 43, 32, 116] = some (awS, 0, 0) := by kernel_rfl
theorem awS_t : typeA sCls awS = (ty0, 60) := by kernel_rfl
def awR : V := eF [114]
theorem awR_p : parseV 60 [114] = some (awR, 0, 0) := by kernel_rfl
theorem awR_t : typeA sCls awR = (⟨3, 0⟩, 0) := by kernel_rfl
theorem awR_e : evalA sCls [] awR = (V.nil, 42) := by kernel_rfl
theorem awN_t : typeA sCls V.nil = (ty0, 50) := by kernel_rfl
theorem awR_c : typeA ⟨[], []⟩ awR = (ty0, 40) := by kernel_rfl
theorem awake_ok (m : Nat) : SCalls Tryz.prog (glE m) 31 [] [] (B true) [] := by
 have hx : Rg 7 := ⟨by omega, by omega⟩
 have ht : rightText [97, 98] = true := by kernel_rfl
 have hab : (⟨#[97, 98]⟩ : ByteArray) = str [97, 98] := rfl
 have H0 := isL_ok m aw0_p hx ht aw0_t (.mk 1 (3) [] []) aw0_w rfl
 have q0 : (⟨#[110, 32, 47, 32, 50]⟩ : ByteArray) = str [110, 32, 47, 32, 50] := rfl
 have N0 := num6_ok (glE m) (3)
 have H1 := isL_ok m aw1_p hx ht aw1_t (.mk 1 (-3) [] []) aw1_w rfl
 have q1 : (⟨#[45, 110, 32, 37, 32, 52]⟩ : ByteArray) = str [45, 110, 32, 37, 32, 52] := rfl
 have N1 := num6_ok (glE m) (-3)
 have H2 := isL_ok m aw2_p hx ht aw2_t (.mk 2 0 [97, 98, 55] []) aw2_w rfl
 have q2 : (⟨#[116, 32, 38, 32, 116, 101, 120, 116, 40, 110, 41]⟩ : ByteArray) = str [116, 32, 38, 32, 116, 101, 120, 116, 40, 110, 41] := rfl
 have N2 := text6_ok (glE m) [97, 98, 55]
 have n2 : (⟨#[97, 98, 55]⟩ : ByteArray) = str [97, 98, 55] := rfl
 have H3 := isL_ok m aw3_p hx ht aw3_t (.mk 1 (0) [] []) aw3_w rfl
 have q3 : (⟨#[110, 32, 47, 32, 48]⟩ : ByteArray) = str [110, 32, 47, 32, 48] := rfl
 have N3 := num6_ok (glE m) (0)
 have H4 := isL_ok m aw4_p hx ht aw4_t (.mk 1 (1) [] []) aw4_w rfl
 have q4 : (⟨#[102, 105, 110, 100, 40, 116, 44, 32, 34, 98, 34, 41]⟩ : ByteArray) = str [102, 105, 110, 100, 40, 116, 44, 32, 34, 98, 34, 41] := rfl
 have N4 := num6_ok (glE m) (1)
 have H5 := isL_ok m aw5_p hx ht aw5_t (.mk 2 0 [97] []) aw5_w rfl
 have q5 : (⟨#[105, 102, 40, 110, 32, 62, 32, 53, 44, 32, 108, 101, 102, 116, 40, 116, 44, 32, 49, 41, 44, 32, 34, 34, 41]⟩ : ByteArray) = str [105, 102, 40, 110, 32, 62, 32, 53, 44, 32, 108, 101, 102, 116, 40, 116, 44, 32, 49, 41, 44, 32, 34, 34, 41] := rfl
 have N5 := text6_ok (glE m) [97]
 have n5 : (⟨#[97]⟩ : ByteArray) = str [97] := rfl
 have qS : (⟨#[110, 32, 43, 32, 116]⟩ : ByteArray) = str [110, 32, 43, 32, 116] := rfl
 have qR : (⟨#[114]⟩ : ByteArray) = str [114] := rfl
 have PS := sc_0E (parse_any m _ awS_p)
 have PR := sc_0E (parse_any m _ awR_p)
 have sS := rightE_small (parse_rt awS_p)
 have sR := rightE_small (parse_rt awR_p)
 have HC := sample_ok (glE m)
 have TS := evType_ok m sCls awS sCls_ok sS
 have TR := evType_ok m sCls awR sCls_ok sR
 have ER := evEval_ok m sCls awR [] sCls_ok sR (by simp) (by decide)
 have TN := evType_ok m sCls V.nil sCls_ok (.mk (by simp) (by simp) (by simp))
 have TC := evType_ok m ⟨[], []⟩ awR ⟨by unfold Short; decide, by simp, by decide⟩ sR
 rw [awS_t] at TS
 rw [awR_t] at TR
 rw [awR_e] at ER
 rw [awN_t] at TN
 rw [awR_c] at TC
 have ER' : SCalls Tryz.prog (glE m) 34 [tv awR, clT sCls, .pv (.v (.slice none 0 0))] [] (evalT (V.nil, 42)) [] := ER.inp rfl (fun j c d hc hd => by
  match j with
  | 0 => cases hc; cases hd; exact .refl _
  | 1 => cases hc; cases hd; exact .refl _
  | 2 => cases hc; cases hd; exact wk_nil 4
  | j + 3 => simp at hc)
 have TN' : SCalls Tryz.prog (glE m) 55 [nv V.nil, clT sCls] [] (typeT (ty0, 50)) [] := TN.inp rfl (fun j c d hc hd => by
  match j with
  | 0 => cases hc; cases hd; exact nv_tv rfl
  | 1 => cases hc; cases hd; exact .refl _
  | j + 2 => simp at hc)
 have TC' : SCalls Tryz.prog (glE m) 55 [tv awR, .agg [S (str []), .pv (.v (.slice none 0 0))]] [] (typeT (ty0, 40)) [] := TC.inp rfl (fun j c d hc hd => by
  match j with
  | 0 => cases hc; cases hd; exact .refl _
  | 1 =>
   cases hc; cases hd
   refine wk_agg rfl (fun i p q hp hq => ?_)
   match i with
   | 0 => cases hp; cases hq; exact .refl _
   | 1 => cases hp; cases hq; exact wk_nil 4
   | i + 2 => simp at hp
  | j + 2 => simp at hc)
 have eT : evalT (V.nil, 42) = .tuple [nv V.nil, I 42] := rfl
 rw [eT] at ER'
 have p1 : parT (awS, 0, 0) = .tuple [tv awS, I 0, I 0] := rfl
 have p2 : parT (awR, 0, 0) = .tuple [tv awR, I 0, I 0] := rfl
 rw [p1] at PS
 rw [p2] at PR
 have eqR : eqTy ⟨3, 0⟩ ⟨3, 0⟩ = true := rfl
 generalize awS = eS at *
 generalize awR = eR at *
 refine call_of0 hmix tf_66 rfl ?_
 unfold B tv nv clT typeT tyT ty0 V.nil at *
 simp only [vcA, seval, vV, cmV]
 (with_reducible apply v_call); (· simp only [vcA, seval, vV, cmV]; with_reducible rfl); (· rfl); (· exact N0); (· first | rfl | (simp only [vcA, seval]; omega)); (· simp only [vcA, seval, vV, cmV]; with_reducible rfl)
 simp only [vcA, seval, vV, cmV, hab, q0]
 (with_reducible apply v_call); (· simp only [vcA, seval, vV, cmV]; with_reducible rfl); (· rfl); (· exact H0); (· first | rfl | (simp only [vcA, seval]; omega)); (· simp only [vcA, seval, vV, cmV]; with_reducible rfl)
 simp only [vcA, seval, vV, cmV]
 (with_reducible apply v_call); (· simp only [vcA, seval, vV, cmV]; with_reducible rfl); (· rfl); (· exact N1); (· first | rfl | (simp only [vcA, seval]; omega)); (· simp only [vcA, seval, vV, cmV]; with_reducible rfl)
 simp only [vcA, seval, vV, cmV, hab, q1]
 (with_reducible apply v_call); (· simp only [vcA, seval, vV, cmV]; with_reducible rfl); (· rfl); (· exact H1); (· first | rfl | (simp only [vcA, seval]; omega)); (· simp only [vcA, seval, vV, cmV]; with_reducible rfl)
 simp only [vcA, seval, vV, cmV, n2]
 (with_reducible apply v_call); (· simp only [vcA, seval, vV, cmV]; with_reducible rfl); (· rfl); (· exact N2); (· first | rfl | (simp only [vcA, seval]; omega)); (· simp only [vcA, seval, vV, cmV]; with_reducible rfl)
 simp only [vcA, seval, vV, cmV, hab, q2, n2]
 (with_reducible apply v_call); (· simp only [vcA, seval, vV, cmV]; with_reducible rfl); (· rfl); (· exact H2); (· first | rfl | (simp only [vcA, seval]; omega)); (· simp only [vcA, seval, vV, cmV]; with_reducible rfl)
 simp only [vcA, seval, vV, cmV]
 (with_reducible apply v_call); (· simp only [vcA, seval, vV, cmV]; with_reducible rfl); (· rfl); (· exact N3); (· first | rfl | (simp only [vcA, seval]; omega)); (· simp only [vcA, seval, vV, cmV]; with_reducible rfl)
 simp only [vcA, seval, vV, cmV, hab, q3]
 (with_reducible apply v_call); (· simp only [vcA, seval, vV, cmV]; with_reducible rfl); (· rfl); (· exact H3); (· first | rfl | (simp only [vcA, seval]; omega)); (· simp only [vcA, seval, vV, cmV]; with_reducible rfl)
 simp only [vcA, seval, vV, cmV]
 (with_reducible apply v_call); (· simp only [vcA, seval, vV, cmV]; with_reducible rfl); (· rfl); (· exact N4); (· first | rfl | (simp only [vcA, seval]; omega)); (· simp only [vcA, seval, vV, cmV]; with_reducible rfl)
 simp only [vcA, seval, vV, cmV, hab, q4]
 (with_reducible apply v_call); (· simp only [vcA, seval, vV, cmV]; with_reducible rfl); (· rfl); (· exact H4); (· first | rfl | (simp only [vcA, seval]; omega)); (· simp only [vcA, seval, vV, cmV]; with_reducible rfl)
 simp only [vcA, seval, vV, cmV, n5]
 (with_reducible apply v_call); (· simp only [vcA, seval, vV, cmV]; with_reducible rfl); (· rfl); (· exact N5); (· first | rfl | (simp only [vcA, seval]; omega)); (· simp only [vcA, seval, vV, cmV]; with_reducible rfl)
 simp only [vcA, seval, vV, cmV, hab, q5, n5]
 (with_reducible apply v_call); (· simp only [vcA, seval, vV, cmV]; with_reducible rfl); (· rfl); (· exact H5); (· first | rfl | (simp only [vcA, seval]; omega)); (· simp only [vcA, seval, vV, cmV]; with_reducible rfl)
 simp only [vcA, seval, vV, cmV, qS]
 (with_reducible apply v_call); (· simp only [vcA, seval, vV, cmV]; with_reducible rfl); (· rfl); (· exact PS); (· first | rfl | (simp only [vcA, seval]; omega)); (· simp only [vcA, seval, vV, cmV]; with_reducible rfl)
 simp only [vcA, seval, vV, cmV]
 (with_reducible apply v_call); (· simp only [vcA, seval, vV, cmV]; with_reducible rfl); (· rfl); (· exact HC); (· first | rfl | (simp only [vcA, seval]; omega)); (· simp only [vcA, seval, vV, cmV]; with_reducible rfl)
 (with_reducible apply v_call); (· simp only [vcA, seval, vV, cmV]; with_reducible rfl); (· rfl); (· exact TS); (· first | rfl | (simp only [vcA, seval]; omega)); (· simp only [vcA, seval, vV, cmV]; with_reducible rfl)
 simp only [vcA, seval, vV, cmV, qR]
 (with_reducible apply v_call); (· simp only [vcA, seval, vV, cmV]; with_reducible rfl); (· rfl); (· exact PR); (· first | rfl | (simp only [vcA, seval]; omega)); (· simp only [vcA, seval, vV, cmV]; with_reducible rfl)
 simp only [vcA, seval, vV, cmV]
 (with_reducible apply v_call); (· simp only [vcA, seval, vV, cmV]; with_reducible rfl); (· rfl); (· exact HC); (· first | rfl | (simp only [vcA, seval]; omega)); (· simp only [vcA, seval, vV, cmV]; with_reducible rfl)
 (with_reducible apply v_call); (· simp only [vcA, seval, vV, cmV]; with_reducible rfl); (· rfl); (· exact TR); (· first | rfl | (simp only [vcA, seval]; omega)); (· simp only [vcA, seval, vV, cmV]; with_reducible rfl)
 simp only [vcA, seval, vV, cmV]
 (with_reducible apply v_call); (· simp only [vcA, seval, vV, cmV]; with_reducible rfl); (· rfl); (· exact HC); (· first | rfl | (simp only [vcA, seval]; omega)); (· simp only [vcA, seval, vV, cmV]; with_reducible rfl)
 (with_reducible apply v_call); (· simp only [vcA, seval, vV, cmV]; with_reducible rfl); (· rfl); (· exact ER'); (· first | rfl | (simp only [vcA, seval]; omega)); (· simp only [vcA, seval, vV, cmV]; with_reducible rfl)
 simp only [vcA, seval, vV, cmV]
 (with_reducible apply v_call); (· simp only [vcA, seval, vV, cmV]; with_reducible rfl); (· rfl); (· exact HC); (· first | rfl | (simp only [vcA, seval]; omega)); (· simp only [vcA, seval, vV, cmV]; with_reducible rfl)
 (with_reducible apply v_call); (· simp only [vcA, seval, vV, cmV]; with_reducible rfl); (· rfl); (· exact TN'); (· first | rfl | (simp only [vcA, seval]; omega)); (· simp only [vcA, seval, vV, cmV]; with_reducible rfl)
 simp only [vcA, seval, vV, cmV]
 (with_reducible apply v_call); (· simp only [vcA, seval, vV, cmV]; with_reducible rfl); (· rfl); (· exact TC'); (· first | rfl | (simp only [vcA, seval]; omega)); (· simp only [vcA, seval, vV, cmV]; with_reducible rfl)
 simp only [vcA, seval, vV, cmV, tyV, eqlTy, eqR]
end Go.Proofs.YtmiokadmddjccaaGreatDoor
end

section
namespace Go.Proofs.YtmiokadmddjccaaGreatDoor
open Go Go.RowKit Go.Mor Go.Sh Go.Sh.Cd1
set_option maxRecDepth 100000
set_option maxHeartbeats 4000000
theorem u8_lt (b : UInt8) : b.toNat < 256 := b.toNat_lt
theorem wr3 : IntKind.i64.wrap 3 = 3 := rfl
theorem wr4 : IntKind.i64.wrap 4 = 4 := rfl
theorem wr5 : IntKind.i64.wrap 5 = 5 := rfl
theorem getD_some {l : List UInt8} {i : Nat} {b : UInt8} (h : l[i]? = some b) : l.getD i 0 = b := by rw [List.getD_eq_getElem?_getD, h]; rfl
theorem signL_eq {l : List UInt8} (h : 0 < l.length) : signL l = signN l.length (l.getD 0 0).toNat (l.getD 1 0).toNat (l.getD 2 0).toNat (l.getD 3 0).toNat := by
 unfold signL; rw [if_neg (by rintro rfl; simp at h)]
theorem at_ {l : List UInt8} {i : Nat} (h : i < l.length) : ∃ b, l[i]? = some b := ⟨_, List.getElem?_eq_getElem h⟩
theorem cvi8 (n : Nat) (h : n < 256) : IntKind.i64.wrap (n : Int) = (n : Int) := wrap64 (by omega) (by omega)
theorem v_unr {P : Program} {g : Sh.Glob} {a : SCode} {Q : SExit → ES → Prop} {k : Nat} {s : ES} : unrollW P g a Q (k + 1) s = swp P g a (thenW (unrollW P g a Q k) Q) s := rfl
theorem sg {a b : Int} (h : a = b) : some (TV.pv (PV.v (Value.int IntKind.i64 a))) = some (TV.pv (PV.v (Value.int IntKind.i64 b))) := by rw [h]
theorem sign_a (g : Sh.Glob) (l : List UInt8) (b0 : UInt8) (hl : 0 < l.length) (e0 : l[0]? = some b0) (hc : b0.toNat < 128) : SCalls Tryz.prog g 51 [S (str l)] [] (I (signN l.length b0.toNat (l.getD 1 0).toNat (l.getD 2 0).toNat (l.getD 3 0).toNat : Nat)) [] := by
 have hb := u8_lt b0
 have c0 := cvi8 b0.toNat hb
 have hl0 : ¬ (l.length : Int) = 0 := by omega
 have t0 : (b0.toNat : Int) < 128 := by omega
 have t1 : ¬ 194 ≤ (b0.toNat : Int) := by omega
 have t2 : (b0.toNat : Int) ≤ 223 := by omega
 have t3 : ¬ 224 ≤ (b0.toNat : Int) := by omega
 have t4 : (b0.toNat : Int) ≤ 239 := by omega
 have t5 : ¬ 240 ≤ (b0.toNat : Int) := by omega
 have t6 : (b0.toNat : Int) ≤ 244 := by omega
 have t7 : ¬ (b0.toNat : Int) = 224 := by omega
 have t8 : ¬ (b0.toNat : Int) = 237 := by omega
 have t9 : ¬ (b0.toNat : Int) = 240 := by omega
 have t10 : ¬ (b0.toNat : Int) = 244 := by omega
 refine call_of0 hmix tf_79 rfl ?_
 simp only [vcA, seval, I, S, e0, c0, hl0, t0, t1, t2, t3, t4, t5, t6, t7, t8, t9, t10]
 exact sg (by unfold signN; (repeat' split) <;> omega)
theorem sign_b (g : Sh.Glob) (l : List UInt8) (b0 : UInt8) (hl : 0 < l.length) (e0 : l[0]? = some b0) (hc : 128 ≤ b0.toNat ∧ b0.toNat ≤ 193) : SCalls Tryz.prog g 51 [S (str l)] [] (I (signN l.length b0.toNat (l.getD 1 0).toNat (l.getD 2 0).toNat (l.getD 3 0).toNat : Nat)) [] := by
 have hb := u8_lt b0
 have c0 := cvi8 b0.toNat hb
 have hl0 : ¬ (l.length : Int) = 0 := by omega
 have t0 : ¬ (b0.toNat : Int) < 128 := by omega
 have t1 : ¬ 194 ≤ (b0.toNat : Int) := by omega
 have t2 : (b0.toNat : Int) ≤ 223 := by omega
 have t3 : ¬ 224 ≤ (b0.toNat : Int) := by omega
 have t4 : (b0.toNat : Int) ≤ 239 := by omega
 have t5 : ¬ 240 ≤ (b0.toNat : Int) := by omega
 have t6 : (b0.toNat : Int) ≤ 244 := by omega
 have t7 : ¬ (b0.toNat : Int) = 224 := by omega
 have t8 : ¬ (b0.toNat : Int) = 237 := by omega
 have t9 : ¬ (b0.toNat : Int) = 240 := by omega
 have t10 : ¬ (b0.toNat : Int) = 244 := by omega
 refine call_of0 hmix tf_79 rfl ?_
 simp only [vcA, seval, I, S, e0, c0, hl0, t0, t1, t2, t3, t4, t5, t6, t7, t8, t9, t10]
 exact sg (by unfold signN; (repeat' split) <;> omega)
theorem sign_c (g : Sh.Glob) (l : List UInt8) (b0 : UInt8) (hl : 0 < l.length) (e0 : l[0]? = some b0) (hc : 194 ≤ b0.toNat ∧ b0.toNat ≤ 223) : SCalls Tryz.prog g 51 [S (str l)] [] (I (signN l.length b0.toNat (l.getD 1 0).toNat (l.getD 2 0).toNat (l.getD 3 0).toNat : Nat)) [] := by
 have hb := u8_lt b0
 have c0 := cvi8 b0.toNat hb
 have hl0 : ¬ (l.length : Int) = 0 := by omega
 have t0 : ¬ (b0.toNat : Int) < 128 := by omega
 have t1 : 194 ≤ (b0.toNat : Int) := by omega
 have t2 : (b0.toNat : Int) ≤ 223 := by omega
 have t3 : ¬ 224 ≤ (b0.toNat : Int) := by omega
 have t4 : (b0.toNat : Int) ≤ 239 := by omega
 have t5 : ¬ 240 ≤ (b0.toNat : Int) := by omega
 have t6 : (b0.toNat : Int) ≤ 244 := by omega
 have t7 : ¬ (b0.toNat : Int) = 224 := by omega
 have t8 : ¬ (b0.toNat : Int) = 237 := by omega
 have t9 : ¬ (b0.toNat : Int) = 240 := by omega
 have t10 : ¬ (b0.toNat : Int) = 244 := by omega
 refine call_of0 hmix tf_79 rfl ?_
 by_cases hn : (l.length : Int) < 2
 ·simp only [vcA, seval, I, S, e0, c0, hl0, hn, t0, t1, t2, t3, t4, t5, t6, t7, t8, t9, t10]
  exact sg (by unfold signN; (repeat' split) <;> omega)
 obtain ⟨b1, e1⟩ := at_ (l := l) (i := 1) (by omega)
 have hb1 := u8_lt b1
 have g1 := getD_some e1
 have c1 := cvi8 b1.toNat hb1
 rw [g1]
 simp only [vcA, seval, I, S, e0, c0, e1, c1, hl0, hn, t0, t1, t2, t3, t4, t5, t6, t7, t8, t9, t10]
 refine ⟨fun h1 => sg (by unfold signN; (repeat' split) <;> omega), fun h1 => ⟨fun h2 => sg (by unfold signN; (repeat' split) <;> omega), fun h2 => ?_⟩⟩
 refine w_unrollE 1 ?_
 simp only [vcA, seval, I, S, v_unr, e1, wr3, wr4, wr5]
 exact sg (by unfold signN; (repeat' split) <;> omega)
theorem sign_d (g : Sh.Glob) (l : List UInt8) (b0 : UInt8) (hl : 0 < l.length) (e0 : l[0]? = some b0) (hc : b0.toNat = 224) : SCalls Tryz.prog g 51 [S (str l)] [] (I (signN l.length b0.toNat (l.getD 1 0).toNat (l.getD 2 0).toNat (l.getD 3 0).toNat : Nat)) [] := by
 have hb := u8_lt b0
 have c0 := cvi8 b0.toNat hb
 have hl0 : ¬ (l.length : Int) = 0 := by omega

 refine call_of0 hmix tf_79 rfl ?_
 have q0 : (b0.toNat : Int) = 224 := by omega
 have q1 : IntKind.i64.wrap 224 = 224 := rfl
 by_cases hn : (l.length : Int) < 3
 ·simp only [vcA, seval, I, S, e0, c0, hl0, hn, q0, q1]
  exact sg (by unfold signN; (repeat' split) <;> omega)
 obtain ⟨b1, e1⟩ := at_ (l := l) (i := 1) (by omega)
 have hb1 := u8_lt b1
 have g1 := getD_some e1
 obtain ⟨b2, e2⟩ := at_ (l := l) (i := 2) (by omega)
 have hb2 := u8_lt b2
 have g2 := getD_some e2
 have c1 := cvi8 b1.toNat hb1
 rw [g1, g2]
 simp only [vcA, seval, I, S, e0, c0, e1, c1, hl0, hn, q0, q1]
 refine ⟨fun h1 => sg (by unfold signN; (repeat' split) <;> omega), fun h1 => ⟨fun h2 => sg (by unfold signN; (repeat' split) <;> omega), fun h2 => ?_⟩⟩
 refine w_unrollE 2 ?_
 simp only [vcA, seval, I, S, v_unr, e1, e2, wr3, wr4, wr5]
 repeat' (first | (apply And.intro) | (intro _))
 all_goals exact sg (by unfold signN; (repeat' split) <;> omega)
theorem sign_e (g : Sh.Glob) (l : List UInt8) (b0 : UInt8) (hl : 0 < l.length) (e0 : l[0]? = some b0) (hc : 225 ≤ b0.toNat ∧ b0.toNat ≤ 239 ∧ b0.toNat ≠ 237) : SCalls Tryz.prog g 51 [S (str l)] [] (I (signN l.length b0.toNat (l.getD 1 0).toNat (l.getD 2 0).toNat (l.getD 3 0).toNat : Nat)) [] := by
 have hb := u8_lt b0
 have c0 := cvi8 b0.toNat hb
 have hl0 : ¬ (l.length : Int) = 0 := by omega
 have t0 : ¬ (b0.toNat : Int) < 128 := by omega
 have t1 : 194 ≤ (b0.toNat : Int) := by omega
 have t2 : ¬ (b0.toNat : Int) ≤ 223 := by omega
 have t3 : 224 ≤ (b0.toNat : Int) := by omega
 have t4 : (b0.toNat : Int) ≤ 239 := by omega
 have t5 : ¬ 240 ≤ (b0.toNat : Int) := by omega
 have t6 : (b0.toNat : Int) ≤ 244 := by omega
 have t7 : ¬ (b0.toNat : Int) = 224 := by omega
 have t8 : ¬ (b0.toNat : Int) = 237 := by omega
 have t9 : ¬ (b0.toNat : Int) = 240 := by omega
 have t10 : ¬ (b0.toNat : Int) = 244 := by omega
 refine call_of0 hmix tf_79 rfl ?_
 by_cases hn : (l.length : Int) < 3
 ·simp only [vcA, seval, I, S, e0, c0, hl0, hn, t0, t1, t2, t3, t4, t5, t6, t7, t8, t9, t10]
  exact sg (by unfold signN; (repeat' split) <;> omega)
 obtain ⟨b1, e1⟩ := at_ (l := l) (i := 1) (by omega)
 have hb1 := u8_lt b1
 have g1 := getD_some e1
 obtain ⟨b2, e2⟩ := at_ (l := l) (i := 2) (by omega)
 have hb2 := u8_lt b2
 have g2 := getD_some e2
 have c1 := cvi8 b1.toNat hb1
 rw [g1, g2]
 simp only [vcA, seval, I, S, e0, c0, e1, c1, hl0, hn, t0, t1, t2, t3, t4, t5, t6, t7, t8, t9, t10]
 refine ⟨fun h1 => sg (by unfold signN; (repeat' split) <;> omega), fun h1 => ⟨fun h2 => sg (by unfold signN; (repeat' split) <;> omega), fun h2 => ?_⟩⟩
 refine w_unrollE 2 ?_
 simp only [vcA, seval, I, S, v_unr, e1, e2, wr3, wr4, wr5]
 repeat' (first | (apply And.intro) | (intro _))
 all_goals exact sg (by unfold signN; (repeat' split) <;> omega)
theorem sign_f (g : Sh.Glob) (l : List UInt8) (b0 : UInt8) (hl : 0 < l.length) (e0 : l[0]? = some b0) (hc : b0.toNat = 237) : SCalls Tryz.prog g 51 [S (str l)] [] (I (signN l.length b0.toNat (l.getD 1 0).toNat (l.getD 2 0).toNat (l.getD 3 0).toNat : Nat)) [] := by
 have hb := u8_lt b0
 have c0 := cvi8 b0.toNat hb
 have hl0 : ¬ (l.length : Int) = 0 := by omega

 refine call_of0 hmix tf_79 rfl ?_
 have q0 : (b0.toNat : Int) = 237 := by omega
 have q1 : IntKind.i64.wrap 237 = 237 := rfl
 by_cases hn : (l.length : Int) < 3
 ·simp only [vcA, seval, I, S, e0, c0, hl0, hn, q0, q1]
  exact sg (by unfold signN; (repeat' split) <;> omega)
 obtain ⟨b1, e1⟩ := at_ (l := l) (i := 1) (by omega)
 have hb1 := u8_lt b1
 have g1 := getD_some e1
 obtain ⟨b2, e2⟩ := at_ (l := l) (i := 2) (by omega)
 have hb2 := u8_lt b2
 have g2 := getD_some e2
 have c1 := cvi8 b1.toNat hb1
 rw [g1, g2]
 simp only [vcA, seval, I, S, e0, c0, e1, c1, hl0, hn, q0, q1]
 refine ⟨fun h1 => sg (by unfold signN; (repeat' split) <;> omega), fun h1 => ⟨fun h2 => sg (by unfold signN; (repeat' split) <;> omega), fun h2 => ?_⟩⟩
 refine w_unrollE 2 ?_
 simp only [vcA, seval, I, S, v_unr, e1, e2, wr3, wr4, wr5]
 repeat' (first | (apply And.intro) | (intro _))
 all_goals exact sg (by unfold signN; (repeat' split) <;> omega)
theorem sign_g (g : Sh.Glob) (l : List UInt8) (b0 : UInt8) (hl : 0 < l.length) (e0 : l[0]? = some b0) (hc : b0.toNat = 240) : SCalls Tryz.prog g 51 [S (str l)] [] (I (signN l.length b0.toNat (l.getD 1 0).toNat (l.getD 2 0).toNat (l.getD 3 0).toNat : Nat)) [] := by
 have hb := u8_lt b0
 have c0 := cvi8 b0.toNat hb
 have hl0 : ¬ (l.length : Int) = 0 := by omega

 refine call_of0 hmix tf_79 rfl ?_
 have q0 : (b0.toNat : Int) = 240 := by omega
 have q1 : IntKind.i64.wrap 240 = 240 := rfl
 by_cases hn : (l.length : Int) < 4
 ·simp only [vcA, seval, I, S, e0, c0, hl0, hn, q0, q1]
  exact sg (by unfold signN; (repeat' split) <;> omega)
 obtain ⟨b1, e1⟩ := at_ (l := l) (i := 1) (by omega)
 have hb1 := u8_lt b1
 have g1 := getD_some e1
 obtain ⟨b2, e2⟩ := at_ (l := l) (i := 2) (by omega)
 have hb2 := u8_lt b2
 have g2 := getD_some e2
 obtain ⟨b3, e3⟩ := at_ (l := l) (i := 3) (by omega)
 have hb3 := u8_lt b3
 have g3 := getD_some e3
 have c1 := cvi8 b1.toNat hb1
 rw [g1, g2, g3]
 simp only [vcA, seval, I, S, e0, c0, e1, c1, hl0, hn, q0, q1]
 refine ⟨fun h1 => sg (by unfold signN; (repeat' split) <;> omega), fun h1 => ⟨fun h2 => sg (by unfold signN; (repeat' split) <;> omega), fun h2 => ?_⟩⟩
 refine w_unrollE 3 ?_
 simp only [vcA, seval, I, S, v_unr, e1, e2, e3, wr3, wr4, wr5]
 repeat' (first | (apply And.intro) | (intro _))
 all_goals exact sg (by unfold signN; (repeat' split) <;> omega)
theorem sign_h (g : Sh.Glob) (l : List UInt8) (b0 : UInt8) (hl : 0 < l.length) (e0 : l[0]? = some b0) (hc : 241 ≤ b0.toNat ∧ b0.toNat ≤ 243) : SCalls Tryz.prog g 51 [S (str l)] [] (I (signN l.length b0.toNat (l.getD 1 0).toNat (l.getD 2 0).toNat (l.getD 3 0).toNat : Nat)) [] := by
 have hb := u8_lt b0
 have c0 := cvi8 b0.toNat hb
 have hl0 : ¬ (l.length : Int) = 0 := by omega
 have t0 : ¬ (b0.toNat : Int) < 128 := by omega
 have t1 : 194 ≤ (b0.toNat : Int) := by omega
 have t2 : ¬ (b0.toNat : Int) ≤ 223 := by omega
 have t3 : 224 ≤ (b0.toNat : Int) := by omega
 have t4 : ¬ (b0.toNat : Int) ≤ 239 := by omega
 have t5 : 240 ≤ (b0.toNat : Int) := by omega
 have t6 : (b0.toNat : Int) ≤ 244 := by omega
 have t7 : ¬ (b0.toNat : Int) = 224 := by omega
 have t8 : ¬ (b0.toNat : Int) = 237 := by omega
 have t9 : ¬ (b0.toNat : Int) = 240 := by omega
 have t10 : ¬ (b0.toNat : Int) = 244 := by omega
 refine call_of0 hmix tf_79 rfl ?_
 by_cases hn : (l.length : Int) < 4
 ·simp only [vcA, seval, I, S, e0, c0, hl0, hn, t0, t1, t2, t3, t4, t5, t6, t7, t8, t9, t10]
  exact sg (by unfold signN; (repeat' split) <;> omega)
 obtain ⟨b1, e1⟩ := at_ (l := l) (i := 1) (by omega)
 have hb1 := u8_lt b1
 have g1 := getD_some e1
 obtain ⟨b2, e2⟩ := at_ (l := l) (i := 2) (by omega)
 have hb2 := u8_lt b2
 have g2 := getD_some e2
 obtain ⟨b3, e3⟩ := at_ (l := l) (i := 3) (by omega)
 have hb3 := u8_lt b3
 have g3 := getD_some e3
 have c1 := cvi8 b1.toNat hb1
 rw [g1, g2, g3]
 simp only [vcA, seval, I, S, e0, c0, e1, c1, hl0, hn, t0, t1, t2, t3, t4, t5, t6, t7, t8, t9, t10]
 refine ⟨fun h1 => sg (by unfold signN; (repeat' split) <;> omega), fun h1 => ⟨fun h2 => sg (by unfold signN; (repeat' split) <;> omega), fun h2 => ?_⟩⟩
 refine w_unrollE 3 ?_
 simp only [vcA, seval, I, S, v_unr, e1, e2, e3, wr3, wr4, wr5]
 repeat' (first | (apply And.intro) | (intro _))
 all_goals exact sg (by unfold signN; (repeat' split) <;> omega)
theorem sign_i (g : Sh.Glob) (l : List UInt8) (b0 : UInt8) (hl : 0 < l.length) (e0 : l[0]? = some b0) (hc : b0.toNat = 244) : SCalls Tryz.prog g 51 [S (str l)] [] (I (signN l.length b0.toNat (l.getD 1 0).toNat (l.getD 2 0).toNat (l.getD 3 0).toNat : Nat)) [] := by
 have hb := u8_lt b0
 have c0 := cvi8 b0.toNat hb
 have hl0 : ¬ (l.length : Int) = 0 := by omega

 refine call_of0 hmix tf_79 rfl ?_
 have q0 : (b0.toNat : Int) = 244 := by omega
 have q1 : IntKind.i64.wrap 244 = 244 := rfl
 by_cases hn : (l.length : Int) < 4
 ·simp only [vcA, seval, I, S, e0, c0, hl0, hn, q0, q1]
  exact sg (by unfold signN; (repeat' split) <;> omega)
 obtain ⟨b1, e1⟩ := at_ (l := l) (i := 1) (by omega)
 have hb1 := u8_lt b1
 have g1 := getD_some e1
 obtain ⟨b2, e2⟩ := at_ (l := l) (i := 2) (by omega)
 have hb2 := u8_lt b2
 have g2 := getD_some e2
 obtain ⟨b3, e3⟩ := at_ (l := l) (i := 3) (by omega)
 have hb3 := u8_lt b3
 have g3 := getD_some e3
 have c1 := cvi8 b1.toNat hb1
 rw [g1, g2, g3]
 simp only [vcA, seval, I, S, e0, c0, e1, c1, hl0, hn, q0, q1]
 refine ⟨fun h1 => sg (by unfold signN; (repeat' split) <;> omega), fun h1 => ⟨fun h2 => sg (by unfold signN; (repeat' split) <;> omega), fun h2 => ?_⟩⟩
 refine w_unrollE 3 ?_
 simp only [vcA, seval, I, S, v_unr, e1, e2, e3, wr3, wr4, wr5]
 repeat' (first | (apply And.intro) | (intro _))
 all_goals exact sg (by unfold signN; (repeat' split) <;> omega)
theorem sign_j (g : Sh.Glob) (l : List UInt8) (b0 : UInt8) (hl : 0 < l.length) (e0 : l[0]? = some b0) (hc : 245 ≤ b0.toNat) : SCalls Tryz.prog g 51 [S (str l)] [] (I (signN l.length b0.toNat (l.getD 1 0).toNat (l.getD 2 0).toNat (l.getD 3 0).toNat : Nat)) [] := by
 have hb := u8_lt b0
 have c0 := cvi8 b0.toNat hb
 have hl0 : ¬ (l.length : Int) = 0 := by omega
 have t0 : ¬ (b0.toNat : Int) < 128 := by omega
 have t1 : 194 ≤ (b0.toNat : Int) := by omega
 have t2 : ¬ (b0.toNat : Int) ≤ 223 := by omega
 have t3 : 224 ≤ (b0.toNat : Int) := by omega
 have t4 : ¬ (b0.toNat : Int) ≤ 239 := by omega
 have t5 : 240 ≤ (b0.toNat : Int) := by omega
 have t6 : ¬ (b0.toNat : Int) ≤ 244 := by omega
 have t7 : ¬ (b0.toNat : Int) = 224 := by omega
 have t8 : ¬ (b0.toNat : Int) = 237 := by omega
 have t9 : ¬ (b0.toNat : Int) = 240 := by omega
 have t10 : ¬ (b0.toNat : Int) = 244 := by omega
 refine call_of0 hmix tf_79 rfl ?_
 simp only [vcA, seval, I, S, e0, c0, hl0, t0, t1, t2, t3, t4, t5, t6, t7, t8, t9, t10]
 exact sg (by unfold signN; (repeat' split) <;> omega)
theorem sign_ok (g : Sh.Glob) (l : List UInt8) : SCalls Tryz.prog g 51 [S (str l)] [] (I (signL l)) [] := by
 by_cases h0 : l.length = 0
 ·have : l = [] := List.eq_nil_of_length_eq_zero h0
  subst this
  refine call_of0 hmix tf_79 rfl ?_
  simp only [vcA, seval, I, S, Int.natCast_zero, List.length_nil]
  rfl
 have hl : 0 < l.length := by omega
 obtain ⟨b0, e0⟩ := at_ hl
 rw [signL_eq hl, getD_some e0]
 have hb := u8_lt b0
 by_cases c0 : b0.toNat < 128
 ·exact sign_a g l b0 hl e0 c0
 by_cases c1 : 128 ≤ b0.toNat ∧ b0.toNat ≤ 193
 ·exact sign_b g l b0 hl e0 c1
 by_cases c2 : 194 ≤ b0.toNat ∧ b0.toNat ≤ 223
 ·exact sign_c g l b0 hl e0 c2
 by_cases c3 : b0.toNat = 224
 ·exact sign_d g l b0 hl e0 c3
 by_cases c4 : 225 ≤ b0.toNat ∧ b0.toNat ≤ 239 ∧ b0.toNat ≠ 237
 ·exact sign_e g l b0 hl e0 c4
 by_cases c5 : b0.toNat = 237
 ·exact sign_f g l b0 hl e0 c5
 by_cases c6 : b0.toNat = 240
 ·exact sign_g g l b0 hl e0 c6
 by_cases c7 : 241 ≤ b0.toNat ∧ b0.toNat ≤ 243
 ·exact sign_h g l b0 hl e0 c7
 by_cases c8 : b0.toNat = 244
 ·exact sign_i g l b0 hl e0 c8
 exact sign_j g l b0 hl e0 (by omega)
end Go.Proofs.YtmiokadmddjccaaGreatDoor
end

section
namespace Go.Proofs.YtmiokadmddjccaaGreatDoor
open Go Go.RowKit Go.Mor Go.Sh Go.Sh.Cd1
set_option maxRecDepth 100000
set_option maxHeartbeats 8000000
def isTextN : Nat → List UInt8 → Bool
 | 0, _ => true
 | n + 1, l => match l with
  | [] => true
  | b :: r => !(signL (b :: r) == 0) && !decide (b.toNat < 32) && !(b.toNat == 127) && isTextN n ((b :: r).drop (signL (b :: r)))
def isText (l : List UInt8) : Bool := isTextN l.length l
theorem isTextN_more : ∀ (n : Nat) (l : List UInt8), l.length ≤ n → isTextN n l = isText l := by
 intro n
 induction n using Nat.strongRecOn with
 | _ n ih =>
  intro l hl
  unfold isText
  cases l with
  | nil => cases n <;> rfl
  | cons b r =>
   obtain ⟨m, rfl⟩ : ∃ m, n = m + 1 := ⟨n - 1, by simp at hl; omega⟩
   simp only [isTextN, List.length_cons]
   by_cases h0 : signL (b :: r) = 0
   ·simp [h0]
   ·have h1 : ((b :: r).drop (signL (b :: r))).length ≤ r.length := by simp; omega
    simp at hl
    rw [ih m (by omega) _ (by omega)]
    by_cases he : r.length = m
    ·subst he; rw [ih r.length (by omega) _ h1]
    ·rw [ih r.length (by omega) _ h1]
theorem isText_cons (b : UInt8) (r : List UInt8) : isText (b :: r) = (!(signL (b :: r) == 0) && !decide (b.toNat < 32) && !(b.toNat == 127) && isText ((b :: r).drop (signL (b :: r)))) := by
 conv => lhs; unfold isText
 simp only [isTextN, List.length_cons]
 by_cases h0 : signL (b :: r) = 0
 ·simp [h0]
 ·rw [isTextN_more r.length _ (by simp; omega)]
theorem signL_le (l : List UInt8) : signL l ≤ l.length ∧ signL l ≤ 4 := by
 unfold signL
 cases l with
 | nil => simp
 | cons b r =>
  rw [if_neg (by simp)]
  unfold signN
  simp only [List.length_cons]
  repeat' split
  all_goals omega
theorem str_drop (l : List UInt8) (a : Nat) : (str l).extract a l.length = str (l.drop a) := by
 rw [str_extract, List.take_of_length_le (by simp)]
theorem isText_ok (g : Sh.Glob) (l : List UInt8) (hl : l.length ≤ 9223372036854775807) : SCalls Tryz.prog g 87 [S (str l)] [] (.pv (.v (.bool (isText l)))) [] := by
 refine call_of0 hmix tf_75 rfl ?_
 obtain ⟨r, hr⟩ : ∃ r, isText l = r := ⟨_, rfl⟩
 rw [hr]
 simp only [vcA, seval, vV]
 refine v_loop (σ := { i : Nat // i ≤ l.length ∧ r = isText (l.drop i) }) (fun i => ⟨[(0, S (str l)), (3, I (i.1 : Int))], [], [], []⟩) (fun i => l.length - i.1) ⟨0, Nat.zero_le _, hr.symm⟩ ?_ ?_
 ·apply lw_of <;> simp [leL, lk, sv, Nat.beq, I, S, ES.kill, has, drp, nilT]
 rintro ⟨i, hi, hT⟩
 by_cases hlt : i < l.length
 ·have d1 : (i : Int) < (l.length : Int) := by omega
  have hd := str_drop l i
  obtain ⟨b, eb⟩ := at_ hlt
  have hcons : l.drop i = b :: l.drop (i + 1) := by
   rw [List.drop_eq_getElem_cons hlt]; congr 1
   rw [List.getElem?_eq_getElem hlt] at eb; exact Option.some.inj eb
  have hs := signL_le (l.drop i)
  have hb := isText_cons b (l.drop (i + 1))
  rw [← hcons, ← hT] at hb
  simp only [List.length_drop] at hs
  have HS := sign_ok g (l.drop i)
  simp only [vcA, seval, vV, d1, hd]
  refine ⟨by omega, ?_⟩
  (with_reducible apply v_call); (· simp only [vcA, seval, vV]; with_reducible rfl); (· rfl); (· exact HS); (· first | rfl | (simp only [vcA, seval]; omega)); (· simp only [vcA, seval, vV]; with_reducible rfl)
  generalize signL (l.drop i) = n at hs hb ⊢
  by_cases h0 : n = 0
  ·have d2 : (n : Int) = 0 := by omega
   have hf : r = false := by rw [hb]; simp [h0]
   subst hf
   simp only [vcA, seval, vV, d2]
  have d2 : ¬ (n : Int) = 0 := by omega
  by_cases h1 : b.toNat < 32
  ·have d3 : (b.toNat : Int) < 32 := by omega
   have hf : r = false := by rw [hb]; simp [h1]
   subst hf
   simp only [vcA, seval, vV, d2, eb, d3]
  have d3 : ¬ (b.toNat : Int) < 32 := by omega
  by_cases h2 : b.toNat = 127
  ·have d4 : (b.toNat : Int) = 127 := by omega
   have hf : r = false := by rw [hb]; simp [h2]
   subst hf
   simp only [vcA, seval, vV, d2, eb, d3, d4]
  have d4 : ¬ (b.toNat : Int) = 127 := by omega
  have w1 : IntKind.i64.wrap ((i : Int) + (n : Int)) = ((i + n : Nat) : Int) := by rw [wrap64 (by omega) (by omega)]; omega
  have hT2 : r = isText (l.drop (i + n)) := by rw [hb, List.drop_drop]; simp [h0, h1, h2]
  simp only [vcA, seval, vV, d2, eb, d3, d4, w1]
  refine loopK_of ⟨i + n, by omega, hT2⟩ (by show l.length - (i + n) < l.length - i; omega) ?_
  apply lw_of <;> simp [leL, lk, sv, Nat.beq, I, S, ES.kill, has, drp, nilT]
 ·have d1 : ¬ (i : Int) < (l.length : Int) := by omega
  have hf : r = true := by rw [hT, List.drop_eq_nil_of_le (by omega)]; rfl
  subst hf
  simp only [vcA, seval, vV, d1]
def stepN (l : List UInt8) : Nat := max (signL l) 1
def vtN : Nat → List UInt8 → List UInt8 → List UInt8
 | 0, _, out => out
 | n + 1, l, out => if l = [] ∨ 17 ≤ out.length then out else vtN n (l.drop (stepN l)) (if isText (l.take (stepN l)) then out ++ l.take (stepN l) else out)
def vt (l out : List UInt8) : List UInt8 := vtN l.length l out
def valText (l : List UInt8) : List UInt8 := vt l []
theorem stepN_le {l : List UInt8} (h : 0 < l.length) : 1 ≤ stepN l ∧ stepN l ≤ l.length ∧ stepN l ≤ 4 := by
 have := signL_le l
 unfold stepN; omega
theorem vtN_more : ∀ (n : Nat) (l out : List UInt8), l.length ≤ n → vtN n l out = vt l out := by
 intro n
 induction n using Nat.strongRecOn with
 | _ n ih =>
  intro l out hl
  unfold vt
  cases n with
  | zero =>
   have : l.length = 0 := by omega
   rw [this]
  | succ m =>
   cases hm : l.length with
   | zero =>
    have : l = [] := List.eq_nil_of_length_eq_zero hm
    simp [vtN, this]
   | succ p =>
    simp only [vtN]
    split
    ·rfl
    ·have hs := stepN_le (l := l) (by omega)
     have h1 : (l.drop (stepN l)).length ≤ p := by simp; omega
     rw [ih m (by omega) _ _ (by omega), ih p (by omega) _ _ h1]
theorem vt_step (l out : List UInt8) : vt l out = if l = [] ∨ 17 ≤ out.length then out else vt (l.drop (stepN l)) (if isText (l.take (stepN l)) then out ++ l.take (stepN l) else out) := by
 conv => lhs; unfold vt
 cases hm : l.length with
 | zero =>
  have : l = [] := List.eq_nil_of_length_eq_zero hm
  simp [vtN, this]
 | succ p =>
  have hs := stepN_le (l := l) (by omega)
  simp only [vtN]
  split
  ·rfl
  ·rw [vtN_more p _ _ (by simp; omega)]
theorem valText_ok (g : Sh.Glob) (l : List UInt8) (hl : l.length ≤ 9223372036854775807) : SCalls Tryz.prog g 37 [S (str l)] [] (S (str (valText l))) [] := by
 refine call_of0 hmix tf_63 rfl ?_
 have e0 : (⟨#[]⟩ : ByteArray) = str [] := rfl
 obtain ⟨r, hr⟩ : ∃ r, valText l = r := ⟨_, rfl⟩
 rw [hr]
 simp only [vcA, seval, vV]
 refine v_loop (σ := { p : Nat × List UInt8 // p.1 ≤ l.length ∧ p.2.length ≤ 20 ∧ r = vt (l.drop p.1) p.2 }) (fun p => ⟨[(0, S (str l)), (3, S (str p.1.2)), (4, I (p.1.1 : Int))], [], [], []⟩) (fun p => l.length - p.1.1) ⟨(0, []), Nat.zero_le _, Nat.zero_le _, hr.symm⟩ ?_ ?_
 ·apply lw_of <;> simp [leL, lk, sv, Nat.beq, I, S, ES.kill, has, drp, nilT, e0]
 rintro ⟨⟨i, out⟩, hi, ho, hT⟩
 simp only at hi ho hT
 rw [vt_step] at hT
 by_cases hlt : ¬ i < l.length
 ·have d1 : ¬ (i : Int) < (l.length : Int) := by omega
  have hf : r = out := by rw [hT, if_pos (.inl (List.drop_eq_nil_of_le (by omega)))]
  subst hf
  simp only [vcA, seval, vV, d1]
 have d1 : (i : Int) < (l.length : Int) := by omega
 by_cases h17 : ¬ out.length < 17
 ·have d2 : ¬ (out.length : Int) < 17 := by omega
  have hf : r = out := by rw [hT, if_pos (.inr (by omega))]
  subst hf
  simp only [vcA, seval, vV, d1, d2]
 have d2 : (out.length : Int) < 17 := by omega
 have hd := str_drop l i
 have hs := stepN_le (l := l.drop i) (by simp; omega)
 rw [if_neg (by rw [List.drop_eq_nil_iff]; omega)] at hT
 have hm : max (signL (l.drop i) : Int) 1 = ((stepN (l.drop i) : Nat) : Int) := by unfold stepN; omega
 have HS := sign_ok g (l.drop i)
 simp only [vcA, seval, vV, d1, d2, hd]
 refine ⟨by omega, ?_⟩
 (with_reducible apply v_call); (· simp only [vcA, seval, vV]; with_reducible rfl); (· rfl); (· exact HS); (· first | rfl | (simp only [vcA, seval]; omega)); (· simp only [vcA, seval, vV]; with_reducible rfl)
 simp only [vcA, seval, vV, hm]
 simp only [List.length_drop] at hs
 obtain ⟨n, hn⟩ : ∃ n, n = stepN (l.drop i) := ⟨_, rfl⟩
 rw [← hn] at hs hT ⊢
 have w1 : IntKind.i64.wrap ((i : Int) + (n : Int)) = ((i + n : Nat) : Int) := by rw [wrap64 (by omega) (by omega)]; omega
 have g1 : i ≤ i + n := by omega
 have g2 : i + n ≤ l.length := by omega
 have hx : (str l).extract i (i + n) = str ((l.drop i).take n) := by rw [str_extract]; congr 2; omega
 have hlen : ((l.drop i).take n).length = n := by simp; omega
 have HT := isText_ok g ((l.drop i).take n) (by omega)
 have hii : i + n - i = n := by omega
 simp only [vcA, seval, vV, w1, hx, hii]
 refine ⟨⟨by omega, by omega⟩, ?_⟩
 (with_reducible apply v_call); (· simp only [vcA, seval, vV]; with_reducible rfl); (· rfl); (· exact HT); (· first | rfl | (simp only [vcA, seval]; omega)); (· simp only [vcA, seval, vV]; with_reducible rfl)
 by_cases hok : isText ((l.drop i).take n) = true
 ·rw [if_pos hok, List.drop_drop] at hT
  simp only [vcA, seval, vV, hok, w1, hx, hii]
  refine ⟨⟨by omega, by omega⟩, by omega, ?_⟩
  refine loopK_of ⟨(i + n, out ++ (l.drop i).take n), by omega, by simp; omega, hT⟩ (by show l.length - (i + n) < l.length - i; omega) ?_
  apply lw_of <;> simp [leL, lk, sv, Nat.beq, I, S, ES.kill, has, drp, nilT]
 ·have hok' : isText ((l.drop i).take n) = false := by simpa using hok
  rw [if_neg hok, List.drop_drop] at hT
  simp only [vcA, seval, vV, hok', w1]
  refine loopK_of ⟨(i + n, out), by omega, ho, hT⟩ (by show l.length - (i + n) < l.length - i; omega) ?_
  apply lw_of <;> simp [leL, lk, sv, Nat.beq, I, S, ES.kill, has, drp, nilT]
theorem pickI_lt {c n : Int} (hn : 0 < n) (hc : I64 c) : 0 ≤ pickI c n ∧ pickI c n < n := by
 unfold pickI
 obtain ⟨h0, h1⟩ := hc
 split
 ·exact ⟨Int.tmod_nonneg n (by omega), Int.tmod_lt_of_pos _ hn⟩
 ·exact ⟨Int.tmod_nonneg n (by omega), Int.tmod_lt_of_pos _ hn⟩
theorem pickI_ok (g : Sh.Glob) (c n : Int) (hc : I64 c) (hn : n ≠ 0) : SCalls Tryz.prog g 88 [I c, I n] [] (I (pickI c n)) [] := pick_ok g c n hc.1 hc.2 hn

def valOne (k n : Int) (s : List UInt8) : V :=
 if k = 1 then .mk 1 (if n < -1000000000000000 ∨ 1000000000000000 < n then pickI n 1000000000000001 else n) [] []
 else if k = 2 then .mk 2 0 (valText s) []
 else if k = 3 ∨ k = 4 then .mk k (1 + pickI n 100000) [] [] else V.nil
theorem valOne_ok (g : Sh.Glob) (k j n : Int) (s : List UInt8) (hn : I64 n) (hs : s.length ≤ 9223372036854775807) : SCalls Tryz.prog g 45 [I k, .agg [I j, I n, S (str s)]] [] (nv (valOne k n s)) [] := by
 refine call_of0 hmix tf_62 rfl ?_
 have hp := pickI_lt (n := 100000) (by decide) hn
 have w1 : IntKind.i64.wrap (1 + pickI n 100000) = 1 + pickI n 100000 := wrap64 (by omega) (by omega)
 unfold valOne
 by_cases k1 : k = 1
 ·subst k1
  rw [if_pos rfl]
  simp only [vcA, seval, I, S]
  refine ⟨fun h => ?_, fun h => ⟨fun h' => ?_, fun h' => ?_⟩⟩
  ·rw [if_pos (.inl h)]
   (with_reducible apply v_call); (· simp only [vcA, seval, I, S]; with_reducible rfl); (· rfl); (· exact pickI_ok g n 1000000000000001 hn (by decide)); (· first | rfl | (simp only [vcA, seval]; omega)); (· simp only [vcA, seval, I, S]; with_reducible rfl)
   simp only [vcA, seval, I, S]
   rfl
  ·rw [if_pos (.inr h')]
   (with_reducible apply v_call); (· simp only [vcA, seval, I, S]; with_reducible rfl); (· rfl); (· exact pickI_ok g n 1000000000000001 hn (by decide)); (· first | rfl | (simp only [vcA, seval]; omega)); (· simp only [vcA, seval, I, S]; with_reducible rfl)
   simp only [vcA, seval, I, S]
   rfl
  ·rw [if_neg (by omega)]; rfl
 rw [if_neg k1]
 by_cases k2 : k = 2
 ·subst k2
  rw [if_pos rfl]
  simp only [vcA, seval, I, S]
  (with_reducible apply v_call); (· simp only [vcA, seval, I, S]; with_reducible rfl); (· rfl); (· exact valText_ok g s hs); (· first | rfl | (simp only [vcA, seval]; omega)); (· simp only [vcA, seval, I, S]; with_reducible rfl)
  simp only [vcA, seval, I, S]
  rfl
 rw [if_neg k2]
 by_cases k3 : k = 3 ∨ k = 4
 ·rw [if_pos k3]
  rcases k3 with rfl | rfl
  ·simp only [vcA, seval, I, S]
   (with_reducible apply v_call); (· simp only [vcA, seval, I, S]; with_reducible rfl); (· rfl); (· exact pickI_ok g n 100000 hn (by decide)); (· first | rfl | (simp only [vcA, seval]; omega)); (· simp only [vcA, seval, I, S]; with_reducible rfl)
   simp only [vcA, seval, I, S, w1]
   rfl
  ·simp only [vcA, seval, I, S]
   (with_reducible apply v_call); (· simp only [vcA, seval, I, S]; with_reducible rfl); (· rfl); (· exact pickI_ok g n 100000 hn (by decide)); (· first | rfl | (simp only [vcA, seval]; omega)); (· simp only [vcA, seval, I, S]; with_reducible rfl)
   simp only [vcA, seval, I, S, w1]
   rfl
 ·rw [if_neg k3]
  have k3' : ¬ k = 3 := fun h => k3 (.inl h)
  have k4' : ¬ k = 4 := fun h => k3 (.inr h)
  simp only [vcA, seval, I, S, k1, k2, k3', k4']
  rfl
end Go.Proofs.YtmiokadmddjccaaGreatDoor
end

section
namespace Go.Proofs.YtmiokadmddjccaaGreatDoor
open Go
def qs (s : List UInt8) : List UInt8 := s.flatMap fun b => if b.toNat = 34 ∨ b.toNat = 92 then [92, b] else [b]
theorem qs_app (a c : List UInt8) : qs (a ++ c) = qs a ++ qs c := by simp [qs]
theorem qs_len (s : List UInt8) : (qs s).length ≤ 2 * s.length := by
 unfold qs
 induction s with
 | nil => simp
 | cons b s ih => rw [List.flatMap_cons, List.length_append, List.length_cons]; split <;> simp only [List.length_cons, List.length_nil] <;> omega
end Go.Proofs.YtmiokadmddjccaaGreatDoor
end

section
namespace Go.Sh.Cd2
open Go Go.Sh
set_option maxRecDepth 100000
abbrev c_74_0 : SCode := .reg [([], [oD 2 (.mov (.val (.string ⟨#[]⟩)))])] [2]
abbrev c_74_1 : SCode := .reg [([], [oM 4 0, oD 5 (.bin .lss 3 (.tmp 4) (.val (.int .i64 0)))])] [4]
abbrev c_74_2 : SCode := .reg [([], [oM 6 0, oD 7 (.bin .leq 3 (.tmp 6) (.val (.int .i64 (-10))))])] [5, 6]
abbrev c_74_3 : SCode := .reg [([2040, 2041, 2042, 2043, 2056, 2057, 2058, 2059], [oM 8 0, oD 9 (.bin .quo 3 (.tmp 8) (.val (.int .i64 10))), oD 10 (.call 44 0 [.tmp 9]), oM 11 0, oD 12 (.bin .rem 3 (.tmp 11) (.val (.int .i64 10))), oD 13 (.un .neg (.tmp 12)), oD 14 (.call 44 0 [.tmp 13]), oD 15 (.bin .add 9 (.tmp 10) (.tmp 14)), oM 2 15])] [0, 7, 8, 9, 10, 11, 12, 13, 14, 15]
abbrev c_74_4 : SCode := .reg [([2072, 2073, 2074, 2075], [oM 16 0, oD 17 (.un .neg (.tmp 16)), oD 18 (.call 44 0 [.tmp 17]), oD 19 (.bin .add 9 (.val (.string ⟨#[45]⟩)) (.tmp 18)), oM 2 19])] [0, 7, 16, 17, 18, 19]
abbrev c_74_5 : SCode := .reg [([], [oM 20 0, oD 21 (.bin .rem 3 (.tmp 20) (.val (.int .i64 10))), oM 22 0, oD 23 (.bin .rem 3 (.tmp 22) (.val (.int .i64 10))), oD 24 (.bin .add 3 (.tmp 23) (.val (.int .i64 1))), oD 25 (.ssub (.val (.string ⟨#[48, 49, 50, 51, 52, 53, 54, 55, 56, 57]⟩)) (some (.tmp 21)) (some (.tmp 24))), oM 3 25])] [2, 5, 20, 21, 22, 23, 24, 25]
abbrev c_74_6 : SCode := .reg [([], [oM 26 0, oD 27 (.bin .lss 3 (.tmp 26) (.val (.int .i64 10)))])] [26]
abbrev c_74_7 : SCode := .reg [([], [oM 28 3, oM 2 28])] [0, 3, 27, 28]
abbrev c_74_8 : SCode := .reg [([2124, 2125, 2126, 2127], [oM 29 0, oD 30 (.bin .quo 3 (.tmp 29) (.val (.int .i64 10))), oD 31 (.call 44 0 [.tmp 30]), oM 32 3, oD 33 (.bin .add 9 (.tmp 31) (.tmp 32)), oM 2 33])] [0, 3, 27, 29, 30, 31, 32, 33]
abbrev F_74 : SFunc := ⟨34, (.seq c_74_0 (.seq (.seq c_74_1 (.cond (.tmp 5) (.seq (.seq c_74_2 (.cond (.tmp 7) (.seq c_74_3 .ret) .skip)) (.seq c_74_4 .ret)) .skip)) (.seq c_74_5 (.seq (.seq c_74_6 (.cond (.tmp 27) (.seq c_74_7 .ret) .skip)) (.seq c_74_8 .ret))))), [.tmp 2], false⟩
theorem tf_74 : transFunc Go.Proofs.Tryz.prog 44 (hintT [(10, 0), (14, 0), (18, 0), (31, 0)]) (fpT []) (killT (klN 0 F_74.code.kl)) false = some F_74 := by kernel_rfl
abbrev c_77_0 : SCode := .reg [([], [oD 2 (.mov (.val (.string ⟨#[]⟩)))])] [2]
abbrev c_77_1 : SCode := .reg [([], [oD 3 (.mov (.val (.string ⟨#[34]⟩)))])] []
abbrev c_77_2 : SCode := .reg [([], [oD 4 (.mov (.val (.int .i64 0)))])] []
abbrev c_77_3 : SCode := .reg [([], [oM 5 4, oM 6 0, oD 7 (.slen (.tmp 6)), oD 8 (.bin .lss 3 (.tmp 5) (.tmp 7))])] [5, 6, 7]
abbrev c_77_4 : SCode := .reg [([], [oM 11 0, oM 12 4, oD 13 (.sidx (.tmp 11) (.tmp 12)), oD 14 (.bin .eql 5 (.tmp 13) (.val (.int .u8 34))), oM 15 14, oH 16 15 false 0, oH 17 15 false 4, oG 18 15 false (.sidx (.tmp 16) (.tmp 17)), oG 19 15 false (.bin .eql 5 (.tmp 18) (.val (.int .u8 92))), oQ 20 15 19 true])] [8, 11, 12, 13, 14, 15, 16, 17, 18, 19]
abbrev c_77_5 : SCode := .reg [([], [oM 21 3, oD 22 (.bin .add 9 (.tmp 21) (.val (.string ⟨#[92]⟩))), oM 3 22])] [20, 21, 22]
abbrev c_77_6 : SCode := .reg [([], [oM 23 3, oM 24 0, oM 25 4, oM 26 4, oD 27 (.bin .add 3 (.tmp 26) (.val (.int .i64 1))), oD 28 (.ssub (.tmp 24) (some (.tmp 25)) (some (.tmp 27))), oD 29 (.bin .add 9 (.tmp 23) (.tmp 28)), oM 3 29])] [20, 23, 24, 25, 26, 27, 28, 29]
abbrev c_77_7 : SCode := .reg [([], [oM 9 4, oD 10 (.bin .add 3 (.tmp 9) (.val (.int .i64 1))), oM 4 10])] [9, 10]
abbrev c_77_8 : SCode := (.seq (.seq c_77_3 (.cond (.tmp 8) .skip (.exit 0))) (.seq (.block 1 (.seq (.seq c_77_4 (.cond (.tmp 20) c_77_5 .skip)) c_77_6)) c_77_7))
abbrev c_77_9 : SCode := .reg [([], [oM 30 3, oD 31 (.bin .add 9 (.tmp 30) (.val (.string ⟨#[34]⟩))), oM 2 31])] [0, 3, 4, 30, 31]
abbrev F_77 : SFunc := ⟨32, (.seq c_77_0 (.seq c_77_1 (.seq (.seq c_77_2 (.block 0 (.loop c_77_8))) (.seq c_77_9 .ret)))), [.tmp 2], false⟩
theorem tf_77 : transFunc Go.Proofs.Tryz.prog 46 (hintT []) (fpT []) (killT [(0, [2]), (3, [5, 6, 7]), (5, [8, 11, 12, 13, 14, 15, 16, 17, 18, 19]), (6, [20, 21, 22]), (7, [20, 23, 24, 25, 26, 27, 28, 29]), (4, [9, 10]), (8, [0, 3, 4, 30, 31])]) false = some F_77 := by kernel_rfl
def funcs : Nat → Option SFunc
 | _ => none
end Go.Sh.Cd2
end

section
namespace Go.Proofs.YtmiokadmddjccaaGreatDoor
open Go Go.RowKit Go.Mor Go.Sh Go.Sh.Cd1 Go.Sh.Cd2
set_option maxRecDepth 100000
set_option maxHeartbeats 4000000
theorem digs : (⟨#[48, 49, 50, 51, 52, 53, 54, 55, 56, 57]⟩ : ByteArray) = str [48, 49, 50, 51, 52, 53, 54, 55, 56, 57] := rfl
theorem dig_at : ∀ k, k < 10 → List.take (k + 1 - k) (List.drop k [48, 49, 50, 51, 52, 53, 54, 55, 56, 57]) = [UInt8.ofNat (48 + k)] := by decide
theorem q45 : (⟨#[45]⟩ : ByteArray) = str [45] := rfl
theorem decDigits_step (u : Nat) (h : ¬ u < 10) : Lib.decDigits u = Lib.decDigits (u / 10) ++ [UInt8.ofNat (48 + u % 10)] := by
 conv => lhs; rw [Lib.decDigits]
 rw [dif_neg h]
theorem refDigitsN_ok (g : Sh.Glob) : ∀ (f u : Nat), u ≤ f → u ≤ 1000000000000000 → SCalls Tryz.prog g 44 [I (u : Int)] [] (S (str (Lib.decDigits u))) []
 | f, u, hf, hu => by
  have e1 : (u : Int).tmod 10 = ((u % 10 : Nat) : Int) := (Int.ofNat_tmod _ _).symm
  have w1 : IntKind.i64.wrap (((u % 10 : Nat) : Int) + 1) = ((u % 10 + 1 : Nat) : Int) := by rw [wrap64 (by omega) (by omega)]; omega
  have d0 : ¬ (u : Int) < 0 := by omega
  have dk := dig_at (u % 10) (by omega)
  refine call_of0 hmix tf_74 rfl ?_
  by_cases h10 : u < 10
  ·have d1 : (u : Int) < 10 := by omega
   simp only [vcA, seval, vV, d0, e1, w1, digs, d1, dk]
   refine ⟨⟨by omega, by omega⟩, ?_⟩
   rw [Lib.decDigits_one h10, Nat.mod_eq_of_lt h10]
  ·have d1 : ¬ (u : Int) < 10 := by omega
   have w2 : IntKind.i64.wrap ((u : Int).tdiv 10) = ((u / 10 : Nat) : Int) := by
    rw [show (u : Int).tdiv 10 = ((u / 10 : Nat) : Int) from (Int.ofNat_tdiv _ _).symm, wrap64 (by omega) (by omega)]
   obtain ⟨f', rfl⟩ : ∃ f', f = f' + 1 := ⟨f - 1, by omega⟩
   have HD := refDigitsN_ok g f' (u / 10) (by omega) (by omega)
   have hl := Lib.itoa_length_le (u / 10 : Nat) (by omega) (by omega)
   rw [Lib.itoa_nonneg] at hl
   rw [decDigits_step u h10]
   simp only [vcA, seval, vV, d0, e1, w1, digs, d1, dk, w2]
   refine ⟨⟨by omega, by omega⟩, ?_⟩
   (with_reducible apply v_call); (· simp only [vcA, seval, vV]; with_reducible rfl); (· rfl); (· exact HD); (· first | rfl | (simp only [vcA, seval]; omega)); (· simp only [vcA, seval, vV]; with_reducible rfl)
   simp only [vcA, seval, vV]
   omega
theorem refDigits_ok (g : Sh.Glob) (n : Int) (h1 : -1000000000000000 ≤ n) (h2 : n ≤ 1000000000000000) : SCalls Tryz.prog g 44 [I n] [] (S (str (Lib.itoa n))) [] := by
 by_cases hneg : n < 0
 ·-- n = -u
  have key : ∀ (f u : Nat), u ≤ f → 1 ≤ u → u ≤ 1000000000000000 → SCalls Tryz.prog g 44 [I (-(u : Int))] [] (S (str (45 :: Lib.decDigits u))) [] := by
   intro f
   induction f with
   | zero => intro u h1 h2; omega
   | succ f ih =>
    intro u hf hu1 hu
    refine call_of0 hmix tf_74 rfl ?_
    have d0 : (-(u : Int)) < 0 := by omega
    by_cases h10 : u < 10
    ·have d1 : ¬ (-(u : Int)) ≤ -10 := by omega
     have HD := refDigitsN_ok g u u (Nat.le_refl _) hu
     have w0 : IntKind.i64.wrap (0 - -(u : Int)) = (u : Int) := by rw [wrap64 (by omega) (by omega)]; omega
     have hl := Lib.itoa_length_le (u : Nat) (by omega) (by omega)
     rw [Lib.itoa_nonneg] at hl
     simp only [vcA, seval, vV, d0, d1, w0]
     (with_reducible apply v_call); (· simp only [vcA, seval, vV]; with_reducible rfl); (· rfl); (· exact HD); (· first | rfl | (simp only [vcA, seval]; omega)); (· simp only [vcA, seval, vV]; with_reducible rfl)
     simp only [vcA, seval, vV, q45]
     omega
    ·have d1 : (-(u : Int)) ≤ -10 := by omega
     have e1 : (-(u : Int)).tmod 10 = -((u % 10 : Nat) : Int) := by rw [Int.neg_tmod]; congr 1
     have e2 : (-(u : Int)).tdiv 10 = -((u / 10 : Nat) : Int) := by rw [Int.neg_tdiv]; congr 1
     have w1 : IntKind.i64.wrap (-((u / 10 : Nat) : Int)) = -((u / 10 : Nat) : Int) := wrap64 (by omega) (by omega)
     have w2 : IntKind.i64.wrap (0 - -((u % 10 : Nat) : Int)) = ((u % 10 : Nat) : Int) := by rw [wrap64 (by omega) (by omega)]; omega
     have HD := ih (u / 10) (by omega) (by omega) (by omega)
     have HE := refDigitsN_ok g (u % 10) (u % 10) (Nat.le_refl _) (by omega)
     rw [Lib.decDigits_one (show u % 10 < 10 by omega)] at HE
     have hl := Lib.itoa_length_le (u / 10 : Nat) (by omega) (by omega)
     rw [Lib.itoa_nonneg] at hl
     rw [decDigits_step u h10]
     simp only [vcA, seval, vV, d0, d1, e1, e2, w1]
     (with_reducible apply v_call); (· simp only [vcA, seval, vV]; with_reducible rfl); (· rfl); (· exact HD); (· first | rfl | (simp only [vcA, seval]; omega)); (· simp only [vcA, seval, vV]; with_reducible rfl)
     simp only [vcA, seval, vV, e1, w2]
     (with_reducible apply v_call); (· simp only [vcA, seval, vV]; with_reducible rfl); (· rfl); (· exact HE); (· first | rfl | (simp only [vcA, seval]; omega)); (· simp only [vcA, seval, vV]; with_reducible rfl)
     simp only [vcA, seval, vV]
     omega
  obtain ⟨u, rfl⟩ : ∃ u : Nat, n = -(u : Int) := ⟨n.natAbs, by omega⟩
  rw [Lib.itoa_neg u (by omega)]
  exact key u u (Nat.le_refl _) (by omega) (by omega)
 ·obtain ⟨u, rfl⟩ : ∃ u : Nat, n = (u : Int) := ⟨n.toNat, by omega⟩
  rw [Lib.itoa_nonneg]
  exact refDigitsN_ok g u u (Nat.le_refl _) (by omega)
theorem q34'' : (⟨#[34]⟩ : ByteArray) = str [34] := rfl
theorem q92 : (⟨#[92]⟩ : ByteArray) = str [92] := rfl
theorem refQuoted_ok (g : Sh.Glob) (l : List UInt8) (hl : l.length ≤ 10000) : SCalls Tryz.prog g 46 [S (str l)] [] (S (str (34 :: (qs l ++ [34])))) [] := by
 refine call_of0 hmix tf_77 rfl ?_
 simp only [vcA, seval, vV]
 refine v_loop (σ := {i : Nat // i ≤ l.length}) (fun i => ⟨[(0, S (str l)), (3, S (str (34 :: qs (l.take i.1)))), (4, I (i.1 : Int))], [], [], []⟩) (fun i => l.length - i.1) ⟨0, Nat.zero_le _⟩ ?_ ?_
 ·rw [List.take_zero, show (34 :: qs []) = [34] from rfl, ← q34'']; apply lw_of <;> simp [leL, lk, sv, Nat.beq, I, S, ES.kill, has, drp, nilT]
 rintro ⟨i, hi⟩
 have hq := qs_len (l.take i)
 rw [List.length_take] at hq
 by_cases hlt : i < l.length
 ·have d1 : (i : Int) < (l.length : Int) := by omega
  obtain ⟨c, ec⟩ : ∃ c, l[i]? = some c := ⟨_, List.getElem?_eq_getElem hlt⟩
  have w1 : IntKind.i64.wrap ((i : Int) + 1) = ((i + 1 : Nat) : Int) := by rw [wrap64 (by omega) (by omega)]; omega
  have tk : List.take (i + 1 - i) (List.drop i l) = [c] := by
   rw [show i + 1 - i = 1 by omega, List.drop_eq_getElem_cons hlt]
   rw [List.getElem?_eq_getElem hlt] at ec
   simp [Option.some.inj ec]
  have tk1 := List.take_add_one (l := l) (i := i)
  rw [ec] at tk1
  have g1 : i ≤ i + 1 := by omega
  have g2 : i + 1 ≤ l.length := by omega
  by_cases hc : c.toNat = 34 ∨ c.toNat = 92
  ·have hqs : qs (l.take (i + 1)) = qs (l.take i) ++ [92, c] := by
    rw [tk1, qs_app]; congr 1; show List.flatMap _ [c] = _; simp [hc]
   have fin : ∀ s : ES, (⟨[(0, S (str l)), (3, S (str (34 :: (qs (l.take i) ++ [92] ++ [c])))), (4, I ((i + 1 : Nat) : Int))], [], [], []⟩ : ES).Lw s → (⟨[(0, S (str l)), (3, S (str (34 :: qs (l.take (i + 1))))), (4, I ((i + 1 : Nat) : Int))], [], [], []⟩ : ES).Lw s := by
    intro s h; rw [hqs, show qs (l.take i) ++ [92, c] = qs (l.take i) ++ [92] ++ [c] by simp]; exact h
   rcases hc with c34 | c92
   ·have d2 : (c.toNat : Int) = 34 := by omega
    simp only [vcA, seval, vV, d1, ec, d2, q92, w1, tk, g1, g2]
    refine ⟨by omega, by omega, loopK_of ⟨i + 1, g2⟩ (by show l.length - (i + 1) < l.length - i; omega) (fin _ ?_)⟩
    apply lw_of <;> simp [leL, lk, sv, Nat.beq, I, S, ES.kill, has, drp, nilT]
   ·have d2 : ¬ (c.toNat : Int) = 34 := by omega
    have d3 : (c.toNat : Int) = 92 := by omega
    simp only [vcA, seval, vV, d1, ec, d2, d3, q92, w1, tk, g1, g2]
    refine ⟨by omega, by omega, loopK_of ⟨i + 1, g2⟩ (by show l.length - (i + 1) < l.length - i; omega) (fin _ ?_)⟩
    apply lw_of <;> simp [leL, lk, sv, Nat.beq, I, S, ES.kill, has, drp, nilT]
  ·have d2 : ¬ (c.toNat : Int) = 34 := by omega
   have d3 : ¬ (c.toNat : Int) = 92 := by omega
   have hqs : qs (l.take (i + 1)) = qs (l.take i) ++ [c] := by
    rw [tk1, qs_app]; congr 1; show List.flatMap _ [c] = _; simp [hc]
   simp only [vcA, seval, vV, d1, ec, d2, d3, w1, tk, g1, g2]
   refine ⟨by omega, loopK_of ⟨i + 1, g2⟩ (by show l.length - (i + 1) < l.length - i; omega) ?_⟩
   simp only [hqs]
   apply lw_of <;> simp [leL, lk, sv, Nat.beq, I, S, ES.kill, has, drp, nilT]
 ·have d1 : ¬ (i : Int) < (l.length : Int) := by omega
  obtain rfl : i = l.length := by omega
  rw [List.take_length]
  simp only [vcA, seval, vV, d1, q34'']
  have := qs_len l
  omega
end Go.Proofs.YtmiokadmddjccaaGreatDoor
end

section
namespace Go.Proofs.YtmiokadmddjccaaGreatDoor
open Go Go.RowKit Go.Mor
theorem byte_lt (l : List UInt8) (i : Nat) : (l.getD i 0).toNat < 256 := (l.getD i 0).toNat_lt
theorem signL_decode (b : UInt8) (t : List UInt8) : signL (b :: t) = if (Lib.decodeL (b :: t)).1 = 65533 ∧ (Lib.decodeL (b :: t)).2 = 1 then 0 else (Lib.decodeL (b :: t)).2 := by
 rw [Lib.decodeL_N, signL, if_neg (by simp)]
 exact signN_decode _ _ _ _ _ (byte_lt _ _) (byte_lt _ _) (byte_lt _ _) (byte_lt _ _)
theorem rune_lo (n b0 b1 b2 b3 : Nat) : (b0 < 128 → (Lib.decodeN n b0 b1 b2 b3).1 = b0) ∧ (128 ≤ b0 → 128 ≤ (Lib.decodeN n b0 b1 b2 b3).1) := by
 unfold Lib.decodeN
 refine ⟨fun h => by rw [if_pos h], fun h => ?_⟩
 rw [if_neg (by omega)]
 (repeat' split) <;> simp only <;> omega
theorem plainR_lead (b : UInt8) (t : List UInt8) : plainR (Lib.decodeL (b :: t)).1 = (!decide (b.toNat < 32) && !(b.toNat == 127)) := by
 rw [Lib.decodeL_N]
 have h := rune_lo (b :: t).length ((b :: t).getD 0 0).toNat ((b :: t).getD 1 0).toNat ((b :: t).getD 2 0).toNat ((b :: t).getD 3 0).toNat
 have e : (b :: t).getD 0 0 = b := rfl
 rw [e] at h ⊢
 generalize (Lib.decodeN _ _ _ _ _).1 = r at h ⊢
 unfold plainR
 rw [Bool.eq_iff_iff]
 rcases Nat.lt_or_ge b.toNat 128 with hb | hb
 ·rw [h.1 hb]; simp
 ·have := h.2 hb
  simp; omega
theorem isText_eq : ∀ (n : Nat) (l : List UInt8), l.length ≤ n → isText l = (Lib.validD l && plainD l) := by
 intro n
 induction n with
 | zero => intro l hl; obtain rfl := List.eq_nil_of_length_eq_zero (by omega : l.length = 0); rfl
 | succ n ih =>
  intro l hl
  cases l with
  | nil => rfl
  | cons b t =>
   rw [isText_cons, Lib.validD_step _ (by simp), plainD_step _ (by simp), plainR_lead, signL_decode]
   have hw := Lib.decodeL_width (b :: t)
   split
   ·simp
   ·rw [ih _ (by simp at hl ⊢; omega)]
    have h0 : ((Lib.decodeL (b :: t)).2 == 0) = false := by simp; omega
    rw [h0]
    generalize Lib.validD _ = p
    generalize plainD _ = q
    cases p <;> cases q <;> simp
theorem signL_app (a c : List UInt8) (h : signL a ≠ 0) : signL (a ++ c) = signL a := by
 have hne : a ≠ [] := by rintro rfl; exact h rfl
 have hl := (signL_le a).1
 unfold signL at *
 rw [if_neg hne] at h hl ⊢
 rw [if_neg (by simp [hne])]
 have g : ∀ i, i < a.length → (a ++ c).getD i 0 = a.getD i 0 := fun i hi => by
  simp only [List.getD_eq_getElem?_getD]; rw [List.getElem?_append_left hi]
 have h0 : 0 < a.length := List.length_pos_iff.2 hne
 rw [g 0 h0]
 simp only [List.length_append]
 generalize hB0 : (a.getD 0 0).toNat = B0 at h hl ⊢
 have g1 : 1 < a.length → ((a ++ c).getD 1 0).toNat = (a.getD 1 0).toNat := fun h => by rw [g 1 h]
 have g2 : 2 < a.length → ((a ++ c).getD 2 0).toNat = (a.getD 2 0).toNat := fun h => by rw [g 2 h]
 have g3 : 3 < a.length → ((a ++ c).getD 3 0).toNat = (a.getD 3 0).toNat := fun h => by rw [g 3 h]
 generalize ((a ++ c).getD 1 0).toNat = C1 at g1 ⊢
 generalize ((a ++ c).getD 2 0).toNat = C2 at g2 ⊢
 generalize ((a ++ c).getD 3 0).toNat = C3 at g3 ⊢
 generalize (a.getD 1 0).toNat = D1 at g1 h hl ⊢
 generalize (a.getD 2 0).toNat = D2 at g2 h hl ⊢
 generalize (a.getD 3 0).toNat = D3 at g3 h hl ⊢
 unfold signN at *
 by_cases c1 : B0 < 128
 ·rw [if_pos c1, if_pos c1]
 rw [if_neg c1] at h hl ⊢
 rw [if_neg c1]
 by_cases c2 : 194 ≤ B0 ∧ B0 ≤ 223
 ·rw [if_pos c2] at h hl ⊢
  rw [if_pos c2]
  split at h
  ·contradiction
  ·rw [if_neg (by omega), if_neg (by assumption)]
 rw [if_neg c2] at h hl ⊢
 rw [if_neg c2]
 by_cases c3 : 224 ≤ B0 ∧ B0 ≤ 239
 ·rw [if_pos c3] at h hl ⊢
  rw [if_pos c3]
  generalize (if B0 = 224 then 160 else 128) = lo at *
  generalize (if B0 = 237 then 159 else 191) = hi at *
  split at h
  ·contradiction
  ·rw [if_neg (by omega), if_neg (by assumption)]
 rw [if_neg c3] at h hl ⊢
 rw [if_neg c3]
 by_cases c4 : 240 ≤ B0 ∧ B0 ≤ 244
 ·rw [if_pos c4] at h hl ⊢
  rw [if_pos c4]
  generalize (if B0 = 240 then 144 else 128) = lo at *
  generalize (if B0 = 244 then 143 else 191) = hi at *
  split at h
  ·contradiction
  ·rw [if_neg (by omega), if_neg (by assumption)]
 rw [if_neg c4] at h
 contradiction
theorem isText_app : ∀ (n : Nat) (a c : List UInt8), a.length ≤ n → isText a = true → isText c = true → isText (a ++ c) = true := by
 intro n
 induction n with
 | zero => intro a c ha _ hc; obtain rfl := List.eq_nil_of_length_eq_zero (by omega : a.length = 0); exact hc
 | succ n ih =>
  intro a c hl ha hc
  cases a with
  | nil => exact hc
  | cons b t =>
   rw [isText_cons] at ha
   simp only [Bool.and_eq_true, Bool.not_eq_true', beq_eq_false_iff_ne] at ha
   obtain ⟨⟨⟨h1, h2⟩, h3⟩, h4⟩ := ha
   have hs := signL_app (b :: t) c h1
   have hle := (signL_le (b :: t)).1
   rw [List.cons_append] at hs
   rw [List.cons_append, isText_cons, hs, ← List.cons_append, List.drop_append_of_le_length hle]
   rw [ih _ c (by simp at hl ⊢; omega) h4 hc]
   simp [h1, h2, h3]
theorem vtN_right : ∀ (n : Nat) (l out : List UInt8), isText out = true → out.length ≤ 20 → isText (vtN n l out) = true ∧ (vtN n l out).length ≤ 20 := by
 intro n
 induction n with
 | zero => intro l out h1 h2; exact ⟨h1, h2⟩
 | succ n ih =>
  intro l out h1 h2
  simp only [vtN]
  split
  ·exact ⟨h1, h2⟩
  ·rename_i hn
   refine ih _ _ ?_ ?_
   ·split
    ·rename_i ht; exact isText_app _ _ _ (Nat.le_refl _) h1 ht
    ·exact h1
   ·split
    ·have hl : 0 < l.length := List.length_pos_iff.2 (fun h => hn (.inl h))
     have hs := stepN_le hl
     have : ¬ 17 ≤ out.length := fun h => hn (.inr h)
     simp only [List.length_append, List.length_take]; omega
    ·exact h2
theorem valText_right (l : List UInt8) : (valText l).length ≤ 20 ∧ isText (valText l) = true := (vtN_right _ l [] rfl (by simp)).symm
theorem valText_rt (l : List UInt8) : rightText (valText l) = true := by
 obtain ⟨h1, h2⟩ := valText_right l
 rw [isText_eq _ _ (Nat.le_refl _)] at h2
 unfold rightText
 simp only [Bool.and_eq_true] at h2 ⊢
 exact ⟨by simp; omega, h2⟩
end Go.Proofs.YtmiokadmddjccaaGreatDoor
end

section
namespace Go.Proofs.YtmiokadmddjccaaGreatDoor
open Go Go.RowKit Go.Mor Go.Sh Go.Sh.Cd1 Go.Sh.Cd6
set_option maxRecDepth 100000
set_option maxHeartbeats 8000000
theorem pick6_ok (g : Sh.Glob) (c n : Int) (hc : I64 c) (hn : n ≠ 0) : SCalls Tryz.prog g 38 [I c, I n] [] (I (pickI c n)) [] := by
 obtain ⟨h0, h1⟩ := hc
 refine call_of0 hmix tf_69 rfl ?_
 unfold pickI
 by_cases hneg : c < 0
 ·rw [if_pos hneg]
  have w1 : IntKind.i64.wrap (c + 1) = c + 1 := wrap64 (by omega) (by omega)
  have w2 : IntKind.i64.wrap (0 - (c + 1)) = -(c + 1) := by rw [wrap64 (by omega) (by omega)]; omega
  simp only [vcA, seval, vV, hneg, hn, w1, w2]
 ·rw [if_neg hneg]
  simp only [vcA, seval, vV, hneg, hn]
theorem qs_eq (s : List UInt8) : qs s = qesc s := by
 unfold qs qesc
 congr 1
 funext b
 have h1 : b.toNat = 34 ↔ b = 34 := ⟨fun h => UInt8.toNat.inj h, fun h => by rw [h]; rfl⟩
 have h2 : b.toNat = 92 ↔ b = 92 := ⟨fun h => UInt8.toNat.inj h, fun h => by rw [h]; rfl⟩
 simp only [h1, h2]
theorem quoted6_ok (g : Sh.Glob) (l : List UInt8) (hl : l.length ≤ 10000) : SCalls Tryz.prog g 46 [S (str l)] [] (S (str (quot l))) [] := by
 have := refQuoted_ok g l hl
 rw [qs_eq] at this
 exact this
theorem valOne_num {n : Int} (hn : I64 n) : ∃ N, valOne 1 n [] = .mk 1 N [] [] ∧ Rg N := by
 unfold valOne
 rw [if_pos rfl]
 refine ⟨_, rfl, ?_⟩
 split
 ·have := pickI_lt (n := 1000000000000001) (by decide) hn
  exact ⟨by omega, by omega⟩
 ·exact ⟨by omega, by omega⟩
theorem evalIf_ok (m : Nat) (a b : Int) (s t : List UInt8) (ha : I64 a) (hb : I64 b) (hs : s.length ≤ 9223372036854775807) (ht : t.length ≤ 9223372036854775807) :
  SCalls Tryz.prog (glE m) 8 [I a, I b, S (str s), S (str t)] [] (B true) [] := by
 have HA := awake_ok m
 have HO := valOne_ok (glE m) 1 0 a [] ha (by simp)
 obtain ⟨x, hx, rx⟩ := valOne_num ha
 rw [hx] at HO
 have HP := pick6_ok (glE m) b 100 hb (by decide)
 have hy := pickI_lt (n := 100) (by decide) hb
 generalize pickI b 100 = y at *
 have HD := refDigits_ok (glE m) y (by omega) (by omega)
 have hw := itoa_len (n := y) ⟨by omega, by omega⟩
 have HV := valText_ok (glE m) s hs
 have HV' := valText_ok (glE m) t ht
 obtain ⟨lu, _⟩ := valText_right s
 obtain ⟨lv, _⟩ := valText_right t
 have ru := valText_rt s
 have rv := valText_rt t
 generalize valText s = u at *
 generalize valText t = v at *
 have HQ := quoted6_ok (glE m) v (by omega)
 have hq := quot_len v
 have N1 := num6_ok (glE m) 1
 have hy' : 0 ≤ y ∧ y ≤ 1000000000000000 := ⟨by omega, by omega⟩
 have H1 := isL_ok m (pa_if1 hy' hw) rx ru (by kernel_rfl) (.mk 1 1 [] []) (if_one rx hy) rfl
 have H2 := isL_ok m (pa_if2 hy' hw) rx ru (by kernel_rfl) (.mk 1 1 [] []) (if_two rx hy) rfl
 have H3 := isL_ok m (pa_if3 hy' hw) rx ru (by kernel_rfl) (.mk 1 1 [] []) if_three rfl
 have H4 := isL_ok m (pa_if4 rv (by omega)) rx ru (by kernel_rfl) (.mk 1 1 [] []) if_four rfl
 have H5 := isL_ok m (pa_if5 rv (by omega)) rx ru (by kernel_rfl) (.mk 1 1 [] []) if_five rfl
 have H6 := isL_ok m (pa_if6 rv (by omega)) rx ru (by kernel_rfl) (.mk 1 1 [] []) if_six rfl
 generalize Lib.itoa y = w at *
 generalize quot v = q at *
 simp only [List.cons_append, List.nil_append] at H1 H2 H3 H4 H5 H6
 unfold B nv at *
 refine call_of0 hmix tf_65 rfl ?_
 simp only [vcA, seval, vV]
 (with_reducible apply v_call); (· simp only [vcA, seval, vV]; with_reducible rfl); (· rfl); (· exact HA); (· first | rfl | (simp only [vcA, seval]; omega)); (· simp only [vcA, seval, vV]; with_reducible rfl)
 simp only [vcA, seval, vV]
 (with_reducible apply v_call); (· simp only [vcA, seval, vV]; with_reducible rfl); (· rfl); (· exact HO); (· first | rfl | (simp only [vcA, seval]; omega)); (· simp only [vcA, seval, vV]; with_reducible rfl)
 simp only [vcA, seval, vV]
 (with_reducible apply v_call); (· simp only [vcA, seval, vV]; with_reducible rfl); (· rfl); (· exact HP); (· first | rfl | (simp only [vcA, seval]; omega)); (· simp only [vcA, seval, vV]; with_reducible rfl)
 simp only [vcA, seval, vV]
 (with_reducible apply v_call); (· simp only [vcA, seval, vV]; with_reducible rfl); (· rfl); (· exact HD); (· first | rfl | (simp only [vcA, seval]; omega)); (· simp only [vcA, seval, vV]; with_reducible rfl)
 simp only [vcA, seval, vV]
 (with_reducible apply v_call); (· simp only [vcA, seval, vV]; with_reducible rfl); (· rfl); (· exact HV); (· first | rfl | (simp only [vcA, seval]; omega)); (· simp only [vcA, seval, vV]; with_reducible rfl)
 simp only [vcA, seval, vV]
 (with_reducible apply v_call); (· simp only [vcA, seval, vV]; with_reducible rfl); (· rfl); (· exact HV'); (· first | rfl | (simp only [vcA, seval]; omega)); (· simp only [vcA, seval, vV]; with_reducible rfl)
 (with_reducible apply v_call); (· simp only [vcA, seval, vV]; with_reducible rfl); (· rfl); (· exact HQ); (· first | rfl | (simp only [vcA, seval]; omega)); (· simp only [vcA, seval, vV]; with_reducible rfl)
 have q0 : (⟨#[109, 105, 110, 40, 110, 44, 32]⟩ : ByteArray) = str [109, 105, 110, 40, 110, 44, 32] := rfl
 have q1 : (⟨#[41, 32, 61, 32, 105, 102, 40, 110, 32, 60, 32]⟩ : ByteArray) = str [41, 32, 61, 32, 105, 102, 40, 110, 32, 60, 32] := rfl
 have q2 : (⟨#[44, 32, 110, 44, 32]⟩ : ByteArray) = str [44, 32, 110, 44, 32] := rfl
 have q3 : (⟨#[41]⟩ : ByteArray) = str [41] := rfl
 have q4 : (⟨#[109, 97, 120, 40, 110, 44, 32]⟩ : ByteArray) = str [109, 97, 120, 40, 110, 44, 32] := rfl
 have q5 : (⟨#[41, 32, 43, 32, 109, 105, 110, 40, 110, 44, 32]⟩ : ByteArray) = str [41, 32, 43, 32, 109, 105, 110, 40, 110, 44, 32] := rfl
 have q6 : (⟨#[41, 32, 61, 32, 110, 32, 43, 32]⟩ : ByteArray) = str [41, 32, 61, 32, 110, 32, 43, 32] := rfl
 have q7 : (⟨#[40, 110, 32, 60, 32]⟩ : ByteArray) = str [40, 110, 32, 60, 32] := rfl
 have q8 : (⟨#[41, 32, 43, 32, 40, 110, 32, 61, 32]⟩ : ByteArray) = str [41, 32, 43, 32, 40, 110, 32, 61, 32] := rfl
 have q9 : (⟨#[41, 32, 43, 32, 40, 110, 32, 62, 32]⟩ : ByteArray) = str [41, 32, 43, 32, 40, 110, 32, 62, 32] := rfl
 have q10 : (⟨#[40, 116, 32, 60, 32]⟩ : ByteArray) = str [40, 116, 32, 60, 32] := rfl
 have q11 : (⟨#[41, 32, 43, 32, 40, 116, 32, 61, 32]⟩ : ByteArray) = str [41, 32, 43, 32, 40, 116, 32, 61, 32] := rfl
 have q12 : (⟨#[41, 32, 43, 32, 40, 116, 32, 62, 32]⟩ : ByteArray) = str [41, 32, 43, 32, 40, 116, 32, 62, 32] := rfl
 have q13 : (⟨#[40, 116, 32, 60, 61, 32]⟩ : ByteArray) = str [40, 116, 32, 60, 61, 32] := rfl
 have q14 : (⟨#[41, 32, 43, 32, 40, 116, 32, 62, 61, 32]⟩ : ByteArray) = str [41, 32, 43, 32, 40, 116, 32, 62, 61, 32] := rfl
 have q15 : (⟨#[41, 32, 45, 32, 40, 116, 32, 61, 32]⟩ : ByteArray) = str [41, 32, 45, 32, 40, 116, 32, 61, 32] := rfl
 have q16 : (⟨#[105, 102, 40, 116, 32, 60, 62, 32]⟩ : ByteArray) = str [105, 102, 40, 116, 32, 60, 62, 32] := rfl
 have q17 : (⟨#[44, 32, 49, 44, 32, 48, 41, 32, 61, 32, 40, 116, 32, 60, 62, 32]⟩ : ByteArray) = str [44, 32, 49, 44, 32, 48, 41, 32, 61, 32, 40, 116, 32, 60, 62, 32] := rfl
 simp only [vcA, seval, vV, q0, q1, q2, q3]
 refine ⟨by omega, by omega, by omega, by omega, by omega, by omega, ?_⟩
 (with_reducible apply v_call); (· simp only [vcA, seval, vV]; with_reducible rfl); (· rfl); (· exact N1); (· first | rfl | (simp only [vcA, seval]; omega)); (· simp only [vcA, seval, vV]; with_reducible rfl)
 (with_reducible apply v_call); (· simp only [vcA, seval, vV]; with_reducible rfl); (· rfl); (· exact H1); (· first | rfl | (simp only [vcA, seval]; omega)); (· simp only [vcA, seval, vV]; with_reducible rfl)
 simp only [vcA, seval, vV, q4, q5, q6]
 refine ⟨by omega, by omega, by omega, by omega, by omega, ?_⟩
 (with_reducible apply v_call); (· simp only [vcA, seval, vV]; with_reducible rfl); (· rfl); (· exact N1); (· first | rfl | (simp only [vcA, seval]; omega)); (· simp only [vcA, seval, vV]; with_reducible rfl)
 (with_reducible apply v_call); (· simp only [vcA, seval, vV]; with_reducible rfl); (· rfl); (· exact H2); (· first | rfl | (simp only [vcA, seval]; omega)); (· simp only [vcA, seval, vV]; with_reducible rfl)
 simp only [vcA, seval, vV, q7, q8, q9, q3]
 refine ⟨by omega, by omega, by omega, by omega, by omega, by omega, ?_⟩
 (with_reducible apply v_call); (· simp only [vcA, seval, vV]; with_reducible rfl); (· rfl); (· exact N1); (· first | rfl | (simp only [vcA, seval]; omega)); (· simp only [vcA, seval, vV]; with_reducible rfl)
 (with_reducible apply v_call); (· simp only [vcA, seval, vV]; with_reducible rfl); (· rfl); (· exact H3); (· first | rfl | (simp only [vcA, seval]; omega)); (· simp only [vcA, seval, vV]; with_reducible rfl)
 simp only [vcA, seval, vV, q10, q11, q12, q3]
 refine ⟨by omega, by omega, by omega, by omega, by omega, by omega, ?_⟩
 (with_reducible apply v_call); (· simp only [vcA, seval, vV]; with_reducible rfl); (· rfl); (· exact N1); (· first | rfl | (simp only [vcA, seval]; omega)); (· simp only [vcA, seval, vV]; with_reducible rfl)
 (with_reducible apply v_call); (· simp only [vcA, seval, vV]; with_reducible rfl); (· rfl); (· exact H4); (· first | rfl | (simp only [vcA, seval]; omega)); (· simp only [vcA, seval, vV]; with_reducible rfl)
 simp only [vcA, seval, vV, q13, q14, q15, q3]
 refine ⟨by omega, by omega, by omega, by omega, by omega, by omega, ?_⟩
 (with_reducible apply v_call); (· simp only [vcA, seval, vV]; with_reducible rfl); (· rfl); (· exact N1); (· first | rfl | (simp only [vcA, seval]; omega)); (· simp only [vcA, seval, vV]; with_reducible rfl)
 (with_reducible apply v_call); (· simp only [vcA, seval, vV]; with_reducible rfl); (· rfl); (· exact H5); (· first | rfl | (simp only [vcA, seval]; omega)); (· simp only [vcA, seval, vV]; with_reducible rfl)
 simp only [vcA, seval, vV, q16, q17, q3]
 refine ⟨by omega, by omega, by omega, by omega, ?_⟩
 (with_reducible apply v_call); (· simp only [vcA, seval, vV]; with_reducible rfl); (· rfl); (· exact N1); (· first | rfl | (simp only [vcA, seval]; omega)); (· simp only [vcA, seval, vV]; with_reducible rfl)
 (with_reducible apply v_call); (· simp only [vcA, seval, vV]; with_reducible rfl); (· rfl); (· exact H6); (· first | rfl | (simp only [vcA, seval]; omega)); (· simp only [vcA, seval, vV]; with_reducible rfl)
 simp only [vcA, seval, vV]
end Go.Proofs.YtmiokadmddjccaaGreatDoor
end
