/- Merged texts: Sy5 S18 S19 Vc1 Sy7 Sy8 Sy9 Val1 Val2 Val3 Val4 Sv1 Open3 Sy11 Zy2. No statement of the program is proved here. -/
import Derived.Test.YtdlolkogifigpaaDoorM4
import Derived.Laws.StructEq
import Derived.Test.YtdlolkogifigpaaDoorProg
import Derived.Lib.MapLaws
set_option linter.unusedSimpArgs false
set_option linter.unusedVariables false
section
/- The document's IsText. No statement of the program is proved here. -/
namespace Go.Proofs.YtdlolkogifigpaaDoor
open Go Go.RowKit Go.Mor Go.Sh Go.Sh.Cd1
set_option maxRecDepth 100000
set_option maxHeartbeats 8000000
/-- A text, by the document's signs: n signs at the most. -/
def isTextN : Nat → List UInt8 → Bool
  | 0, _ => true
  | n + 1, l => match l with
    | [] => true
    | b :: r => !(signL (b :: r) == 0) && !decide (b.toNat < 32) && !(b.toNat == 127) && isTextN n ((b :: r).drop (signL (b :: r)))
def isText (l : List UInt8) : Bool := isTextN l.length l
theorem isTextN_more : ∀ (n : Nat) (l : List UInt8), l.length ≤ n → isTextN n l = isText l := by
  intro n
  induction n using Nat.strongRecOn with
  | _ n ih =>
    intro l hl
    unfold isText
    cases l with
    | nil => cases n <;> rfl
    | cons b r =>
      obtain ⟨m, rfl⟩ : ∃ m, n = m + 1 := ⟨n - 1, by simp at hl; omega⟩
      simp only [isTextN, List.length_cons]
      by_cases h0 : signL (b :: r) = 0
      · simp [h0]
      · have h1 : ((b :: r).drop (signL (b :: r))).length ≤ r.length := by simp; omega
        simp at hl
        rw [ih m (by omega) _ (by omega)]
        by_cases he : r.length = m
        · subst he; rw [ih r.length (by omega) _ h1]
        · rw [ih r.length (by omega) _ h1]
theorem isText_cons (b : UInt8) (r : List UInt8) : isText (b :: r) = (!(signL (b :: r) == 0) && !decide (b.toNat < 32) && !(b.toNat == 127) && isText ((b :: r).drop (signL (b :: r)))) := by
  conv => lhs; unfold isText
  simp only [isTextN, List.length_cons]
  by_cases h0 : signL (b :: r) = 0
  · simp [h0]
  · rw [isTextN_more r.length _ (by simp; omega)]
theorem signL_le (l : List UInt8) : signL l ≤ l.length ∧ signL l ≤ 4 := by
  unfold signL
  cases l with
  | nil => simp
  | cons b r =>
    rw [if_neg (by simp)]
    unfold signN
    simp only [List.length_cons]
    repeat' split
    all_goals omega
theorem str_drop (l : List UInt8) (a : Nat) : (str l).extract a l.length = str (l.drop a) := by
  rw [str_extract, List.take_of_length_le (by simp)]
theorem isText_ok (g : Sh.Glob) (l : List UInt8) (hl : l.length ≤ 9223372036854775807) : SCalls Tryd.prog g 73 [S (str l)] [] (.pv (.v (.bool (isText l)))) [] := by
  refine call_of0 hmix tf_moraineref03_IsText rfl ?_
  repeat (first | (with_reducible apply w_unr) | (with_reducible apply w_assoc) | (with_reducible apply w_skip) | (with_reducible apply w_ret) | (with_reducible apply w_retE) | (with_reducible apply w_skipE) | (with_reducible apply w_exit) | (with_reducible apply w_exitE) | (with_reducible apply w_block) | (with_reducible apply w_blockE) | ((with_reducible apply w_reg); · simp only [shA, eff, Int.reduceEq, Int.reduceAdd, Int.reduceSub, Nat.reduceBEq, Nat.reduceEqDiff, reduceCtorEq, Nat.reduceAdd, Nat.reduceSub, Nat.reduceMul, Nat.reduceLeDiff, Int.reduceToNat, Int.reduceLT, Int.reduceLE, Int.reduceNeg]; with_reducible rfl) | ((with_reducible apply w_regE); · simp only [shA, eff, Int.reduceEq, Int.reduceAdd, Int.reduceSub, Nat.reduceBEq, Nat.reduceEqDiff, reduceCtorEq, Nat.reduceAdd, Nat.reduceSub, Nat.reduceMul, Nat.reduceLeDiff, Int.reduceToNat, Int.reduceLT, Int.reduceLE, Int.reduceNeg]; with_reducible rfl) | ((with_reducible apply w_condT); · simp only [shA, eff, Int.reduceEq, Int.reduceAdd, Int.reduceSub, Nat.reduceBEq, Nat.reduceEqDiff, reduceCtorEq, Nat.reduceAdd, Nat.reduceSub, Nat.reduceMul, Nat.reduceLeDiff, Int.reduceToNat, Int.reduceLT, Int.reduceLE, Int.reduceNeg]) | ((with_reducible apply w_condF); · simp only [shA, eff, Int.reduceEq, Int.reduceAdd, Int.reduceSub, Nat.reduceBEq, Nat.reduceEqDiff, reduceCtorEq, Nat.reduceAdd, Nat.reduceSub, Nat.reduceMul, Nat.reduceLeDiff, Int.reduceToNat, Int.reduceLT, Int.reduceLE, Int.reduceNeg]) | ((with_reducible apply w_condTE); · simp only [shA, eff, Int.reduceEq, Int.reduceAdd, Int.reduceSub, Nat.reduceBEq, Nat.reduceEqDiff, reduceCtorEq, Nat.reduceAdd, Nat.reduceSub, Nat.reduceMul, Nat.reduceLeDiff, Int.reduceToNat, Int.reduceLT, Int.reduceLE, Int.reduceNeg]) | ((with_reducible apply w_condFE); · simp only [shA, eff, Int.reduceEq, Int.reduceAdd, Int.reduceSub, Nat.reduceBEq, Nat.reduceEqDiff, reduceCtorEq, Nat.reduceAdd, Nat.reduceSub, Nat.reduceMul, Nat.reduceLeDiff, Int.reduceToNat, Int.reduceLT, Int.reduceLE, Int.reduceNeg]) | (with_reducible apply q_then) | (with_reducible apply q_blockN) | (with_reducible apply q_blockR) | (with_reducible apply q_thenR) | (with_reducible apply q_thenX) | (with_reducible apply q_blockX) | ((with_reducible apply q_blockY); · rfl))
  refine w_loopE (σ := { i : Nat // i ≤ l.length ∧ isText l = isText (l.drop i) }) (fun i => ⟨[(0, S (str l)), (3, I (i.1 : Int))], [], [], []⟩) (fun i => l.length - i.1) ⟨0, Nat.zero_le _, rfl⟩ (by apply le_of <;> simp [leL, lk, Nat.beq, I, S]) ?_
  rintro ⟨i, hi, hT⟩
  by_cases hlt : i < l.length
  · have d1 := decide_T (p := ((i : Int) < (l.length : Int))) (by omega)
    have hd := str_drop l i
    obtain ⟨b, eb⟩ := at_ hlt
    have hcons : l.drop i = b :: l.drop (i + 1) := by
      rw [List.drop_eq_getElem_cons hlt]; congr 1
      rw [List.getElem?_eq_getElem hlt] at eb; exact Option.some.inj eb
    have hs := signL_le (l.drop i)
    have hb := isText_cons b (l.drop (i + 1))
    rw [← hcons, ← hT] at hb
    simp only [List.length_drop] at hs
    repeat (first | (with_reducible apply w_unr) | (with_reducible apply w_assoc) | (with_reducible apply w_skip) | (with_reducible apply w_ret) | (with_reducible apply w_retE) | (with_reducible apply w_skipE) | (with_reducible apply w_exit) | (with_reducible apply w_exitE) | (with_reducible apply w_block) | (with_reducible apply w_blockE) | ((with_reducible apply w_reg); · simp only [shA, eff, Int.reduceEq, Int.reduceAdd, Int.reduceSub, Nat.reduceBEq, Nat.reduceEqDiff, reduceCtorEq, Nat.reduceAdd, Nat.reduceSub, Nat.reduceMul, Nat.reduceLeDiff, Int.reduceToNat, Int.reduceLT, Int.reduceLE, Int.reduceNeg, d1]; with_reducible rfl) | ((with_reducible apply w_regE); · simp only [shA, eff, Int.reduceEq, Int.reduceAdd, Int.reduceSub, Nat.reduceBEq, Nat.reduceEqDiff, reduceCtorEq, Nat.reduceAdd, Nat.reduceSub, Nat.reduceMul, Nat.reduceLeDiff, Int.reduceToNat, Int.reduceLT, Int.reduceLE, Int.reduceNeg, d1]; with_reducible rfl) | ((with_reducible apply w_condT); · simp only [shA, eff, Int.reduceEq, Int.reduceAdd, Int.reduceSub, Nat.reduceBEq, Nat.reduceEqDiff, reduceCtorEq, Nat.reduceAdd, Nat.reduceSub, Nat.reduceMul, Nat.reduceLeDiff, Int.reduceToNat, Int.reduceLT, Int.reduceLE, Int.reduceNeg, d1]) | ((with_reducible apply w_condF); · simp only [shA, eff, Int.reduceEq, Int.reduceAdd, Int.reduceSub, Nat.reduceBEq, Nat.reduceEqDiff, reduceCtorEq, Nat.reduceAdd, Nat.reduceSub, Nat.reduceMul, Nat.reduceLeDiff, Int.reduceToNat, Int.reduceLT, Int.reduceLE, Int.reduceNeg, d1]) | ((with_reducible apply w_condTE); · simp only [shA, eff, Int.reduceEq, Int.reduceAdd, Int.reduceSub, Nat.reduceBEq, Nat.reduceEqDiff, reduceCtorEq, Nat.reduceAdd, Nat.reduceSub, Nat.reduceMul, Nat.reduceLeDiff, Int.reduceToNat, Int.reduceLT, Int.reduceLE, Int.reduceNeg, d1]) | ((with_reducible apply w_condFE); · simp only [shA, eff, Int.reduceEq, Int.reduceAdd, Int.reduceSub, Nat.reduceBEq, Nat.reduceEqDiff, reduceCtorEq, Nat.reduceAdd, Nat.reduceSub, Nat.reduceMul, Nat.reduceLeDiff, Int.reduceToNat, Int.reduceLT, Int.reduceLE, Int.reduceNeg, d1]) | (with_reducible apply q_then) | (with_reducible apply q_blockN) | (with_reducible apply q_blockR) | (with_reducible apply q_thenR) | (with_reducible apply q_thenX) | (with_reducible apply q_blockX) | ((with_reducible apply q_blockY); · rfl))
    (first | (with_reducible apply w_ops) | (with_reducible apply w_opsE))
    repeat ((with_reducible apply w_op); (· rfl); (· simp only [shA, eff, Int.reduceEq, Int.reduceAdd, Int.reduceSub, Nat.reduceBEq, Nat.reduceEqDiff, reduceCtorEq, Nat.reduceAdd, Nat.reduceSub, Nat.reduceMul, Nat.reduceLeDiff, Int.reduceToNat, Int.reduceLT, Int.reduceLE, Int.reduceNeg, hi, hd, and_true]; with_reducible rfl); (· simp only [shA, eff, Int.reduceEq, Int.reduceAdd, Int.reduceSub, Nat.reduceBEq, Nat.reduceEqDiff, reduceCtorEq, Nat.reduceAdd, Nat.reduceSub, Nat.reduceMul, Nat.reduceLeDiff, Int.reduceToNat, Int.reduceLT, Int.reduceLE, Int.reduceNeg, hi, hd, and_true]; with_reducible rfl))
    (with_reducible apply w_call); (· simp only [shA, eff, Int.reduceEq, Int.reduceAdd, Int.reduceSub, Nat.reduceBEq, Nat.reduceEqDiff, reduceCtorEq, Nat.reduceAdd, Nat.reduceSub, Nat.reduceMul, Nat.reduceLeDiff, Int.reduceToNat, Int.reduceLT, Int.reduceLE, Int.reduceNeg, hi, hd]; with_reducible rfl); (· simp only [shA, eff, Int.reduceEq, Int.reduceAdd, Int.reduceSub, Nat.reduceBEq, Nat.reduceEqDiff, reduceCtorEq, Nat.reduceAdd, Nat.reduceSub, Nat.reduceMul, Nat.reduceLeDiff, Int.reduceToNat, Int.reduceLT, Int.reduceLE, Int.reduceNeg, hi, hd]; with_reducible rfl); (· simp only [shA, eff, Int.reduceEq, Int.reduceAdd, Int.reduceSub, Nat.reduceBEq, Nat.reduceEqDiff, reduceCtorEq, Nat.reduceAdd, Nat.reduceSub, Nat.reduceMul, Nat.reduceLeDiff, Int.reduceToNat, Int.reduceLT, Int.reduceLE, Int.reduceNeg, hi, hd]; with_reducible rfl); (· simp only [shA, eff, Int.reduceEq, Int.reduceAdd, Int.reduceSub, Nat.reduceBEq, Nat.reduceEqDiff, reduceCtorEq, Nat.reduceAdd, Nat.reduceSub, Nat.reduceMul, Nat.reduceLeDiff, Int.reduceToNat, Int.reduceLT, Int.reduceLE, Int.reduceNeg, hi, hd]; with_reducible rfl); (· exact sign_ok g (l.drop i)); (· rfl); (· simp only [shA, eff, Int.reduceEq, Int.reduceAdd, Int.reduceSub, Nat.reduceBEq, Nat.reduceEqDiff, reduceCtorEq, Nat.reduceAdd, Nat.reduceSub, Nat.reduceMul, Nat.reduceLeDiff, Int.reduceToNat, Int.reduceLT, Int.reduceLE, Int.reduceNeg, hi, hd]; with_reducible rfl); (· simp only [shA, eff, Int.reduceEq, Int.reduceAdd, Int.reduceSub, Nat.reduceBEq, Nat.reduceEqDiff, reduceCtorEq, Nat.reduceAdd, Nat.reduceSub, Nat.reduceMul, Nat.reduceLeDiff, Int.reduceToNat, Int.reduceLT, Int.reduceLE, Int.reduceNeg, hi, hd]; with_reducible rfl); (· simp only [shA, eff, Int.reduceEq, Int.reduceAdd, Int.reduceSub, Nat.reduceBEq, Nat.reduceEqDiff, reduceCtorEq, Nat.reduceAdd, Nat.reduceSub, Nat.reduceMul, Nat.reduceLeDiff, Int.reduceToNat, Int.reduceLT, Int.reduceLE, Int.reduceNeg, hi, hd]; with_reducible rfl)
    repeat ((with_reducible apply w_op); (· rfl); (· simp only [shA, eff, Int.reduceEq, Int.reduceAdd, Int.reduceSub, Nat.reduceBEq, Nat.reduceEqDiff, reduceCtorEq, Nat.reduceAdd, Nat.reduceSub, Nat.reduceMul, Nat.reduceLeDiff, Int.reduceToNat, Int.reduceLT, Int.reduceLE, Int.reduceNeg, hi, hd]; with_reducible rfl); (· simp only [shA, eff, Int.reduceEq, Int.reduceAdd, Int.reduceSub, Nat.reduceBEq, Nat.reduceEqDiff, reduceCtorEq, Nat.reduceAdd, Nat.reduceSub, Nat.reduceMul, Nat.reduceLeDiff, Int.reduceToNat, Int.reduceLT, Int.reduceLE, Int.reduceNeg, hi, hd]; with_reducible rfl))
    apply w_done
    generalize signL (l.drop i) = n at hs hb ⊢
    by_cases h0 : n = 0
    · have d2 := decide_T (p := ((n : Int) = 0)) (by omega)
      have hf : isText l = false := by rw [hb]; simp [h0]
      repeat (first | (with_reducible apply w_unr) | (with_reducible apply w_assoc) | (with_reducible apply w_skip) | (with_reducible apply w_ret) | (with_reducible apply w_retE) | (with_reducible apply w_skipE) | (with_reducible apply w_exit) | (with_reducible apply w_exitE) | (with_reducible apply w_block) | (with_reducible apply w_blockE) | ((with_reducible apply w_reg); · simp only [shA, eff, Int.reduceEq, Int.reduceAdd, Int.reduceSub, Nat.reduceBEq, Nat.reduceEqDiff, reduceCtorEq, Nat.reduceAdd, Nat.reduceSub, Nat.reduceMul, Nat.reduceLeDiff, Int.reduceToNat, Int.reduceLT, Int.reduceLE, Int.reduceNeg, d2]; with_reducible rfl) | ((with_reducible apply w_regE); · simp only [shA, eff, Int.reduceEq, Int.reduceAdd, Int.reduceSub, Nat.reduceBEq, Nat.reduceEqDiff, reduceCtorEq, Nat.reduceAdd, Nat.reduceSub, Nat.reduceMul, Nat.reduceLeDiff, Int.reduceToNat, Int.reduceLT, Int.reduceLE, Int.reduceNeg, d2]; with_reducible rfl) | ((with_reducible apply w_condT); · simp only [shA, eff, Int.reduceEq, Int.reduceAdd, Int.reduceSub, Nat.reduceBEq, Nat.reduceEqDiff, reduceCtorEq, Nat.reduceAdd, Nat.reduceSub, Nat.reduceMul, Nat.reduceLeDiff, Int.reduceToNat, Int.reduceLT, Int.reduceLE, Int.reduceNeg, d2]) | ((with_reducible apply w_condF); · simp only [shA, eff, Int.reduceEq, Int.reduceAdd, Int.reduceSub, Nat.reduceBEq, Nat.reduceEqDiff, reduceCtorEq, Nat.reduceAdd, Nat.reduceSub, Nat.reduceMul, Nat.reduceLeDiff, Int.reduceToNat, Int.reduceLT, Int.reduceLE, Int.reduceNeg, d2]) | ((with_reducible apply w_condTE); · simp only [shA, eff, Int.reduceEq, Int.reduceAdd, Int.reduceSub, Nat.reduceBEq, Nat.reduceEqDiff, reduceCtorEq, Nat.reduceAdd, Nat.reduceSub, Nat.reduceMul, Nat.reduceLeDiff, Int.reduceToNat, Int.reduceLT, Int.reduceLE, Int.reduceNeg, d2]) | ((with_reducible apply w_condFE); · simp only [shA, eff, Int.reduceEq, Int.reduceAdd, Int.reduceSub, Nat.reduceBEq, Nat.reduceEqDiff, reduceCtorEq, Nat.reduceAdd, Nat.reduceSub, Nat.reduceMul, Nat.reduceLeDiff, Int.reduceToNat, Int.reduceLT, Int.reduceLE, Int.reduceNeg, d2]) | (with_reducible apply q_then) | (with_reducible apply q_blockN) | (with_reducible apply q_blockR) | (with_reducible apply q_thenR) | (with_reducible apply q_thenX) | (with_reducible apply q_blockX) | ((with_reducible apply q_blockY); · rfl))
      simp [Post0, ansW, resT, SRes.get, ES.fs, ES.kill, has, drp, seqO, nbeq, lk, I, S, TV.ids3, TV.ids2, TV.ids1, TV.ids0, TV.ren3, TV.ren2, TV.ren1, TV.ren0, F_moraineref03_IsText, hf]
    have d2 := decide_F (p := ((n : Int) = 0)) (by omega)
    by_cases h1 : b.toNat < 32
    · have d3 := decide_T (p := ((b.toNat : Int) < 32)) (by omega)
      have hf : isText l = false := by rw [hb]; simp [h1]
      repeat (first | (with_reducible apply w_unr) | (with_reducible apply w_assoc) | (with_reducible apply w_skip) | (with_reducible apply w_ret) | (with_reducible apply w_retE) | (with_reducible apply w_skipE) | (with_reducible apply w_exit) | (with_reducible apply w_exitE) | (with_reducible apply w_block) | (with_reducible apply w_blockE) | ((with_reducible apply w_reg); · simp only [shA, eff, Int.reduceEq, Int.reduceAdd, Int.reduceSub, Nat.reduceBEq, Nat.reduceEqDiff, reduceCtorEq, Nat.reduceAdd, Nat.reduceSub, Nat.reduceMul, Nat.reduceLeDiff, Int.reduceToNat, Int.reduceLT, Int.reduceLE, Int.reduceNeg, d2, eb, d3]; with_reducible rfl) | ((with_reducible apply w_regE); · simp only [shA, eff, Int.reduceEq, Int.reduceAdd, Int.reduceSub, Nat.reduceBEq, Nat.reduceEqDiff, reduceCtorEq, Nat.reduceAdd, Nat.reduceSub, Nat.reduceMul, Nat.reduceLeDiff, Int.reduceToNat, Int.reduceLT, Int.reduceLE, Int.reduceNeg, d2, eb, d3]; with_reducible rfl) | ((with_reducible apply w_condT); · simp only [shA, eff, Int.reduceEq, Int.reduceAdd, Int.reduceSub, Nat.reduceBEq, Nat.reduceEqDiff, reduceCtorEq, Nat.reduceAdd, Nat.reduceSub, Nat.reduceMul, Nat.reduceLeDiff, Int.reduceToNat, Int.reduceLT, Int.reduceLE, Int.reduceNeg, d2, eb, d3]) | ((with_reducible apply w_condF); · simp only [shA, eff, Int.reduceEq, Int.reduceAdd, Int.reduceSub, Nat.reduceBEq, Nat.reduceEqDiff, reduceCtorEq, Nat.reduceAdd, Nat.reduceSub, Nat.reduceMul, Nat.reduceLeDiff, Int.reduceToNat, Int.reduceLT, Int.reduceLE, Int.reduceNeg, d2, eb, d3]) | ((with_reducible apply w_condTE); · simp only [shA, eff, Int.reduceEq, Int.reduceAdd, Int.reduceSub, Nat.reduceBEq, Nat.reduceEqDiff, reduceCtorEq, Nat.reduceAdd, Nat.reduceSub, Nat.reduceMul, Nat.reduceLeDiff, Int.reduceToNat, Int.reduceLT, Int.reduceLE, Int.reduceNeg, d2, eb, d3]) | ((with_reducible apply w_condFE); · simp only [shA, eff, Int.reduceEq, Int.reduceAdd, Int.reduceSub, Nat.reduceBEq, Nat.reduceEqDiff, reduceCtorEq, Nat.reduceAdd, Nat.reduceSub, Nat.reduceMul, Nat.reduceLeDiff, Int.reduceToNat, Int.reduceLT, Int.reduceLE, Int.reduceNeg, d2, eb, d3]) | (with_reducible apply q_then) | (with_reducible apply q_blockN) | (with_reducible apply q_blockR) | (with_reducible apply q_thenR) | (with_reducible apply q_thenX) | (with_reducible apply q_blockX) | ((with_reducible apply q_blockY); · rfl))
      simp [Post0, ansW, resT, SRes.get, ES.fs, ES.kill, has, drp, seqO, nbeq, lk, I, S, TV.ids3, TV.ids2, TV.ids1, TV.ids0, TV.ren3, TV.ren2, TV.ren1, TV.ren0, F_moraineref03_IsText, hf]
    have d3 := decide_F (p := ((b.toNat : Int) < 32)) (by omega)
    by_cases h2 : b.toNat = 127
    · have d4 := decide_T (p := ((b.toNat : Int) = 127)) (by omega)
      have hf : isText l = false := by rw [hb]; simp [h2]
      repeat (first | (with_reducible apply w_unr) | (with_reducible apply w_assoc) | (with_reducible apply w_skip) | (with_reducible apply w_ret) | (with_reducible apply w_retE) | (with_reducible apply w_skipE) | (with_reducible apply w_exit) | (with_reducible apply w_exitE) | (with_reducible apply w_block) | (with_reducible apply w_blockE) | ((with_reducible apply w_reg); · simp only [shA, eff, Int.reduceEq, Int.reduceAdd, Int.reduceSub, Nat.reduceBEq, Nat.reduceEqDiff, reduceCtorEq, Nat.reduceAdd, Nat.reduceSub, Nat.reduceMul, Nat.reduceLeDiff, Int.reduceToNat, Int.reduceLT, Int.reduceLE, Int.reduceNeg, d2, eb, d3, d4]; with_reducible rfl) | ((with_reducible apply w_regE); · simp only [shA, eff, Int.reduceEq, Int.reduceAdd, Int.reduceSub, Nat.reduceBEq, Nat.reduceEqDiff, reduceCtorEq, Nat.reduceAdd, Nat.reduceSub, Nat.reduceMul, Nat.reduceLeDiff, Int.reduceToNat, Int.reduceLT, Int.reduceLE, Int.reduceNeg, d2, eb, d3, d4]; with_reducible rfl) | ((with_reducible apply w_condT); · simp only [shA, eff, Int.reduceEq, Int.reduceAdd, Int.reduceSub, Nat.reduceBEq, Nat.reduceEqDiff, reduceCtorEq, Nat.reduceAdd, Nat.reduceSub, Nat.reduceMul, Nat.reduceLeDiff, Int.reduceToNat, Int.reduceLT, Int.reduceLE, Int.reduceNeg, d2, eb, d3, d4]) | ((with_reducible apply w_condF); · simp only [shA, eff, Int.reduceEq, Int.reduceAdd, Int.reduceSub, Nat.reduceBEq, Nat.reduceEqDiff, reduceCtorEq, Nat.reduceAdd, Nat.reduceSub, Nat.reduceMul, Nat.reduceLeDiff, Int.reduceToNat, Int.reduceLT, Int.reduceLE, Int.reduceNeg, d2, eb, d3, d4]) | ((with_reducible apply w_condTE); · simp only [shA, eff, Int.reduceEq, Int.reduceAdd, Int.reduceSub, Nat.reduceBEq, Nat.reduceEqDiff, reduceCtorEq, Nat.reduceAdd, Nat.reduceSub, Nat.reduceMul, Nat.reduceLeDiff, Int.reduceToNat, Int.reduceLT, Int.reduceLE, Int.reduceNeg, d2, eb, d3, d4]) | ((with_reducible apply w_condFE); · simp only [shA, eff, Int.reduceEq, Int.reduceAdd, Int.reduceSub, Nat.reduceBEq, Nat.reduceEqDiff, reduceCtorEq, Nat.reduceAdd, Nat.reduceSub, Nat.reduceMul, Nat.reduceLeDiff, Int.reduceToNat, Int.reduceLT, Int.reduceLE, Int.reduceNeg, d2, eb, d3, d4]) | (with_reducible apply q_then) | (with_reducible apply q_blockN) | (with_reducible apply q_blockR) | (with_reducible apply q_thenR) | (with_reducible apply q_thenX) | (with_reducible apply q_blockX) | ((with_reducible apply q_blockY); · rfl))
      simp [Post0, ansW, resT, SRes.get, ES.fs, ES.kill, has, drp, seqO, nbeq, lk, I, S, TV.ids3, TV.ids2, TV.ids1, TV.ids0, TV.ren3, TV.ren2, TV.ren1, TV.ren0, F_moraineref03_IsText, hf]
    have d4 := decide_F (p := ((b.toNat : Int) = 127)) (by omega)
    have w1 : IntKind.i64.wrap ((i : Int) + (n : Int)) = ((i + n : Nat) : Int) := by rw [wrap64 (by omega) (by omega)]; omega
    have hT2 : isText l = isText (l.drop (i + n)) := by rw [hb, List.drop_drop]; simp [h0, h1, h2]
    repeat (first | (with_reducible apply w_unr) | (with_reducible apply w_assoc) | (with_reducible apply w_skip) | (with_reducible apply w_ret) | (with_reducible apply w_retE) | (with_reducible apply w_skipE) | (with_reducible apply w_exit) | (with_reducible apply w_exitE) | (with_reducible apply w_block) | (with_reducible apply w_blockE) | ((with_reducible apply w_reg); · simp only [shA, eff, Int.reduceEq, Int.reduceAdd, Int.reduceSub, Nat.reduceBEq, Nat.reduceEqDiff, reduceCtorEq, Nat.reduceAdd, Nat.reduceSub, Nat.reduceMul, Nat.reduceLeDiff, Int.reduceToNat, Int.reduceLT, Int.reduceLE, Int.reduceNeg, d2, eb, d3, d4, w1]; with_reducible rfl) | ((with_reducible apply w_regE); · simp only [shA, eff, Int.reduceEq, Int.reduceAdd, Int.reduceSub, Nat.reduceBEq, Nat.reduceEqDiff, reduceCtorEq, Nat.reduceAdd, Nat.reduceSub, Nat.reduceMul, Nat.reduceLeDiff, Int.reduceToNat, Int.reduceLT, Int.reduceLE, Int.reduceNeg, d2, eb, d3, d4, w1]; with_reducible rfl) | ((with_reducible apply w_condT); · simp only [shA, eff, Int.reduceEq, Int.reduceAdd, Int.reduceSub, Nat.reduceBEq, Nat.reduceEqDiff, reduceCtorEq, Nat.reduceAdd, Nat.reduceSub, Nat.reduceMul, Nat.reduceLeDiff, Int.reduceToNat, Int.reduceLT, Int.reduceLE, Int.reduceNeg, d2, eb, d3, d4, w1]) | ((with_reducible apply w_condF); · simp only [shA, eff, Int.reduceEq, Int.reduceAdd, Int.reduceSub, Nat.reduceBEq, Nat.reduceEqDiff, reduceCtorEq, Nat.reduceAdd, Nat.reduceSub, Nat.reduceMul, Nat.reduceLeDiff, Int.reduceToNat, Int.reduceLT, Int.reduceLE, Int.reduceNeg, d2, eb, d3, d4, w1]) | ((with_reducible apply w_condTE); · simp only [shA, eff, Int.reduceEq, Int.reduceAdd, Int.reduceSub, Nat.reduceBEq, Nat.reduceEqDiff, reduceCtorEq, Nat.reduceAdd, Nat.reduceSub, Nat.reduceMul, Nat.reduceLeDiff, Int.reduceToNat, Int.reduceLT, Int.reduceLE, Int.reduceNeg, d2, eb, d3, d4, w1]) | ((with_reducible apply w_condFE); · simp only [shA, eff, Int.reduceEq, Int.reduceAdd, Int.reduceSub, Nat.reduceBEq, Nat.reduceEqDiff, reduceCtorEq, Nat.reduceAdd, Nat.reduceSub, Nat.reduceMul, Nat.reduceLeDiff, Int.reduceToNat, Int.reduceLT, Int.reduceLE, Int.reduceNeg, d2, eb, d3, d4, w1]) | (with_reducible apply q_then) | (with_reducible apply q_blockN) | (with_reducible apply q_blockR) | (with_reducible apply q_thenR) | (with_reducible apply q_thenX) | (with_reducible apply q_blockX) | ((with_reducible apply q_blockY); · rfl))
    refine ⟨⟨i + n, by omega, hT2⟩, by show l.length - (i + n) < l.length - i; omega, ?_⟩
    apply le_of <;> simp [leL, lk, Nat.beq, I, S]
  · have d1 := decide_F (p := ((i : Int) < (l.length : Int))) (by omega)
    have hf : isText l = true := by rw [hT, List.drop_eq_nil_of_le (by omega)]; rfl
    repeat (first | (with_reducible apply w_unr) | (with_reducible apply w_assoc) | (with_reducible apply w_skip) | (with_reducible apply w_ret) | (with_reducible apply w_retE) | (with_reducible apply w_skipE) | (with_reducible apply w_exit) | (with_reducible apply w_exitE) | (with_reducible apply w_block) | (with_reducible apply w_blockE) | ((with_reducible apply w_reg); · simp only [shA, eff, Int.reduceEq, Int.reduceAdd, Int.reduceSub, Nat.reduceBEq, Nat.reduceEqDiff, reduceCtorEq, Nat.reduceAdd, Nat.reduceSub, Nat.reduceMul, Nat.reduceLeDiff, Int.reduceToNat, Int.reduceLT, Int.reduceLE, Int.reduceNeg, d1]; with_reducible rfl) | ((with_reducible apply w_regE); · simp only [shA, eff, Int.reduceEq, Int.reduceAdd, Int.reduceSub, Nat.reduceBEq, Nat.reduceEqDiff, reduceCtorEq, Nat.reduceAdd, Nat.reduceSub, Nat.reduceMul, Nat.reduceLeDiff, Int.reduceToNat, Int.reduceLT, Int.reduceLE, Int.reduceNeg, d1]; with_reducible rfl) | ((with_reducible apply w_condT); · simp only [shA, eff, Int.reduceEq, Int.reduceAdd, Int.reduceSub, Nat.reduceBEq, Nat.reduceEqDiff, reduceCtorEq, Nat.reduceAdd, Nat.reduceSub, Nat.reduceMul, Nat.reduceLeDiff, Int.reduceToNat, Int.reduceLT, Int.reduceLE, Int.reduceNeg, d1]) | ((with_reducible apply w_condF); · simp only [shA, eff, Int.reduceEq, Int.reduceAdd, Int.reduceSub, Nat.reduceBEq, Nat.reduceEqDiff, reduceCtorEq, Nat.reduceAdd, Nat.reduceSub, Nat.reduceMul, Nat.reduceLeDiff, Int.reduceToNat, Int.reduceLT, Int.reduceLE, Int.reduceNeg, d1]) | ((with_reducible apply w_condTE); · simp only [shA, eff, Int.reduceEq, Int.reduceAdd, Int.reduceSub, Nat.reduceBEq, Nat.reduceEqDiff, reduceCtorEq, Nat.reduceAdd, Nat.reduceSub, Nat.reduceMul, Nat.reduceLeDiff, Int.reduceToNat, Int.reduceLT, Int.reduceLE, Int.reduceNeg, d1]) | ((with_reducible apply w_condFE); · simp only [shA, eff, Int.reduceEq, Int.reduceAdd, Int.reduceSub, Nat.reduceBEq, Nat.reduceEqDiff, reduceCtorEq, Nat.reduceAdd, Nat.reduceSub, Nat.reduceMul, Nat.reduceLeDiff, Int.reduceToNat, Int.reduceLT, Int.reduceLE, Int.reduceNeg, d1]) | (with_reducible apply q_then) | (with_reducible apply q_blockN) | (with_reducible apply q_blockR) | (with_reducible apply q_thenR) | (with_reducible apply q_thenX) | (with_reducible apply q_blockX) | ((with_reducible apply q_blockY); · rfl))
    simp [Post0, ansW, resT, SRes.get, ES.fs, ES.kill, has, drp, seqO, nbeq, lk, I, S, TV.ids3, TV.ids2, TV.ids1, TV.ids0, TV.ren3, TV.ren2, TV.ren1, TV.ren0, F_moraineref03_IsText, hf]
end Go.Proofs.YtdlolkogifigpaaDoor
namespace Go.Proofs.YtdlolkogifigpaaDoor
open Go Go.RowKit Go.Mor Go.Sh Go.Sh.Cd1
set_option maxRecDepth 100000
set_option maxHeartbeats 8000000
def stepN (l : List UInt8) : Nat := max (signL l) 1
def vtN : Nat → List UInt8 → List UInt8 → List UInt8
  | 0, _, out => out
  | n + 1, l, out => if l = [] ∨ 17 ≤ out.length then out else vtN n (l.drop (stepN l)) (if isText (l.take (stepN l)) then out ++ l.take (stepN l) else out)
def vt (l out : List UInt8) : List UInt8 := vtN l.length l out
def valText (l : List UInt8) : List UInt8 := vt l []
theorem stepN_le {l : List UInt8} (h : 0 < l.length) : 1 ≤ stepN l ∧ stepN l ≤ l.length ∧ stepN l ≤ 4 := by
  have := signL_le l
  unfold stepN; omega
theorem vtN_more : ∀ (n : Nat) (l out : List UInt8), l.length ≤ n → vtN n l out = vt l out := by
  intro n
  induction n using Nat.strongRecOn with
  | _ n ih =>
    intro l out hl
    unfold vt
    cases n with
    | zero =>
      have : l.length = 0 := by omega
      rw [this]
    | succ m =>
      cases hm : l.length with
      | zero =>
        have : l = [] := List.eq_nil_of_length_eq_zero hm
        simp [vtN, this]
      | succ p =>
        simp only [vtN]
        split
        · rfl
        · have hs := stepN_le (l := l) (by omega)
          have h1 : (l.drop (stepN l)).length ≤ p := by simp; omega
          rw [ih m (by omega) _ _ (by omega), ih p (by omega) _ _ h1]
theorem vt_step (l out : List UInt8) : vt l out = if l = [] ∨ 17 ≤ out.length then out else vt (l.drop (stepN l)) (if isText (l.take (stepN l)) then out ++ l.take (stepN l) else out) := by
  conv => lhs; unfold vt
  cases hm : l.length with
  | zero =>
    have : l = [] := List.eq_nil_of_length_eq_zero hm
    simp [vtN, this]
  | succ p =>
    have hs := stepN_le (l := l) (by omega)
    simp only [vtN]
    split
    · rfl
    · rw [vtN_more p _ _ (by simp; omega)]
theorem valText_ok (g : Sh.Glob) (l : List UInt8) (hl : l.length ≤ 9223372036854775807) : SCalls Tryd.prog g 87 [S (str l)] [] (S (str (valText l))) [] := by
  refine call_of0 hmix tf_morainelaw03_ValText rfl ?_
  have e0 : (⟨#[]⟩ : ByteArray) = str [] := rfl
  repeat (first | (with_reducible apply w_unr) | (with_reducible apply w_assoc) | (with_reducible apply w_skip) | (with_reducible apply w_ret) | (with_reducible apply w_retE) | (with_reducible apply w_skipE) | (with_reducible apply w_exit) | (with_reducible apply w_exitE) | (with_reducible apply w_block) | (with_reducible apply w_blockE) | ((with_reducible apply w_reg); · simp only [shA, eff, Int.reduceEq, Int.reduceAdd, Int.reduceSub, Nat.reduceBEq, Nat.reduceEqDiff, reduceCtorEq, Nat.reduceAdd, Nat.reduceSub, Nat.reduceMul, Nat.reduceLeDiff, Int.reduceToNat, Int.reduceLT, Int.reduceLE, Int.reduceNeg]; with_reducible rfl) | ((with_reducible apply w_regE); · simp only [shA, eff, Int.reduceEq, Int.reduceAdd, Int.reduceSub, Nat.reduceBEq, Nat.reduceEqDiff, reduceCtorEq, Nat.reduceAdd, Nat.reduceSub, Nat.reduceMul, Nat.reduceLeDiff, Int.reduceToNat, Int.reduceLT, Int.reduceLE, Int.reduceNeg]; with_reducible rfl) | ((with_reducible apply w_condT); · simp only [shA, eff, Int.reduceEq, Int.reduceAdd, Int.reduceSub, Nat.reduceBEq, Nat.reduceEqDiff, reduceCtorEq, Nat.reduceAdd, Nat.reduceSub, Nat.reduceMul, Nat.reduceLeDiff, Int.reduceToNat, Int.reduceLT, Int.reduceLE, Int.reduceNeg]) | ((with_reducible apply w_condF); · simp only [shA, eff, Int.reduceEq, Int.reduceAdd, Int.reduceSub, Nat.reduceBEq, Nat.reduceEqDiff, reduceCtorEq, Nat.reduceAdd, Nat.reduceSub, Nat.reduceMul, Nat.reduceLeDiff, Int.reduceToNat, Int.reduceLT, Int.reduceLE, Int.reduceNeg]) | ((with_reducible apply w_condTE); · simp only [shA, eff, Int.reduceEq, Int.reduceAdd, Int.reduceSub, Nat.reduceBEq, Nat.reduceEqDiff, reduceCtorEq, Nat.reduceAdd, Nat.reduceSub, Nat.reduceMul, Nat.reduceLeDiff, Int.reduceToNat, Int.reduceLT, Int.reduceLE, Int.reduceNeg]) | ((with_reducible apply w_condFE); · simp only [shA, eff, Int.reduceEq, Int.reduceAdd, Int.reduceSub, Nat.reduceBEq, Nat.reduceEqDiff, reduceCtorEq, Nat.reduceAdd, Nat.reduceSub, Nat.reduceMul, Nat.reduceLeDiff, Int.reduceToNat, Int.reduceLT, Int.reduceLE, Int.reduceNeg]) | (with_reducible apply q_then) | (with_reducible apply q_blockN) | (with_reducible apply q_blockR) | (with_reducible apply q_thenR) | (with_reducible apply q_thenX) | (with_reducible apply q_blockX) | ((with_reducible apply q_blockY); · rfl))
  refine w_loopE (σ := { p : Nat × List UInt8 // p.1 ≤ l.length ∧ p.2.length ≤ 20 ∧ valText l = vt (l.drop p.1) p.2 }) (fun p => ⟨[(0, S (str l)), (3, S (str p.1.2)), (4, I (p.1.1 : Int))], [], [], []⟩) (fun p => l.length - p.1.1) ⟨(0, []), Nat.zero_le _, Nat.zero_le _, rfl⟩ (by rw [← e0]; apply le_of <;> simp [leL, lk, Nat.beq, I, S, str]) ?_
  rintro ⟨⟨i, out⟩, hi, ho, hT⟩
  simp only at hi ho hT
  rw [vt_step] at hT
  by_cases hlt : ¬ i < l.length
  · have d1 := decide_F (p := ((i : Int) < (l.length : Int))) (by omega)
    have hf : valText l = out := by rw [hT, if_pos (.inl (List.drop_eq_nil_of_le (by omega)))]
    repeat (first | (with_reducible apply w_unr) | (with_reducible apply w_assoc) | (with_reducible apply w_skip) | (with_reducible apply w_ret) | (with_reducible apply w_retE) | (with_reducible apply w_skipE) | (with_reducible apply w_exit) | (with_reducible apply w_exitE) | (with_reducible apply w_block) | (with_reducible apply w_blockE) | ((with_reducible apply w_reg); · simp only [shA, eff, Int.reduceEq, Int.reduceAdd, Int.reduceSub, Nat.reduceBEq, Nat.reduceEqDiff, reduceCtorEq, Nat.reduceAdd, Nat.reduceSub, Nat.reduceMul, Nat.reduceLeDiff, Int.reduceToNat, Int.reduceLT, Int.reduceLE, Int.reduceNeg, d1]; with_reducible rfl) | ((with_reducible apply w_regE); · simp only [shA, eff, Int.reduceEq, Int.reduceAdd, Int.reduceSub, Nat.reduceBEq, Nat.reduceEqDiff, reduceCtorEq, Nat.reduceAdd, Nat.reduceSub, Nat.reduceMul, Nat.reduceLeDiff, Int.reduceToNat, Int.reduceLT, Int.reduceLE, Int.reduceNeg, d1]; with_reducible rfl) | ((with_reducible apply w_condT); · simp only [shA, eff, Int.reduceEq, Int.reduceAdd, Int.reduceSub, Nat.reduceBEq, Nat.reduceEqDiff, reduceCtorEq, Nat.reduceAdd, Nat.reduceSub, Nat.reduceMul, Nat.reduceLeDiff, Int.reduceToNat, Int.reduceLT, Int.reduceLE, Int.reduceNeg, d1]) | ((with_reducible apply w_condF); · simp only [shA, eff, Int.reduceEq, Int.reduceAdd, Int.reduceSub, Nat.reduceBEq, Nat.reduceEqDiff, reduceCtorEq, Nat.reduceAdd, Nat.reduceSub, Nat.reduceMul, Nat.reduceLeDiff, Int.reduceToNat, Int.reduceLT, Int.reduceLE, Int.reduceNeg, d1]) | ((with_reducible apply w_condTE); · simp only [shA, eff, Int.reduceEq, Int.reduceAdd, Int.reduceSub, Nat.reduceBEq, Nat.reduceEqDiff, reduceCtorEq, Nat.reduceAdd, Nat.reduceSub, Nat.reduceMul, Nat.reduceLeDiff, Int.reduceToNat, Int.reduceLT, Int.reduceLE, Int.reduceNeg, d1]) | ((with_reducible apply w_condFE); · simp only [shA, eff, Int.reduceEq, Int.reduceAdd, Int.reduceSub, Nat.reduceBEq, Nat.reduceEqDiff, reduceCtorEq, Nat.reduceAdd, Nat.reduceSub, Nat.reduceMul, Nat.reduceLeDiff, Int.reduceToNat, Int.reduceLT, Int.reduceLE, Int.reduceNeg, d1]) | (with_reducible apply q_then) | (with_reducible apply q_blockN) | (with_reducible apply q_blockR) | (with_reducible apply q_thenR) | (with_reducible apply q_thenX) | (with_reducible apply q_blockX) | ((with_reducible apply q_blockY); · rfl))
    simp [Post0, ansW, resT, SRes.get, ES.fs, ES.kill, has, drp, seqO, nbeq, lk, I, S, TV.ids3, TV.ids2, TV.ids1, TV.ids0, TV.ren3, TV.ren2, TV.ren1, TV.ren0, F_morainelaw03_ValText, hf]
  have d1 := decide_T (p := ((i : Int) < (l.length : Int))) (by omega)
  by_cases h17 : ¬ out.length < 17
  · have d2 := decide_F (p := ((out.length : Int) < 17)) (by omega)
    have hf : valText l = out := by rw [hT, if_pos (.inr (by omega))]
    repeat (first | (with_reducible apply w_unr) | (with_reducible apply w_assoc) | (with_reducible apply w_skip) | (with_reducible apply w_ret) | (with_reducible apply w_retE) | (with_reducible apply w_skipE) | (with_reducible apply w_exit) | (with_reducible apply w_exitE) | (with_reducible apply w_block) | (with_reducible apply w_blockE) | ((with_reducible apply w_reg); · simp only [shA, eff, Int.reduceEq, Int.reduceAdd, Int.reduceSub, Nat.reduceBEq, Nat.reduceEqDiff, reduceCtorEq, Nat.reduceAdd, Nat.reduceSub, Nat.reduceMul, Nat.reduceLeDiff, Int.reduceToNat, Int.reduceLT, Int.reduceLE, Int.reduceNeg, d1, d2]; with_reducible rfl) | ((with_reducible apply w_regE); · simp only [shA, eff, Int.reduceEq, Int.reduceAdd, Int.reduceSub, Nat.reduceBEq, Nat.reduceEqDiff, reduceCtorEq, Nat.reduceAdd, Nat.reduceSub, Nat.reduceMul, Nat.reduceLeDiff, Int.reduceToNat, Int.reduceLT, Int.reduceLE, Int.reduceNeg, d1, d2]; with_reducible rfl) | ((with_reducible apply w_condT); · simp only [shA, eff, Int.reduceEq, Int.reduceAdd, Int.reduceSub, Nat.reduceBEq, Nat.reduceEqDiff, reduceCtorEq, Nat.reduceAdd, Nat.reduceSub, Nat.reduceMul, Nat.reduceLeDiff, Int.reduceToNat, Int.reduceLT, Int.reduceLE, Int.reduceNeg, d1, d2]) | ((with_reducible apply w_condF); · simp only [shA, eff, Int.reduceEq, Int.reduceAdd, Int.reduceSub, Nat.reduceBEq, Nat.reduceEqDiff, reduceCtorEq, Nat.reduceAdd, Nat.reduceSub, Nat.reduceMul, Nat.reduceLeDiff, Int.reduceToNat, Int.reduceLT, Int.reduceLE, Int.reduceNeg, d1, d2]) | ((with_reducible apply w_condTE); · simp only [shA, eff, Int.reduceEq, Int.reduceAdd, Int.reduceSub, Nat.reduceBEq, Nat.reduceEqDiff, reduceCtorEq, Nat.reduceAdd, Nat.reduceSub, Nat.reduceMul, Nat.reduceLeDiff, Int.reduceToNat, Int.reduceLT, Int.reduceLE, Int.reduceNeg, d1, d2]) | ((with_reducible apply w_condFE); · simp only [shA, eff, Int.reduceEq, Int.reduceAdd, Int.reduceSub, Nat.reduceBEq, Nat.reduceEqDiff, reduceCtorEq, Nat.reduceAdd, Nat.reduceSub, Nat.reduceMul, Nat.reduceLeDiff, Int.reduceToNat, Int.reduceLT, Int.reduceLE, Int.reduceNeg, d1, d2]) | (with_reducible apply q_then) | (with_reducible apply q_blockN) | (with_reducible apply q_blockR) | (with_reducible apply q_thenR) | (with_reducible apply q_thenX) | (with_reducible apply q_blockX) | ((with_reducible apply q_blockY); · rfl))
    simp [Post0, ansW, resT, SRes.get, ES.fs, ES.kill, has, drp, seqO, nbeq, lk, I, S, TV.ids3, TV.ids2, TV.ids1, TV.ids0, TV.ren3, TV.ren2, TV.ren1, TV.ren0, F_morainelaw03_ValText, hf]
  have d2 := decide_T (p := ((out.length : Int) < 17)) (by omega)
  have hd := str_drop l i
  have hs := stepN_le (l := l.drop i) (by simp; omega)
  rw [if_neg (by rw [List.drop_eq_nil_iff]; omega)] at hT
  have hm : max (signL (l.drop i) : Int) 1 = ((stepN (l.drop i) : Nat) : Int) := by unfold stepN; omega
  repeat (first | (with_reducible apply w_unr) | (with_reducible apply w_assoc) | (with_reducible apply w_skip) | (with_reducible apply w_ret) | (with_reducible apply w_retE) | (with_reducible apply w_skipE) | (with_reducible apply w_exit) | (with_reducible apply w_exitE) | (with_reducible apply w_block) | (with_reducible apply w_blockE) | ((with_reducible apply w_reg); · simp only [shA, eff, Int.reduceEq, Int.reduceAdd, Int.reduceSub, Nat.reduceBEq, Nat.reduceEqDiff, reduceCtorEq, Nat.reduceAdd, Nat.reduceSub, Nat.reduceMul, Nat.reduceLeDiff, Int.reduceToNat, Int.reduceLT, Int.reduceLE, Int.reduceNeg, d1, d2]; with_reducible rfl) | ((with_reducible apply w_regE); · simp only [shA, eff, Int.reduceEq, Int.reduceAdd, Int.reduceSub, Nat.reduceBEq, Nat.reduceEqDiff, reduceCtorEq, Nat.reduceAdd, Nat.reduceSub, Nat.reduceMul, Nat.reduceLeDiff, Int.reduceToNat, Int.reduceLT, Int.reduceLE, Int.reduceNeg, d1, d2]; with_reducible rfl) | ((with_reducible apply w_condT); · simp only [shA, eff, Int.reduceEq, Int.reduceAdd, Int.reduceSub, Nat.reduceBEq, Nat.reduceEqDiff, reduceCtorEq, Nat.reduceAdd, Nat.reduceSub, Nat.reduceMul, Nat.reduceLeDiff, Int.reduceToNat, Int.reduceLT, Int.reduceLE, Int.reduceNeg, d1, d2]) | ((with_reducible apply w_condF); · simp only [shA, eff, Int.reduceEq, Int.reduceAdd, Int.reduceSub, Nat.reduceBEq, Nat.reduceEqDiff, reduceCtorEq, Nat.reduceAdd, Nat.reduceSub, Nat.reduceMul, Nat.reduceLeDiff, Int.reduceToNat, Int.reduceLT, Int.reduceLE, Int.reduceNeg, d1, d2]) | ((with_reducible apply w_condTE); · simp only [shA, eff, Int.reduceEq, Int.reduceAdd, Int.reduceSub, Nat.reduceBEq, Nat.reduceEqDiff, reduceCtorEq, Nat.reduceAdd, Nat.reduceSub, Nat.reduceMul, Nat.reduceLeDiff, Int.reduceToNat, Int.reduceLT, Int.reduceLE, Int.reduceNeg, d1, d2]) | ((with_reducible apply w_condFE); · simp only [shA, eff, Int.reduceEq, Int.reduceAdd, Int.reduceSub, Nat.reduceBEq, Nat.reduceEqDiff, reduceCtorEq, Nat.reduceAdd, Nat.reduceSub, Nat.reduceMul, Nat.reduceLeDiff, Int.reduceToNat, Int.reduceLT, Int.reduceLE, Int.reduceNeg, d1, d2]) | (with_reducible apply q_then) | (with_reducible apply q_blockN) | (with_reducible apply q_blockR) | (with_reducible apply q_thenR) | (with_reducible apply q_thenX) | (with_reducible apply q_blockX) | ((with_reducible apply q_blockY); · rfl))
  (first | (with_reducible apply w_ops) | (with_reducible apply w_opsE))
  repeat ((with_reducible apply w_op); (· rfl); (· simp only [shA, eff, Int.reduceEq, Int.reduceAdd, Int.reduceSub, Nat.reduceBEq, Nat.reduceEqDiff, reduceCtorEq, Nat.reduceAdd, Nat.reduceSub, Nat.reduceMul, Nat.reduceLeDiff, Int.reduceToNat, Int.reduceLT, Int.reduceLE, Int.reduceNeg, hi, hd]; with_reducible rfl); (· simp only [shA, eff, Int.reduceEq, Int.reduceAdd, Int.reduceSub, Nat.reduceBEq, Nat.reduceEqDiff, reduceCtorEq, Nat.reduceAdd, Nat.reduceSub, Nat.reduceMul, Nat.reduceLeDiff, Int.reduceToNat, Int.reduceLT, Int.reduceLE, Int.reduceNeg, hi, hd]; with_reducible rfl))
  (with_reducible apply w_call); (· simp only [shA, eff, Int.reduceEq, Int.reduceAdd, Int.reduceSub, Nat.reduceBEq, Nat.reduceEqDiff, reduceCtorEq, Nat.reduceAdd, Nat.reduceSub, Nat.reduceMul, Nat.reduceLeDiff, Int.reduceToNat, Int.reduceLT, Int.reduceLE, Int.reduceNeg, hi, hd]; with_reducible rfl); (· simp only [shA, eff, Int.reduceEq, Int.reduceAdd, Int.reduceSub, Nat.reduceBEq, Nat.reduceEqDiff, reduceCtorEq, Nat.reduceAdd, Nat.reduceSub, Nat.reduceMul, Nat.reduceLeDiff, Int.reduceToNat, Int.reduceLT, Int.reduceLE, Int.reduceNeg, hi, hd]; with_reducible rfl); (· simp only [shA, eff, Int.reduceEq, Int.reduceAdd, Int.reduceSub, Nat.reduceBEq, Nat.reduceEqDiff, reduceCtorEq, Nat.reduceAdd, Nat.reduceSub, Nat.reduceMul, Nat.reduceLeDiff, Int.reduceToNat, Int.reduceLT, Int.reduceLE, Int.reduceNeg, hi, hd]; with_reducible rfl); (· simp only [shA, eff, Int.reduceEq, Int.reduceAdd, Int.reduceSub, Nat.reduceBEq, Nat.reduceEqDiff, reduceCtorEq, Nat.reduceAdd, Nat.reduceSub, Nat.reduceMul, Nat.reduceLeDiff, Int.reduceToNat, Int.reduceLT, Int.reduceLE, Int.reduceNeg, hi, hd]; with_reducible rfl); (· exact sign_ok g (l.drop i)); (· rfl); (· simp only [shA, eff, Int.reduceEq, Int.reduceAdd, Int.reduceSub, Nat.reduceBEq, Nat.reduceEqDiff, reduceCtorEq, Nat.reduceAdd, Nat.reduceSub, Nat.reduceMul, Nat.reduceLeDiff, Int.reduceToNat, Int.reduceLT, Int.reduceLE, Int.reduceNeg, hi, hd]; with_reducible rfl); (· simp only [shA, eff, Int.reduceEq, Int.reduceAdd, Int.reduceSub, Nat.reduceBEq, Nat.reduceEqDiff, reduceCtorEq, Nat.reduceAdd, Nat.reduceSub, Nat.reduceMul, Nat.reduceLeDiff, Int.reduceToNat, Int.reduceLT, Int.reduceLE, Int.reduceNeg, hi, hd]; with_reducible rfl); (· simp only [shA, eff, Int.reduceEq, Int.reduceAdd, Int.reduceSub, Nat.reduceBEq, Nat.reduceEqDiff, reduceCtorEq, Nat.reduceAdd, Nat.reduceSub, Nat.reduceMul, Nat.reduceLeDiff, Int.reduceToNat, Int.reduceLT, Int.reduceLE, Int.reduceNeg, hi, hd]; with_reducible rfl)
  repeat ((with_reducible apply w_op); (· rfl); (· simp only [shA, eff, Int.reduceEq, Int.reduceAdd, Int.reduceSub, Nat.reduceBEq, Nat.reduceEqDiff, reduceCtorEq, Nat.reduceAdd, Nat.reduceSub, Nat.reduceMul, Nat.reduceLeDiff, Int.reduceToNat, Int.reduceLT, Int.reduceLE, Int.reduceNeg, hm]; with_reducible rfl); (· simp only [shA, eff, Int.reduceEq, Int.reduceAdd, Int.reduceSub, Nat.reduceBEq, Nat.reduceEqDiff, reduceCtorEq, Nat.reduceAdd, Nat.reduceSub, Nat.reduceMul, Nat.reduceLeDiff, Int.reduceToNat, Int.reduceLT, Int.reduceLE, Int.reduceNeg, hm]; with_reducible rfl))
  apply w_done
  simp only [List.length_drop] at hs
  obtain ⟨n, hn⟩ : ∃ n, n = stepN (l.drop i) := ⟨_, rfl⟩
  rw [← hn] at hs hT ⊢
  have w1 : IntKind.i64.wrap ((i : Int) + (n : Int)) = ((i + n : Nat) : Int) := by rw [wrap64 (by omega) (by omega)]; omega
  have g1 : i ≤ i + n := by omega
  have g2 : i + n ≤ l.length := by omega
  have hx : (str l).extract i (i + n) = str ((l.drop i).take n) := by rw [str_extract]; congr 2; omega
  have hlen : ((l.drop i).take n).length = n := by simp; omega
  (first | (with_reducible apply w_ops) | (with_reducible apply w_opsE))
  repeat ((with_reducible apply w_op); (· rfl); (· simp only [shA, eff, Int.reduceEq, Int.reduceAdd, Int.reduceSub, Nat.reduceBEq, Nat.reduceEqDiff, reduceCtorEq, Nat.reduceAdd, Nat.reduceSub, Nat.reduceMul, Nat.reduceLeDiff, Int.reduceToNat, Int.reduceLT, Int.reduceLE, Int.reduceNeg, w1, g1, g2, hx]; with_reducible rfl); (· simp only [shA, eff, Int.reduceEq, Int.reduceAdd, Int.reduceSub, Nat.reduceBEq, Nat.reduceEqDiff, reduceCtorEq, Nat.reduceAdd, Nat.reduceSub, Nat.reduceMul, Nat.reduceLeDiff, Int.reduceToNat, Int.reduceLT, Int.reduceLE, Int.reduceNeg, w1, g1, g2, hx]; with_reducible rfl))
  (with_reducible apply w_call); (· simp only [shA, eff, Int.reduceEq, Int.reduceAdd, Int.reduceSub, Nat.reduceBEq, Nat.reduceEqDiff, reduceCtorEq, Nat.reduceAdd, Nat.reduceSub, Nat.reduceMul, Nat.reduceLeDiff, Int.reduceToNat, Int.reduceLT, Int.reduceLE, Int.reduceNeg, hi]; with_reducible rfl); (· simp only [shA, eff, Int.reduceEq, Int.reduceAdd, Int.reduceSub, Nat.reduceBEq, Nat.reduceEqDiff, reduceCtorEq, Nat.reduceAdd, Nat.reduceSub, Nat.reduceMul, Nat.reduceLeDiff, Int.reduceToNat, Int.reduceLT, Int.reduceLE, Int.reduceNeg, hi]; with_reducible rfl); (· simp only [shA, eff, Int.reduceEq, Int.reduceAdd, Int.reduceSub, Nat.reduceBEq, Nat.reduceEqDiff, reduceCtorEq, Nat.reduceAdd, Nat.reduceSub, Nat.reduceMul, Nat.reduceLeDiff, Int.reduceToNat, Int.reduceLT, Int.reduceLE, Int.reduceNeg, hi]; with_reducible rfl); (· simp only [shA, eff, Int.reduceEq, Int.reduceAdd, Int.reduceSub, Nat.reduceBEq, Nat.reduceEqDiff, reduceCtorEq, Nat.reduceAdd, Nat.reduceSub, Nat.reduceMul, Nat.reduceLeDiff, Int.reduceToNat, Int.reduceLT, Int.reduceLE, Int.reduceNeg, hi]; with_reducible rfl); (· exact isText_ok g ((l.drop i).take n) (by omega)); (· rfl); (· simp only [shA, eff, Int.reduceEq, Int.reduceAdd, Int.reduceSub, Nat.reduceBEq, Nat.reduceEqDiff, reduceCtorEq, Nat.reduceAdd, Nat.reduceSub, Nat.reduceMul, Nat.reduceLeDiff, Int.reduceToNat, Int.reduceLT, Int.reduceLE, Int.reduceNeg, hi]; with_reducible rfl); (· simp only [shA, eff, Int.reduceEq, Int.reduceAdd, Int.reduceSub, Nat.reduceBEq, Nat.reduceEqDiff, reduceCtorEq, Nat.reduceAdd, Nat.reduceSub, Nat.reduceMul, Nat.reduceLeDiff, Int.reduceToNat, Int.reduceLT, Int.reduceLE, Int.reduceNeg, hi]; with_reducible rfl); (· simp only [shA, eff, Int.reduceEq, Int.reduceAdd, Int.reduceSub, Nat.reduceBEq, Nat.reduceEqDiff, reduceCtorEq, Nat.reduceAdd, Nat.reduceSub, Nat.reduceMul, Nat.reduceLeDiff, Int.reduceToNat, Int.reduceLT, Int.reduceLE, Int.reduceNeg, hi]; with_reducible rfl)
  repeat ((with_reducible apply w_op); (· rfl); (· simp only [shA, eff, Int.reduceEq, Int.reduceAdd, Int.reduceSub, Nat.reduceBEq, Nat.reduceEqDiff, reduceCtorEq, Nat.reduceAdd, Nat.reduceSub, Nat.reduceMul, Nat.reduceLeDiff, Int.reduceToNat, Int.reduceLT, Int.reduceLE, Int.reduceNeg]; with_reducible rfl); (· simp only [shA, eff, Int.reduceEq, Int.reduceAdd, Int.reduceSub, Nat.reduceBEq, Nat.reduceEqDiff, reduceCtorEq, Nat.reduceAdd, Nat.reduceSub, Nat.reduceMul, Nat.reduceLeDiff, Int.reduceToNat, Int.reduceLT, Int.reduceLE, Int.reduceNeg]; with_reducible rfl))
  apply w_done
  by_cases hok : isText ((l.drop i).take n) = true
  · have hadd := fun t => sbin_add Tryd.prog t (str out) (str ((l.drop i).take n)) (by simp only [str_size']; omega)
    have happ := str_append out ((l.drop i).take n)
    rw [if_pos hok, List.drop_drop] at hT
    repeat (first | (with_reducible apply w_unr) | (with_reducible apply w_assoc) | (with_reducible apply w_skip) | (with_reducible apply w_ret) | (with_reducible apply w_retE) | (with_reducible apply w_skipE) | (with_reducible apply w_exit) | (with_reducible apply w_exitE) | (with_reducible apply w_block) | (with_reducible apply w_blockE) | ((with_reducible apply w_reg); · simp only [shA, eff, Int.reduceEq, Int.reduceAdd, Int.reduceSub, Nat.reduceBEq, Nat.reduceEqDiff, reduceCtorEq, Nat.reduceAdd, Nat.reduceSub, Nat.reduceMul, Nat.reduceLeDiff, Int.reduceToNat, Int.reduceLT, Int.reduceLE, Int.reduceNeg, hok, w1, g1, g2, hx, hadd, happ]; with_reducible rfl) | ((with_reducible apply w_regE); · simp only [shA, eff, Int.reduceEq, Int.reduceAdd, Int.reduceSub, Nat.reduceBEq, Nat.reduceEqDiff, reduceCtorEq, Nat.reduceAdd, Nat.reduceSub, Nat.reduceMul, Nat.reduceLeDiff, Int.reduceToNat, Int.reduceLT, Int.reduceLE, Int.reduceNeg, hok, w1, g1, g2, hx, hadd, happ]; with_reducible rfl) | ((with_reducible apply w_condT); · simp only [shA, eff, Int.reduceEq, Int.reduceAdd, Int.reduceSub, Nat.reduceBEq, Nat.reduceEqDiff, reduceCtorEq, Nat.reduceAdd, Nat.reduceSub, Nat.reduceMul, Nat.reduceLeDiff, Int.reduceToNat, Int.reduceLT, Int.reduceLE, Int.reduceNeg, hok, w1, g1, g2, hx, hadd, happ]) | ((with_reducible apply w_condF); · simp only [shA, eff, Int.reduceEq, Int.reduceAdd, Int.reduceSub, Nat.reduceBEq, Nat.reduceEqDiff, reduceCtorEq, Nat.reduceAdd, Nat.reduceSub, Nat.reduceMul, Nat.reduceLeDiff, Int.reduceToNat, Int.reduceLT, Int.reduceLE, Int.reduceNeg, hok, w1, g1, g2, hx, hadd, happ]) | ((with_reducible apply w_condTE); · simp only [shA, eff, Int.reduceEq, Int.reduceAdd, Int.reduceSub, Nat.reduceBEq, Nat.reduceEqDiff, reduceCtorEq, Nat.reduceAdd, Nat.reduceSub, Nat.reduceMul, Nat.reduceLeDiff, Int.reduceToNat, Int.reduceLT, Int.reduceLE, Int.reduceNeg, hok, w1, g1, g2, hx, hadd, happ]) | ((with_reducible apply w_condFE); · simp only [shA, eff, Int.reduceEq, Int.reduceAdd, Int.reduceSub, Nat.reduceBEq, Nat.reduceEqDiff, reduceCtorEq, Nat.reduceAdd, Nat.reduceSub, Nat.reduceMul, Nat.reduceLeDiff, Int.reduceToNat, Int.reduceLT, Int.reduceLE, Int.reduceNeg, hok, w1, g1, g2, hx, hadd, happ]) | (with_reducible apply q_then) | (with_reducible apply q_blockN) | (with_reducible apply q_blockR) | (with_reducible apply q_thenR) | (with_reducible apply q_thenX) | (with_reducible apply q_blockX) | ((with_reducible apply q_blockY); · rfl))
    refine ⟨⟨(i + n, out ++ (l.drop i).take n), by omega, by simp; omega, hT⟩, by show l.length - (i + n) < l.length - i; omega, ?_⟩
    apply le_of <;> simp [leL, lk, Nat.beq, I, S]
  · have hok' : isText ((l.drop i).take n) = false := by simpa using hok
    rw [if_neg hok, List.drop_drop] at hT
    repeat (first | (with_reducible apply w_unr) | (with_reducible apply w_assoc) | (with_reducible apply w_skip) | (with_reducible apply w_ret) | (with_reducible apply w_retE) | (with_reducible apply w_skipE) | (with_reducible apply w_exit) | (with_reducible apply w_exitE) | (with_reducible apply w_block) | (with_reducible apply w_blockE) | ((with_reducible apply w_reg); · simp only [shA, eff, Int.reduceEq, Int.reduceAdd, Int.reduceSub, Nat.reduceBEq, Nat.reduceEqDiff, reduceCtorEq, Nat.reduceAdd, Nat.reduceSub, Nat.reduceMul, Nat.reduceLeDiff, Int.reduceToNat, Int.reduceLT, Int.reduceLE, Int.reduceNeg, hok', w1]; with_reducible rfl) | ((with_reducible apply w_regE); · simp only [shA, eff, Int.reduceEq, Int.reduceAdd, Int.reduceSub, Nat.reduceBEq, Nat.reduceEqDiff, reduceCtorEq, Nat.reduceAdd, Nat.reduceSub, Nat.reduceMul, Nat.reduceLeDiff, Int.reduceToNat, Int.reduceLT, Int.reduceLE, Int.reduceNeg, hok', w1]; with_reducible rfl) | ((with_reducible apply w_condT); · simp only [shA, eff, Int.reduceEq, Int.reduceAdd, Int.reduceSub, Nat.reduceBEq, Nat.reduceEqDiff, reduceCtorEq, Nat.reduceAdd, Nat.reduceSub, Nat.reduceMul, Nat.reduceLeDiff, Int.reduceToNat, Int.reduceLT, Int.reduceLE, Int.reduceNeg, hok', w1]) | ((with_reducible apply w_condF); · simp only [shA, eff, Int.reduceEq, Int.reduceAdd, Int.reduceSub, Nat.reduceBEq, Nat.reduceEqDiff, reduceCtorEq, Nat.reduceAdd, Nat.reduceSub, Nat.reduceMul, Nat.reduceLeDiff, Int.reduceToNat, Int.reduceLT, Int.reduceLE, Int.reduceNeg, hok', w1]) | ((with_reducible apply w_condTE); · simp only [shA, eff, Int.reduceEq, Int.reduceAdd, Int.reduceSub, Nat.reduceBEq, Nat.reduceEqDiff, reduceCtorEq, Nat.reduceAdd, Nat.reduceSub, Nat.reduceMul, Nat.reduceLeDiff, Int.reduceToNat, Int.reduceLT, Int.reduceLE, Int.reduceNeg, hok', w1]) | ((with_reducible apply w_condFE); · simp only [shA, eff, Int.reduceEq, Int.reduceAdd, Int.reduceSub, Nat.reduceBEq, Nat.reduceEqDiff, reduceCtorEq, Nat.reduceAdd, Nat.reduceSub, Nat.reduceMul, Nat.reduceLeDiff, Int.reduceToNat, Int.reduceLT, Int.reduceLE, Int.reduceNeg, hok', w1]) | (with_reducible apply q_then) | (with_reducible apply q_blockN) | (with_reducible apply q_blockR) | (with_reducible apply q_thenR) | (with_reducible apply q_thenX) | (with_reducible apply q_blockX) | ((with_reducible apply q_blockY); · rfl))
    refine ⟨⟨(i + n, out), by omega, ho, hT⟩, by show l.length - (i + n) < l.length - i; omega, ?_⟩
    apply le_of <;> simp [leL, lk, Nat.beq, I, S]
end Go.Proofs.YtdlolkogifigpaaDoor
end

section
/- Sh: guarded calls in a walk; what is known may be made less. No statement of the program is proved here. -/
namespace Go.Sh
open Go Go.RowKit
section
variable {P : Program} {g : Glob} {b : SCode} {Q : SExit → ES → Prop} {s s' : ES} {n kill : List Nat} {l : List SOper} {r : List (List Nat × List SOper)}
/-- A guarded call that is made. -/
theorem w_callg {K : ES → Prop} {dst : Option Nat} {f m gs : Nat} {t : Bool} {xs : List Arg} {args xs' : List TV} {I : List Nat} {os os' : List MO} {y y' : TV} {us : List (Nat × MO)} (hg : s.fs.t gs = some (.pv (.v (.bool t)))) (hx : seqO (fun x : Arg => x.get s.fs) xs = some args) (hI : handI s.fs m args = I) (h1 : seqO (TV.ren2 (rhoIn I)) args = some xs')
    (h2 : seqO (fun d => (s.fs.mo d).bind (MO.ren (rhoIn I))) I = some os) (hc : SCalls P g f xs' os y os') (hmo : moOk os os' = true) (h3 : y.ren3 (rhoOut I (dstId dst)) = some y') (h4 : outs (rhoOut I (dstId dst)) 0 os' = some us) (hs : s.after ⟨dst, some (gs, t), none, .call f m xs⟩ (y', .mem us) = s') (hk : opsW P g l K s') :
    opsW P g (⟨dst, some (gs, t), none, .call f m xs⟩ :: l) K s := by
  refine opsW_callg hg ?_
  rw [hx]
  exact ⟨I, hI.symm, xs', os, h1, h2, y, os', hc, hmo, y', us, h3, h4, by rw [← hs] at hk; exact hk⟩
/-- A guarded call that is not made. -/
theorem w_skipc {K : ES → Prop} {dst : Option Nat} {gs f m : Nat} {t : Bool} {xs : List Arg} (hg : s.fs.t gs = some (.pv (.v (.bool (!t))))) (hs : s.after ⟨dst, some (gs, t), none, .call f m xs⟩ (.pv (.v undef), .no) = s') (hk : opsW P g l K s') : opsW P g (⟨dst, some (gs, t), none, .call f m xs⟩ :: l) K s :=
  opsW_skip hg (by rw [hs]; exact hk)
theorem w_ops2 {n0 : List Nat} {l0 : List SOper} (hk : opsW P g l (fun s' => swp P g b Q (s'.kill kill)) (s.fgt n)) : swp P g (.seq (.reg ((n0, l0) :: (n, l) :: r) kill) b) Q s := regW_2 hk
theorem w_ops2E {n0 : List Nat} {l0 : List SOper} (hk : opsW P g l (fun s' => Q .normal (s'.kill kill)) (s.fgt n)) : swp P g (.reg ((n0, l0) :: (n, l) :: r) kill) Q s := regW_2 hk
end
/-- What is known of a value may be made less. -/
def Wk (x y : TV) : Prop := ∀ w E r v, RelT w E r x v → RelT w E r y v
theorem Wk.refl (x : TV) : Wk x x := fun _ _ _ _ h => h
theorem Wk.trans {x y z : TV} (h : Wk x y) (h' : Wk y z) : Wk x z := fun w E r v hr => h' w E r v (h w E r v hr)
theorem wk_nil (W : Nat) : Wk (.pv (.v (.slice none 0 0))) (.pv (.sl W [])) := by
  intro w E r v h
  cases h with
  | pv h =>
    cases h with
    | v x => exact .pv (.sl W [] 0 0 0 none (fun _ _ => undef) (by simp) (by simp) (by simp) (by simp) (by simp) (by simp))
theorem wk_agg {cs ds : List TV} (hl : cs.length = ds.length) (h : ∀ (j : Nat) c d, cs[j]? = some c → ds[j]? = some d → Wk c d) : Wk (.agg cs) (.agg ds) := by
  intro w E r v hr
  cases hr with
  | agg cs vs hl' hv ho =>
    refine .agg ds vs (hl ▸ hl') (fun j d v hd hv' => ?_) ho
    have hj : j < cs.length := by
      rcases Nat.lt_or_ge j ds.length with h | h
      · omega
      · rw [List.getElem?_eq_none h] at hd; cases hd
    exact h j _ d (List.getElem?_eq_getElem hj) hd w E r v (hv j _ v (List.getElem?_eq_getElem hj) hv')
theorem SCalls.out {P : Program} {g : Glob} {f : Nat} {xs : List TV} {os os' : List MO} {y y' : TV} (h : SCalls P g f xs os y os') (hw : Wk y y') : SCalls P g f xs os y' os' :=
  ⟨h.1, fun w E vs hG hm hX hl hr => (h.2 w E vs hG hm hX hl hr).mono (by
    rintro e w' ⟨v, E', h1, h2, h3, h4⟩
    exact ⟨v, E', h1, h2, hw _ _ _ _ h3, h4⟩)⟩
theorem SCalls.inp {P : Program} {g : Glob} {f : Nat} {xs xs' : List TV} {os os' : List MO} {y : TV} (h : SCalls P g f xs' os y os') (hl : xs.length = xs'.length) (hw : ∀ (j : Nat) c d, xs[j]? = some c → xs'[j]? = some d → Wk c d) : SCalls P g f xs os y os' :=
  ⟨h.1, fun w E vs hG hm hX hl' hr => h.2 w E vs hG hm hX (hl ▸ hl') (fun j d v hd hv => by
    have hj : j < xs.length := by
      rcases Nat.lt_or_ge j xs'.length with h | h
      · omega
      · rw [List.getElem?_eq_none h] at hd; cases hd
    exact hw j _ d (List.getElem?_eq_getElem hj) hd w E _ v (hr j _ v (List.getElem?_eq_getElem hj) hv))⟩
end Go.Sh
namespace Go.Sh
open Go Go.RowKit
theorem reach_none {s : FS} : ∀ (f : Nat) (l : List Nat), (∀ d ∈ l, s.b d = none) → reach s false f l [] = []
  | 0, _, _ => by simp [reach]
  | _ + 1, [], _ => by simp [reach]
  | f + 1, d :: l, h => by
    have h1 := h d (by simp)
    simp only [reach, pos, h1]
    have ih := reach_none f l (fun e he => h e (by simp [he]))
    cases s.r d <;> exact ih
def ansW1 (s : ES) (y : TV) : Option TV → Prop
  | some y0 => (y0.ids3.all fun d => (s.fs.b d).isNone) = true ∧ y0.ren3 (rhoIn []) = some y
  | none => False
def Post1 (res : List SRes) (y : TV) : SExit → ES → Prop
  | .ret, s | .normal, s => ansW1 s y (resT s.fs res)
  | .exit _, _ => False
theorem call_of1 {P : Program} {g : Glob} {f : Nat} {H : Nat → Option Nat → Nat} {Fp : Nat → List (Nat → Option Nat)} {K : Nat → List Nat} {F : SFunc} (hmix : P.follows .mixedOrders = true) (hF : transFunc P f H Fp K false = some F) (hk : F.keep = false) {xs : List TV} {y : TV} (hn : Nat.ble xs.length F.N = true)
    (h : swp P g F.code (Post1 F.res y) (startE xs [])) : SCalls P g f xs [] y [] := by
  have key : ∀ s, ansW1 s y (resT s.fs F.res) → exitR F.res F.keep 0 s = some (y, []) := by
    intro s he
    cases hr : resT s.fs F.res with
    | none => rw [hr] at he; exact he.elim
    | some y0 =>
      rw [hr] at he
      obtain ⟨h1, h2⟩ := he
      have h3 : reach s.fs false 64 y0.ids3 [] = [] := reach_none 64 _ (fun d hd => by simpa using List.all_eq_true.1 h1 d hd)
      simp [exitR, exitF, hr, idsFrom, hk, h3, h2, seqO]
  refine call_of hmix hF hn rfl rfl (swp_mono h fun e s he => ?_)
  cases e with
  | normal => exact key s he
  | ret => exact key s he
  | exit id => exact he.elim
end Go.Sh
namespace Go.Sh
open Go Go.RowKit
theorem pr_ite {α : Type} (P : Program) (c : Prop) [Decidable c] (a b : Sem α) : pureRun P (if c then a else b) = if c then pureRun P a else pureRun P b := by split <;> rfl
theorem pr_pure {α : Type} (P : Program) (a : α) : pureRun P (pure a) = some a := rfl
theorem pr_program (P : Program) : pureRun P program = some P := rfl
theorem pr_equal_struct {P : Program} (d : Nat) (t : TypeId) (xs ys : Array Value) (ht : pureRun P (underlying t) = some (.struct (P.fieldsOf t))) (hp : P.stoodInHeld t = false) :
    pureRun P (Op.equalIn (d + 1) t (.agg xs) (.agg ys)) = pureRun P (Op.eqFields d xs ys (P.fieldsOf t).toList) := by
  simp only [Op.equalIn, pureRun_bind, ht, Option.bind_some, pr_program, hp, Bool.false_eq_true, if_false]
  rw [← Array.forIn_toList]
  generalize (P.fieldsOf t).toList = fs
  clear ht
  induction fs with
  | nil => simp [Op.eqFields, pr_pure]
  | cons f fs ih =>
    simp only [List.forIn_cons, Op.eqFields, pureRun_bind, pr_ite]
    split
    · generalize pureRun P (part f.type xs f.offset) = r1
      cases r1 with
      | none => rfl
      | some a =>
        simp only [Option.bind_some]
        generalize pureRun P (part f.type ys f.offset) = r2
        cases r2 with
        | none => rfl
        | some b =>
          simp only [Option.bind_some]
          generalize pureRun P (Op.equalIn d f.type a b) = r3
          cases r3 with
          | none => rfl
          | some r =>
            cases r
            · simp only [Option.bind_some, Bool.not_false, if_true, pr_pure]
            · simp only [Option.bind_some, Bool.not_true, Bool.false_eq_true, if_false, pr_pure]
              exact ih
    · simp only [pr_pure, Option.bind_some]
      exact ih
end Go.Sh
end

section
/- Sh: what is to be shown of code, reckoned by rewriting. No statement of the program is proved here. -/
namespace Go.Sh
open Go Go.RowKit
/-- By a truth value. -/
def boolW (t : Bool) (A B : Prop) : Prop := (t = true → A) ∧ (t = false → B)
def boolK (x : Option TV) (A B : Prop) : Prop := match x with
  | some (.pv (.v (.bool t))) => boolW t A B
  | _ => False
/-- By a slot that guards: it is known behind it. -/
def guardW (x : Option TV) (want : Bool) (gs : Nat) (A B : ES → Prop) (s : ES) : Prop := match x with
  | some (.pv (.v (.bool t))) => boolW t ((if want then A else B) (s.put (some gs) (.pv (.v (.bool true))))) ((if want then B else A) (s.put (some gs) (.pv (.v (.bool false)))))
  | some (.pv (.v _)) => B s
  | _ => False
def guardK (t : Bool) (want : Bool) (gs : Nat) (A B : ES → Prop) (s : ES) : Prop := boolW t ((if want then A else B) (s.put (some gs) (.pv (.v (.bool true))))) ((if want then B else A) (s.put (some gs) (.pv (.v (.bool false)))))
section
variable {P : Program} {g : Glob} {a b c : SCode} {Q : SExit → ES → Prop} {K : ES → Prop} {s s' : ES} {l : List SOper} {A B : Prop} {o : SOper}
@[congr] theorem boolW_congr {t t' : Bool} (h : t = t') : boolW t A B = boolW t' A B := by rw [h]
@[congr] theorem boolK_congr {t t' : Option TV} (h : t = t') : boolK t A B = boolK t' A B := by rw [h]
@[congr] theorem guardW_congr {t t' : Option TV} {w : Bool} {gs : Nat} {A B : ES → Prop} (h : t = t') : guardW t w gs A B s = guardW t' w gs A B s := by rw [h]
@[congr] theorem guardK_congr {t t' : Bool} {w : Bool} {gs : Nat} {A B : ES → Prop} (h : t = t') : guardK t w gs A B s = guardK t' w gs A B s := by rw [h]
@[congr] theorem swp_congr (h : s = s') : swp P g a Q s = swp P g a Q s' := by rw [h]
@[congr] theorem opsW_congr (h : s = s') : opsW P g l K s = opsW P g l K s' := by rw [h]
@[congr] theorem stepW_congr {e e' : Option (TV × Upd)} (h : e = e') : stepW P o K s e = stepW P o K s e' := by rw [h]
@[congr] theorem thenW_congr {e : SExit} (h : s = s') : thenW K Q e s = thenW K Q e s' := by rw [h]
@[congr] theorem blockW_congr {e : SExit} {id : Nat} (h : s = s') : blockW id Q e s = blockW id Q e s' := by rw [h]
theorem bW_T : boolW true A B = A := by simp [boolW]
theorem bW_F : boolW false A B = B := by simp [boolW]
theorem bW_d {p : Prop} [Decidable p] : boolW (decide p) A B = ((p → A) ∧ (¬ p → B)) := by simp [boolW]
theorem bW_n {t : Bool} : boolW (!t) A B = boolW t B A := by cases t <;> simp [boolW]
theorem bW_a {t u : Bool} : boolW (t && u) A B = boolW t (boolW u A B) B := by cases t <;> simp [boolW]
theorem bW_o {t u : Bool} : boolW (t || u) A B = boolW t A (boolW u A B) := by cases t <;> simp [boolW]
theorem bK {t : Bool} : boolK (some (.pv (.v (.bool t)))) A B = boolW t A B := rfl
theorem gW {t w : Bool} {gs : Nat} {A B : ES → Prop} : guardW (some (.pv (.v (.bool t)))) w gs A B s = guardK t w gs A B s := rfl
theorem gW_u {w : Bool} {gs : Nat} {A B : ES → Prop} : guardW (some (.pv (.v (.nilIface)))) w gs A B s = B s := rfl
theorem gW_i {w : Bool} {k : IntKind} {n : Int} {gs : Nat} {A B : ES → Prop} : guardW (some (.pv (.v (.int k n)))) w gs A B s = B s := rfl
def regK (Q : SExit → ES → Prop) (kill : List Nat) (s : ES) : Prop := Q .normal (s.kill kill)
def skipK (P : Program) (g : Glob) (l : List SOper) (K : ES → Prop) (dst : Option Nat) (s : ES) : Prop := opsW P g l K (s.put dst (.pv (.v undef)))
@[congr] theorem regK_congr {kill : List Nat} (h : s = s') : regK Q kill s = regK Q kill s' := by rw [h]
theorem v_regK {kill : List Nat} : regK Q kill s = Q .normal (s.kill kill) := rfl
theorem v_skipK {dst : Option Nat} : skipK P g l K dst s = opsW P g l K (s.put dst (.pv (.v undef))) := rfl
theorem sv_same {α : Type} {k : Nat} {x : α} : ∀ {l : List (Nat × α)}, lk l k = some x → sv l k x = l
  | [], h => by simp [lk] at h
  | (j, y) :: l, h => by
    simp only [lk] at h
    simp only [sv]
    cases hj : Nat.beq j k with
    | true =>
      rw [hj] at h; simp only [Option.some.injEq] at h
      rw [Nat.eq_of_beq_eq_true hj, h]
    | false => rw [hj] at h; simp only [sv_same h]
theorem put_same {gs : Nat} {x : TV} (h : lk s.t gs = some x) : s.put (some gs) x = s := by
  show ES.mk _ _ _ _ = _
  rw [sv_same h]
theorem boolW_iff {t : Bool} : boolW t A B ↔ (if t then A else B) := by cases t <;> simp [boolW]
theorem v_skip : swp P g .skip Q s = Q .normal s := rfl
theorem v_seq : swp P g (.seq a b) Q s = swp P g a (thenW (swp P g b Q) Q) s := rfl
theorem v_exit {id : Nat} : swp P g (.exit id) Q s = Q (.exit id) s := rfl
theorem v_ret : swp P g .ret Q s = Q .ret s := rfl
theorem v_block {id : Nat} : swp P g (.block id a) Q s = swp P g a (blockW id Q) s := rfl
theorem v_cond {x : Arg} : swp P g (.cond x a b) Q s = boolK (x.get s.fs) (swp P g a Q s) (swp P g b Q s) := by
  show condW x s _ _ = _
  apply propext
  constructor
  · rintro ⟨t, h1, h2⟩
    rw [h1, bK]; exact boolW_iff.2 h2
  · intro h
    unfold boolK at h
    split at h
    · rename_i t ht; exact ⟨t, ht, boolW_iff.1 h⟩
    · exact h.elim
theorem v_reg {n kill : List Nat} : swp P g (.reg [(n, l)] kill) Q s = opsW P g l (regK Q kill) (s.fgt n) := by
  show regW P g _ _ _ _ = _
  simp [regW]; rfl
theorem v_reg2 {n kill : List Nat} {x : List Nat × List SOper} {r : List (List Nat × List SOper)} : swp P g (.reg ((n, l) :: x :: r) kill) Q s = (opsW P g l (regK Q kill) (s.fgt n) ∨ swp P g (.reg (x :: r) kill) Q s) := by
  show regW P g _ _ _ _ = (_ ∨ regW P g _ _ _ _)
  simp [regW]; rfl
theorem v_nil : opsW P g [] K s = K s := rfl
theorem v_op {dst fp : Option Nat} {op : SOp} (h : op.isCall = false) : opsW P g (⟨dst, none, fp, op⟩ :: l) K s = stepW P ⟨dst, none, fp, op⟩ (opsW P g l K) s (effG P noC ⟨dst, none, fp, op⟩ s.fs) := propext (opsW_nc h)
theorem v_guard {dst fp : Option Nat} {op : SOp} {gs : Nat} {want : Bool} : opsW P g (⟨dst, some (gs, want), fp, op⟩ :: l) K s =
    guardW (lk s.t gs) want gs (opsW P g (⟨dst, none, fp, op⟩ :: l) K) (skipK P g l K dst) s := by
  have key : ∀ C, effG P C ⟨dst, some (gs, want), fp, op⟩ s.fs = match lk s.t gs with
    | some (.pv (.v (.bool b))) => if b == want then effG P C ⟨dst, none, fp, op⟩ s.fs else some (.pv (.v undef), .no)
    | some (.pv (.v _)) => some (.pv (.v undef), .no)
    | _ => none := fun C => rfl
  have hA : (∃ C, SoundC P g C ∧ ∃ e, some (TV.pv (.v undef), Upd.no) = some e ∧ opsW P g l K (s.after ⟨dst, some (gs, want), fp, op⟩ e)) = opsW P g l K (s.put dst (.pv (.v undef))) := by
    apply propext
    constructor
    · rintro ⟨C, hC, e, he, hk⟩; cases he; exact hk
    · intro hk; exact ⟨noC, noC_sound P g, _, rfl, hk⟩
  conv => lhs; unfold opsW
  simp only [key]
  unfold guardW
  cases hx : lk s.t gs with
  | none => simp
  | some x =>
    cases x with
    | pv p =>
      cases p with
      | v v =>
        cases v with
        | bool t =>
          simp only []
          cases t
          · cases want
            · simp only [bW_F, if_false, beq_self_eq_true, if_true, put_same hx, Bool.false_eq_true]; rfl
            · simp only [bW_F, if_true, put_same hx, bFT, if_false, Bool.false_eq_true]; exact hA
          · cases want
            · simp only [bW_T, if_false, put_same hx, bTF, Bool.false_eq_true]; exact hA
            · simp only [bW_T, if_true, beq_self_eq_true, put_same hx]; rfl
        | _ => exact hA
      | _ => simp
    | _ => simp
theorem gK_T1 {gs : Nat} {A B : ES → Prop} : guardK true true gs A B s = A (s.put (some gs) (.pv (.v (.bool true)))) := by simp [guardK, bW_T]
theorem gK_T0 {gs : Nat} {A B : ES → Prop} : guardK true false gs A B s = B (s.put (some gs) (.pv (.v (.bool true)))) := by simp [guardK, bW_T]
theorem gK_F1 {gs : Nat} {A B : ES → Prop} : guardK false true gs A B s = B (s.put (some gs) (.pv (.v (.bool false)))) := by simp [guardK, bW_F]
theorem gK_F0 {gs : Nat} {A B : ES → Prop} : guardK false false gs A B s = A (s.put (some gs) (.pv (.v (.bool false)))) := by simp [guardK, bW_F]
theorem gK_d1 {p : Prop} [Decidable p] {gs : Nat} {A B : ES → Prop} : guardK (decide p) true gs A B s = ((p → A (s.put (some gs) (.pv (.v (.bool true))))) ∧ (¬ p → B (s.put (some gs) (.pv (.v (.bool false)))))) := by simp [guardK, bW_d]
theorem gK_d0 {p : Prop} [Decidable p] {gs : Nat} {A B : ES → Prop} : guardK (decide p) false gs A B s = ((p → B (s.put (some gs) (.pv (.v (.bool true))))) ∧ (¬ p → A (s.put (some gs) (.pv (.v (.bool false)))))) := by simp [guardK, bW_d]
theorem gK_n1 {t : Bool} {gs : Nat} {A B : ES → Prop} : guardK (!t) true gs A B s = boolW t (B (s.put (some gs) (.pv (.v (.bool false))))) (A (s.put (some gs) (.pv (.v (.bool true))))) := by simp [guardK, bW_n]
theorem gK_n0 {t : Bool} {gs : Nat} {A B : ES → Prop} : guardK (!t) false gs A B s = boolW t (A (s.put (some gs) (.pv (.v (.bool false))))) (B (s.put (some gs) (.pv (.v (.bool true))))) := by simp [guardK, bW_n]
theorem v_then_n {K : ES → Prop} : thenW K Q .normal s = K s := rfl
theorem v_then_r {K : ES → Prop} : thenW K Q .ret s = Q .ret s := rfl
theorem v_then_x {K : ES → Prop} {id : Nat} : thenW K Q (.exit id) s = Q (.exit id) s := rfl
theorem v_blk_n {id : Nat} : blockW id Q .normal s = Q .normal s := rfl
theorem v_blk_r {id : Nat} : blockW id Q .ret s = Q .ret s := rfl
theorem v_blk_x {id j : Nat} : blockW id Q (.exit j) s = boolW (Nat.beq j id) (Q .normal s) (Q (.exit j) s) := by
  simp only [blockW]
  by_cases h : j = id
  · subst h; simp [Nat.beq_refl, bW_T]
  · rw [if_neg h, beq_false h, bW_F]
theorem s_some {e : TV × Upd} : stepW P o K s (some e) = K (s.after o e) := rfl
theorem s_none : stepW P o K s none = False := rfl
theorem s_ite {c : Prop} [Decidable c] {x : Option (TV × Upd)} : stepW P o K s (if c then x else none) = (c ∧ stepW P o K s x) := by
  by_cases h : c <;> simp [h, stepW]
theorem s_get {α : Type} {l : List α} {k : Nat} {f : α → TV × Upd} : stepW P o K s (Option.map f l[k]?) = (k < l.length ∧ ∀ b, l[k]? = some b → K (s.after o (f b))) := by
  apply propext
  rcases Nat.lt_or_ge k l.length with h | h
  · rw [List.getElem?_eq_getElem h]; simp [stepW, h]
  · rw [List.getElem?_eq_none h]; simp [stepW, Nat.not_lt.2 h]
/-- At a loop's end: a state at its head, nearer its end. -/
def loopK {σ : Type} (st : σ → ES) (μ : σ → Nat) (x : σ) (s : ES) : Prop := ∃ y, μ y < μ x ∧ (st y).Lw s
@[congr] theorem loopK_congr {σ : Type} {st : σ → ES} {μ : σ → Nat} {x : σ} (h : s = s') : loopK st μ x s = loopK st μ x s' := by rw [h]
theorem v_loop {σ : Type} (st : σ → ES) (μ : σ → Nat) (x0 : σ) (h0 : (st x0).Lw s) (hr : ∀ x, swp P g a (thenW (loopK st μ x) Q) (st x)) : swp P g (.loop a) Q s := by
  refine ⟨fun n s => ∃ x, μ x = n ∧ s = st x, μ x0, ⟨st x0, h0, x0, rfl, rfl⟩, ?_⟩
  rintro n s ⟨x, rfl, rfl⟩
  refine swp_mono (hr x) (fun e s he => ?_)
  cases e with
  | normal => obtain ⟨y, h1, h2⟩ := he; exact ⟨μ y, h1, st y, h2, y, rfl, rfl⟩
  | exit id => exact he
  | ret => exact he
theorem loopK_of {σ : Type} {st : σ → ES} {μ : σ → Nat} {x : σ} (y : σ) (h1 : μ y < μ x) (h2 : (st y).Lw s) : loopK st μ x s := ⟨y, h1, h2⟩
theorem lw_of {s0 s : ES} (h1 : leL s0.t s.t) (h2 : leL s0.b s.b) (h3 : leL s0.r s.r) (h4 : leL s0.i s.i) : s0.Lw s := (le_of h1 h2 h3 h4).lw
theorem lw_eq {s0 s : ES} (h : s0 = s) : s0.Lw s := h ▸ .refl _
/-- What a call is handed. -/
def callIn (s : ES) (m : Nat) (xs : List Arg) : Option (List TV × List MO × List Nat) := match seqO (fun x : Arg => x.get s.fs) xs with
  | some args => match seqO (TV.ren2 (rhoIn (handI s.fs m args))) args, seqO (fun d => (s.fs.mo d).bind (MO.ren (rhoIn (handI s.fs m args)))) (handI s.fs m args) with
    | some xs', some os => some (xs', os, handI s.fs m args)
    | _, _ => none
  | none => none
def callOut (s : ES) (dst : Option Nat) (I : List Nat) (y : TV) (os' : List MO) : Option ES := match y.ren3 (rhoOut I (dstId dst)), outs (rhoOut I (dstId dst)) 0 os' with
  | some y', some us => some ((s.upd dst (.mem us)).put dst y')
  | _, _ => none
theorem v_call {dst : Option Nat} {f m : Nat} {xs : List Arg} {xs' : List TV} {I : List Nat} {os os' : List MO} {y : TV} (hx : callIn s m xs = some (xs', os, I)) (hc : SCalls P g f xs' os y os') (hmo : moOk os os' = true) (hs : callOut s dst I y os' = some s') (hk : opsW P g l K s') :
    opsW P g (⟨dst, none, none, .call f m xs⟩ :: l) K s := by
  unfold callIn at hx
  split at hx
  · rename_i args ha
    split at hx
    · rename_i a1 a2 h1 h2
      cases hx
      unfold callOut at hs
      split at hs
      · rename_i y' us h3 h4
        cases hs
        exact w_call ha rfl h1 h2 hc hmo h3 h4 rfl hk
      · cases hs
    · cases hx
  · cases hx
/-- A call of a function value. -/
def callvIn (s : ES) (m : Nat) (x : Arg) (xs : List Arg) : Option (Nat × List TV × List MO × List Nat) := match (x.get s.fs).bind TV.callee, seqO (fun x : Arg => x.get s.fs) xs with
  | some (f, fa, fb), some vs => match seqO (TV.ren2 (rhoIn (handI s.fs m (fa ++ vs ++ fb)))) (fa ++ vs ++ fb), seqO (fun d => (s.fs.mo d).bind (MO.ren (rhoIn (handI s.fs m (fa ++ vs ++ fb))))) (handI s.fs m (fa ++ vs ++ fb)) with
    | some xs', some os => some (f, xs', os, handI s.fs m (fa ++ vs ++ fb))
    | _, _ => none
  | _, _ => none
theorem v_callv {dst : Option Nat} {f m : Nat} {x : Arg} {xs : List Arg} {xs' : List TV} {I : List Nat} {os os' : List MO} {y : TV} (hx : callvIn s m x xs = some (f, xs', os, I)) (hc : SCalls P g f xs' os y os') (hmo : moOk os os' = true) (hs : callOut s dst I y os' = some s') (hk : opsW P g l K s') :
    opsW P g (⟨dst, none, none, .callv x m xs⟩ :: l) K s := by
  unfold callvIn at hx
  split at hx
  · rename_i f' fa fb vs h0 h1
    split at hx
    · rename_i a1 a2 h3 h4
      cases hx
      unfold callOut at hs
      split at hs
      · rename_i y' us h5 h6
        cases hs
        refine opsW_callv ?_
        rw [h0, h1]
        exact ⟨_, rfl, xs', os, h3, h4, y, os', hc, hmo, y', us, h5, h6, hk⟩
      · cases hs
    · cases hx
  · cases hx
end
end Go.Sh
namespace Go.Sh
open Go Go.RowKit
theorem nc_mov (x : Arg) : (SOp.mov x).isCall = false := rfl
theorem nc_pick (c a b : Arg) : (SOp.pick c a b).isCall = false := rfl
theorem nc_bin (op : BinOp) (t : TypeId) (x y : Arg) : (SOp.bin op t x y).isCall = false := rfl
theorem nc_un (op : UnOp) (x : Arg) : (SOp.un op x).isCall = false := rfl
theorem nc_cvi (k : IntKind) (x : Arg) : (SOp.cvi k x).isCall = false := rfl
theorem nc_cvs (x : Arg) : (SOp.cvs x).isCall = false := rfl
theorem nc_b2s (x : Arg) : (SOp.b2s x).isCall = false := rfl
theorem nc_imm (mx : Bool) (x y : Arg) : (SOp.imm mx x y).isCall = false := rfl
theorem nc_sidx (x i : Arg) : (SOp.sidx x i).isCall = false := rfl
theorem nc_ssub (x : Arg) (lo hi : Option Arg) : (SOp.ssub x lo hi).isCall = false := rfl
theorem nc_slen (x : Arg) : (SOp.slen x).isCall = false := rfl
theorem nc_new (z : List Value) : (SOp.new z).isCall = false := rfl
theorem nc_box (x : Arg) : (SOp.box x).isCall = false := rfl
theorem nc_build (z : List Value) (ps : List (Nat × Nat × Arg)) : (SOp.build z ps).isCall = false := rfl
theorem nc_bsl (W : Nat) (xs : List Arg) : (SOp.bsl W xs).isCall = false := rfl
theorem nc_fld (a : Bool) (o n : Nat) (x : Arg) : (SOp.fld a o n x).isCall = false := rfl
theorem nc_fldA (o : Nat) (x : Arg) : (SOp.fldA o x).isCall = false := rfl
theorem nc_ld (a : Bool) (n : Nat) (x : Arg) : (SOp.ld a n x).isCall = false := rfl
theorem nc_st (n : Nat) (x y : Arg) : (SOp.st n x y).isCall = false := rfl
theorem nc_len (x : Arg) : (SOp.len x).isCall = false := rfl
theorem nc_idxA (W : Nat) (x i : Arg) : (SOp.idxA W x i).isCall = false := rfl
theorem nc_sub (W : Nat) (x : Arg) (lo hi : Option Arg) : (SOp.sub W x lo hi).isCall = false := rfl
theorem nc_app (e W n : Nat) (x y : Arg) : (SOp.app e W n x y).isCall = false := rfl
theorem nc_appS (e n : Nat) (x y : Arg) : (SOp.appS e n x y).isCall = false := rfl
theorem nc_appN (e W n : Nat) (x y : Arg) : (SOp.appN e W n x y).isCall = false := rfl
theorem nc_appNS (e n : Nat) (x y : Arg) : (SOp.appNS e n x y).isCall = false := rfl
theorem nc_ext (x : Arg) (i : Nat) : (SOp.ext x i).isCall = false := rfl
theorem nc_nchk (x : Arg) : (SOp.nchk x).isCall = false := rfl
theorem nc_mkf (f : Fn) (a b : List Arg) : (SOp.mkf f a b).isCall = false := rfl
theorem nc_rng (x : Arg) : (SOp.rng x).isCall = false := rfl
theorem nc_nxt (x : Arg) : (SOp.nxt x).isCall = false := rfl
theorem nc_mks (n : Nat) (z : List Value) (x : Arg) : (SOp.mks n z x).isCall = false := rfl
section
variable (P : Program) (t : TypeId) (k : IntKind) (a b : Int) (x y : ByteArray)
theorem bin_quoI : scal P (do eqGuard .quo t (.const (.int k a)) (.const (.int k b)) (.int k a) (.int k b); binOp .quo t (.int k a) (.int k b)) = if b ≠ 0 then some (.pv (.v (.int k (k.wrap (a.tdiv b)))), .no) else none := by
  by_cases hb : b ≠ 0
  · rw [if_pos hb]; exact bin_quo P t k a b hb
  · have : b = 0 := by omega
    subst this; rw [if_neg (by simp)]; simp [scal, eqGuard, binOp, Op.intDiv]; rfl
theorem bin_remI : scal P (do eqGuard .rem t (.const (.int k a)) (.const (.int k b)) (.int k a) (.int k b); binOp .rem t (.int k a) (.int k b)) = if b ≠ 0 then some (.pv (.v (.int k (a.tmod b))), .no) else none := by
  by_cases hb : b ≠ 0
  · rw [if_pos hb]; exact bin_rem P t k a b hb
  · have : b = 0 := by omega
    subst this; rw [if_neg (by simp)]; simp [scal, eqGuard, binOp, Op.intDiv]; rfl
theorem sbin_addI : scal P (do eqGuard .add t (.const (.string x)) (.const (.string y)) (.string x) (.string y); binOp .add t (.string x) (.string y)) = if x.size + y.size ≤ 9223372036854775807 then some (.pv (.v (.string (x ++ y))), .no) else none := by
  by_cases hb : x.size + y.size ≤ 9223372036854775807
  · rw [if_pos hb]; exact sbin_add P t x y hb
  · rw [if_neg hb]
    have hm : IntKind.i64.max = 9223372036854775807 := by rfl
    have h' : (((x.size + y.size : Nat) : Int) > IntKind.i64.max) := by rw [hm]; omega
    simp only [scal, eqGuard, binOp, Op.stringOp, h', if_true]; rfl
end
end Go.Sh
namespace Go.Sh
open Go Go.RowKit
def nilT : TV := .pv (.v (.slice none 0 0))
/-- A nil slice in a slot, or in a variable's cell, is one's own. -/
def ES.adT (s : ES) (k d e W : Nat) : ES := ⟨sv (s.fgt [d]).t k (.own d W []), (s.fgt [d]).b, sv (s.fgt [d]).r d (e, W, 0), (s.fgt [d]).i⟩
def ES.adB (s : ES) (x : Nat) (cs : List TV) (j d e W : Nat) : ES := ⟨(s.fgt [d]).t, sv (s.fgt [d]).b x (cs.set j (.own d W [])), sv (s.fgt [d]).r d (e, W, 0), (s.fgt [d]).i⟩
theorem own_nil {w : World} {E : Env} {r : Rows} {d e W : Nat} {v : Value} (hr : r d = some (e, W, 0)) (hg : E.γ d = none) (h : RelT w E r nilT v) : RelT w E r (.own d W []) v := by
  have hv : v = .slice none 0 0 := val_rel h rfl
  subst hv
  refine .own d W [] _ ?_ (fun e' W' n hn => ?_)
  · exact .sl W [] 0 0 0 none (fun _ _ => undef) (by simp) (by simp) (by simp) (by simp) (by simp) (by simp)
  · rw [hr] at hn; cases hn
    exact ⟨Nat.le_refl _, fun _ => ⟨rfl, by rw [hg]; rfl⟩⟩
section
variable {B : Base} {s : FS} {a : Act} {w : World} {E : Env}
theorem Sim.reT (h : Sim B s a w E) {k : Nat} {x y : TV} (hk : s.t k = some x) (hy : ∀ v, RelT w E s.r x v → RelT w E s.r y v) : Sim B (s.setT k y) a w E := by
  refine ⟨h.defers, h.size, fun j z hz => ?_, h.mem, h.itr, h.ii⟩
  rcases setF_inv hz with ⟨rfl, rfl⟩ | ⟨hj, hz⟩
  · exact ⟨(h.tmp j x hk).1, hy _ (h.tmp j x hk).2⟩
  · exact h.tmp j z hz
theorem Sim.reB (h : Sim B s a w E) {k : Nat} {cs ds : List TV} (hk : s.b k = some cs) (hy : ∀ (j : Nat) d, ds[j]? = some d → ∃ c, cs[j]? = some c ∧ ∀ v, RelT w E s.r c v → RelT w E s.r d v) : Sim B (s.setB k ds) a w E := by
  refine ⟨h.defers, h.size, h.tmp, ⟨fun d ds' hd => ?_, h.mem.row, fun d d' c c' h1 h2 h3 => ?_, fun d d' c q b cap h1 h2 h3 => ?_, h.mem.rr, h.mem.lt, h.mem.low, h.mem.keep, h.mem.knew, h.mem.pas⟩, h.itr, h.ii⟩
  · rcases setF_inv hd with ⟨rfl, rfl⟩ | ⟨_, hd⟩
    · obtain ⟨h1, h2⟩ := h.mem.box d cs hk
      refine ⟨⟨h1.lt, h1.obj, h1.fz, fun j c hc => ?_, h1.out⟩, h2⟩
      obtain ⟨c0, hc0, hw⟩ := hy j c hc
      obtain ⟨v, q1, q2, q3⟩ := h1.cell j c0 hc0
      exact ⟨v, q1, q2, hw v q3⟩
    · exact h.mem.box d ds' hd
  · have e1 : ∃ c, s.b d = some c := (setF_inv h1).elim (fun h => ⟨cs, h.1 ▸ hk⟩) (fun h => ⟨_, h.2⟩)
    have e2 : ∃ c, s.b d' = some c := (setF_inv h2).elim (fun h => ⟨cs, h.1 ▸ hk⟩) (fun h => ⟨_, h.2⟩)
    obtain ⟨c1, e1⟩ := e1; obtain ⟨c2, e2⟩ := e2
    exact h.mem.bb d d' c1 c2 e1 e2 h3
  · have e1 : ∃ c, s.b d = some c := (setF_inv h1).elim (fun h => ⟨cs, h.1 ▸ hk⟩) (fun h => ⟨_, h.2⟩)
    obtain ⟨c1, e1⟩ := e1
    exact h.mem.br d d' c1 q b cap e1 h2 h3
end
theorem adT_lw {s : ES} {k d e W : Nat} (hd : d < 1000 ∨ 2000 ≤ d) (hk : lk s.t k = some nilT) : (s.adT k d e W).Lw s := by
  intro B a w E hm hN hS
  have h1 := fgt_sound hS [d]
  have hf : Fresh (s.fgt [d]).fs d := fgt_fresh s (by simp)
  obtain ⟨E', e1, e2, e3, h2, h3⟩ := h1.adopt (d := d) (fun ho => by have := ho.1; have := ho.2; omega) hf e W
  refine ⟨E', ?_⟩
  have hk' : (s.fgt [d]).fs.t k = some nilT := by
    show lk ((s.fgt [d]).t) k = _
    simp only [ES.fgt, lk_map, hk]; rfl
  have := h2.reT (k := k) (x := nilT) (y := .own d W []) hk' (fun v hv => own_nil (e := e) (by simp [FS.setR, setF]) e3 hv)
  have he : (s.adT k d e W).fs = ((s.fgt [d]).fs.setR d (e, W, 0)).setT k (.own d W []) := by
    simp only [ES.adT, ES.fs, FS.setR, FS.setT, lk_sv]
  rw [he]; exact this
theorem adB_lw {s : ES} {x j d e W : Nat} {cs : List TV} (hd : d < 1000 ∨ 2000 ≤ d) (hne : x ≠ d) (hk : lk s.b x = some cs) (hc : cs.map (fgt3 [d]) = cs) (hj : cs[j]? = some nilT) : (s.adB x cs j d e W).Lw s := by
  intro B a w E hm hN hS
  have h1 := fgt_sound hS [d]
  have hf : Fresh (s.fgt [d]).fs d := fgt_fresh s (by simp)
  obtain ⟨E', e1, e2, e3, h2, h3⟩ := h1.adopt (d := d) (fun ho => by have := ho.1; have := ho.2; omega) hf e W
  refine ⟨E', ?_⟩
  have hk' : (s.fgt [d]).fs.b x = some cs := by
    rw [fgt_b]
    have : has [d] x = false := by simp only [has]; rw [beq_false (fun h => hne h.symm)]
    rw [this, hk]; simp [hc]
  have := h2.reB (k := x) (cs := cs) (ds := cs.set j (.own d W [])) hk' (fun i c hi => by
    by_cases hij : j = i
    · subst hij
      have hl : j < cs.length := (List.getElem?_eq_some_iff.1 hj).1
      rw [List.getElem?_set_self hl] at hi; cases hi
      exact ⟨nilT, hj, fun v hv => own_nil (e := e) (by simp [FS.setR, setF]) e3 hv⟩
    · rw [List.getElem?_set_ne hij] at hi
      exact ⟨c, hi, fun v hv => hv⟩)
  have he : (s.adB x cs j d e W).fs = ((s.fgt [d]).fs.setR d (e, W, 0)).setB x (cs.set j (.own d W [])) := by
    simp only [ES.adB, ES.fs, FS.setR, FS.setB, lk_sv]
  rw [he]; exact this
end Go.Sh
namespace Go.Sh
open Go
theorem reach_nil {s : FS} {rows : Bool} {n : Nat} {seen : List Nat} : reach s rows n [] seen = seen := by cases n <;> simp [reach]
def reachM (s : FS) (rows : Bool) (n d : Nat) (l seen : List Nat) : Option Nat → Option (List TV) → Option (Nat × Nat × Nat) → List Nat
  | some _, _, _ => reach s rows n l seen
  | none, some cs, _ => reach s rows n (cs.flatMap TV.ids1 ++ l) (seen ++ [d])
  | none, none, some _ => if rows then reach s rows n l (seen ++ [d]) else reach s rows n l seen
  | none, none, none => reach s rows n l seen
theorem reach_cons {s : FS} {rows : Bool} {n d : Nat} {l seen : List Nat} : reach s rows (n + 1) (d :: l) seen = reachM s rows n d l seen (pos seen d) (s.b d) (s.r d) := by
  simp only [reach]
  cases hp : pos seen d with
  | some j => rfl
  | none =>
    cases hb : s.b d with
    | some cs => rfl
    | none =>
      cases hr : s.r d with
      | none => rfl
      | some q => cases rows <;> rfl
theorem reach_m1 {s : FS} {rows : Bool} {n d j : Nat} {l seen : List Nat} {b : Option (List TV)} {r : Option (Nat × Nat × Nat)} : reachM s rows n d l seen (some j) b r = reach s rows n l seen := rfl
theorem reach_m2 {s : FS} {rows : Bool} {n d : Nat} {l seen : List Nat} {cs : List TV} {r : Option (Nat × Nat × Nat)} : reachM s rows n d l seen none (some cs) r = reach s rows n (cs.flatMap TV.ids1 ++ l) (seen ++ [d]) := rfl
theorem reach_m3 {s : FS} {rows : Bool} {n d : Nat} {l seen : List Nat} {q : Nat × Nat × Nat} : reachM s rows n d l seen none none (some q) = if rows then reach s rows n l (seen ++ [d]) else reach s rows n l seen := rfl
theorem reach_m4 {s : FS} {rows : Bool} {n d : Nat} {l seen : List Nat} : reachM s rows n d l seen none none none = reach s rows n l seen := rfl
end Go.Sh
namespace Go.Sh
open Go
section
variable {P : Program} {C : Oracle} {d e W n : Nat} {x y : Arg} {s : FS} {z : List Value}
def appNK (d e W n : Nat) : Option Bool → Option (List (List PV)) → Option (TV × Upd)
  | some true, some es2 => if es2.length * n ≤ 140737488355328 ∧ es2.length ≤ maxLen then some (.own d W es2, .row d (e, W, es2.length)) else none
  | _, _ => none
def appNSK (d e n : Nat) : Option Bool → Option ByteArray → Option (TV × Upd)
  | some true, some b => if b.size * n ≤ 140737488355328 ∧ b.size ≤ maxLen then some (.own d 1 (bytesP b), .row d (e, 1, b.size)) else none
  | _, _ => none
theorem e_appN : eff P C (some d) (.appN e W n x y) s = appNK d e W n ((x.get s).map TV.isNil) ((y.get s).bind (TV.elems W)) := by
  simp only [eff]
  generalize (x.get s).map TV.isNil = a
  generalize (y.get s).bind (TV.elems W) = b
  cases a with
  | none => rfl
  | some a => cases a <;> cases b <;> rfl
theorem e_appN1 {es : List (List PV)} : appNK d e W n (some true) (some es) = if es.length * n ≤ 140737488355328 ∧ es.length ≤ maxLen then some (.own d W es, .row d (e, W, es.length)) else none := rfl
theorem e_appN2 {o : Option (List (List PV))} : appNK d e W n (some false) o = none := by cases o <;> rfl
theorem e_appNS : eff P C (some d) (.appNS e n x y) s = appNSK d e n ((x.get s).map TV.isNil) ((y.get s).bind TV.str) := by
  simp only [eff]
  generalize (x.get s).map TV.isNil = a
  generalize (y.get s).bind TV.str = b
  cases a with
  | none => rfl
  | some a => cases a <;> cases b <;> rfl
theorem e_appNS1 {b : ByteArray} : appNSK d e n (some true) (some b) = if b.size * n ≤ 140737488355328 ∧ b.size ≤ maxLen then some (.own d 1 (bytesP b), .row d (e, 1, b.size)) else none := rfl
theorem e_appNS2 {o : Option ByteArray} : appNSK d e n (some false) o = none := by cases o <;> rfl
def rngK (d : Nat) : Option ByteArray → Option (TV × Upd)
  | some z => some (.it d, .it d (z, 0))
  | none => none
theorem e_rng : eff P C (some d) (.rng x) s = rngK d ((x.get s).bind TV.str) := by
  simp only [eff]
  generalize (x.get s).bind TV.str = b
  cases b <;> rfl
theorem e_rng1 {b : ByteArray} : rngK d (some b) = some (.it d, .it d (b, 0)) := rfl
def mksK (d n : Nat) (z : List Value) : Option TV → Option (TV × Upd)
  | some (.pv (.v (.int .i64 k))) => if 0 ≤ k ∧ n * k ≤ 140737488355328 ∧ k ≤ maxLen then some (.bs d 0 k.toNat k.toNat, .box ((List.replicate k.toNat (z.map fun v => TV.pv (.v v))).flatten)) else none
  | _ => none
theorem e_mks : eff P C (some d) (.mks n z x) s = mksK d n z (x.get s) := by
  simp only [eff]
  generalize x.get s = b
  unfold mksK
  split <;> split <;> simp_all
theorem e_mks1 {k : Int} : mksK d n z (some (.pv (.v (.int .i64 k)))) = if 0 ≤ k ∧ n * k ≤ 140737488355328 ∧ k ≤ maxLen then some (.bs d 0 k.toNat k.toNat, .box ((List.replicate k.toNat (z.map fun v => TV.pv (.v v))).flatten)) else none := rfl
end
end Go.Sh
namespace Go.Sh
open Go Go.RowKit
/-- What is known of a plain value may be made less. -/
def PWk (c d : PV) : Prop := ∀ w K v, RelV w K c v → RelV w K d v
theorem PWk.refl (c : PV) : PWk c c := fun _ _ _ h => h
theorem pwk_nil (W : Nat) : PWk (.v (.slice none 0 0)) (.sl W []) := by
  intro w K v h
  cases h
  exact .sl W [] 0 0 0 none (fun _ _ => undef) (by simp) (by simp) (by simp) (by simp) (by simp) (by simp)
theorem pwk_sl {W : Nat} {es es' : List (List PV)} (hl : es.length = es'.length) (h : ∀ (i : Nat) cs ds, es[i]? = some cs → es'[i]? = some ds → cs.length = ds.length ∧ ∀ (j : Nat) c d, cs[j]? = some c → ds[j]? = some d → PWk c d) : PWk (.sl W es) (.sl W es') := by
  intro w K v hv
  have key : ∀ (i j : Nat) (ds : List PV) (d : PV), es'[i]? = some ds → ds[j]? = some d → ∃ cs c, es[i]? = some cs ∧ cs[j]? = some c ∧ PWk c d := by
    intro i j ds d h1 h2
    have hi : i < es.length := by rw [hl]; exact (List.getElem?_eq_some_iff.1 h1).1
    obtain ⟨h3, h4⟩ := h i _ ds (List.getElem?_eq_getElem hi) h1
    have hj : j < es[i].length := by rw [h3]; exact (List.getElem?_eq_some_iff.1 h2).1
    exact ⟨_, _, List.getElem?_eq_getElem hi, List.getElem?_eq_getElem hj, h4 j _ d (List.getElem?_eq_getElem hj) h2⟩
  cases hv with
  | sl W es b off cap p f hp hcap hmax hW hc hs =>
    rw [hl]
    refine .sl W es' b off cap p f (fun hne => hp (fun h0 => hne (List.eq_nil_of_length_eq_zero (by rw [← hl, h0]; rfl)))) (by omega) hmax (fun ds hds => ?_) (fun i j ds d h1 h2 => ?_) (fun i j ds d h1 h2 => ?_)
    · obtain ⟨i, hi⟩ := List.getElem?_of_mem hds
      have hi' : i < es.length := by rw [hl]; exact (List.getElem?_eq_some_iff.1 hi).1
      rw [← (h i _ ds (List.getElem?_eq_getElem hi') hi).1]
      exact hW _ (List.getElem_mem hi')
    · obtain ⟨cs, c, h3, h4, _⟩ := key i j ds d h1 h2
      exact hc i j cs c h3 h4
    · obtain ⟨cs, c, h3, h4, h5⟩ := key i j ds d h1 h2
      exact h5 _ _ _ (hs i j cs c h3 h4)
theorem wk_pv {c d : PV} (h : PWk c d) : Wk (.pv c) (.pv d) := by
  intro w E r v hv
  cases hv with
  | pv hv => exact .pv (h _ _ _ hv)
theorem wk_own {d W : Nat} {es es' : List (List PV)} (hl : es.length = es'.length) (h : PWk (.sl W es) (.sl W es')) : Wk (.own d W es) (.own d W es') := by
  intro w E r v hv
  cases hv with
  | own d W es v h1 h2 => exact .own d W es' v (h _ _ _ h1) (fun e W' n hn => by rw [← hl]; exact h2 e W' n hn)
theorem reT_lw {s : ES} {k : Nat} {x y : TV} (hk : lk s.t k = some x) (hw : Wk x y) : (⟨sv s.t k y, s.b, s.r, s.i⟩ : ES).Lw s := by
  intro B a w E _ _ hS
  refine ⟨E, ?_⟩
  have := hS.reT (k := k) (x := x) (y := y) hk (fun v hv => hw _ _ _ _ hv)
  have he : (⟨sv s.t k y, s.b, s.r, s.i⟩ : ES).fs = s.fs.setT k y := by simp only [ES.fs, FS.setT, lk_sv]
  rw [he]; exact this
theorem reB_lw {s : ES} {k : Nat} {cs ds : List TV} (hk : lk s.b k = some cs) (hl : cs.length = ds.length) (hw : ∀ (j : Nat) c d, cs[j]? = some c → ds[j]? = some d → Wk c d) : (⟨s.t, sv s.b k ds, s.r, s.i⟩ : ES).Lw s := by
  intro B a w E _ _ hS
  refine ⟨E, ?_⟩
  have := hS.reB (k := k) (cs := cs) (ds := ds) hk (fun j d hd => by
    have hj : j < cs.length := by rw [hl]; exact (List.getElem?_eq_some_iff.1 hd).1
    exact ⟨_, List.getElem?_eq_getElem hj, fun v hv => hw j _ d (List.getElem?_eq_getElem hj) hd _ _ _ _ hv⟩)
  have he : (⟨s.t, sv s.b k ds, s.r, s.i⟩ : ES).fs = s.fs.setB k ds := by simp only [ES.fs, FS.setB, lk_sv]
  rw [he]; exact this
end Go.Sh
namespace Go.Sh
open Go Go.RowKit
theorem wk_own_pv {d W : Nat} {es es' : List (List PV)} (h : PWk (.sl W es) (.sl W es')) : Wk (.own d W es) (.pv (.sl W es')) := by
  intro w E r v hv
  cases hv with
  | own d W es v h1 h2 => exact .pv (h _ _ _ h1)
theorem pwk_last {W : Nat} {es : List (List PV)} {cs ds : List PV} (hl : cs.length = ds.length) (h : ∀ (j : Nat) c d, cs[j]? = some c → ds[j]? = some d → PWk c d) : PWk (.sl W (es ++ [cs])) (.sl W (es ++ [ds])) := by
  refine pwk_sl (by simp) (fun i a b h1 h2 => ?_)
  by_cases hi : i < es.length
  · rw [List.getElem?_append_left hi] at h1 h2
    rw [h1] at h2; cases h2
    exact ⟨rfl, fun j c d h3 h4 => by rw [h3] at h4; cases h4; exact .refl c⟩
  · rw [List.getElem?_append_right (by omega)] at h1 h2
    have h0 : i - es.length = 0 := by
      have := (List.getElem?_eq_some_iff.1 h1).1; simp at this; omega
    rw [h0] at h1 h2; simp at h1 h2; subst h1; subst h2
    exact ⟨hl, h⟩
end Go.Sh
namespace Go.Sh
open Go
section
variable {P : Program} {C : Oracle} {dst : Option Nat} {W l h : Nat} {x : Arg} {lo hi : Option Arg} {s : FS} {z : ByteArray} {es : List (List PV)} {c : Prop} [Decidable c] {o : Option Nat}
def ssubK (z : ByteArray) : Option Nat → Option Nat → Option (TV × Upd)
  | some l, some h => if l ≤ h ∧ h ≤ z.size then some (.pv (.v (.string (z.extract l h))), .no) else none
  | _, _ => none
def ssubM (s : FS) (lo hi : Option Arg) : Option ByteArray → Option (TV × Upd)
  | some z => ssubK z (bound s 0 lo) (bound s z.size hi)
  | none => none
theorem e_ssub : eff P C dst (.ssub x lo hi) s = ssubM s lo hi ((x.get s).bind TV.str) := by
  simp only [eff]; generalize (x.get s).bind TV.str = a
  cases a with
  | none => rfl
  | some z =>
    unfold ssubM ssubK
    simp only []
    generalize bound s 0 lo = u
    generalize bound s z.size hi = v
    cases u <;> cases v <;> rfl
theorem e_ssub1 : ssubM s lo hi (some z) = ssubK z (bound s 0 lo) (bound s z.size hi) := rfl
theorem e_ssub2 : ssubK z (some l) (some h) = if l ≤ h ∧ h ≤ z.size then some (.pv (.v (.string (z.extract l h))), .no) else none := rfl
theorem e_ssub3 : ssubK z (some l) (if c then some h else none) = if c then ssubK z (some l) (some h) else none := by split <;> rfl
theorem e_ssub4 : ssubK z (if c then some l else none) o = if c then ssubK z (some l) o else none := by
  split
  · rfl
  · cases o <;> rfl
def subK (W : Nat) (es : List (List PV)) : Option Nat → Option Nat → Option (TV × Upd)
  | some l, some h => if l ≤ h ∧ h ≤ es.length then some (.pv (.sl W ((es.take h).drop l)), .no) else none
  | _, _ => none
def subM (s : FS) (W : Nat) (lo hi : Option Arg) : Option (List (List PV)) → Option (TV × Upd)
  | some es => subK W es (bound s 0 lo) (bound s es.length hi)
  | none => none
theorem e_sub1 : subM s W lo hi (some es) = subK W es (bound s 0 lo) (bound s es.length hi) := rfl
theorem e_sub2 : subK W es (some l) (some h) = if l ≤ h ∧ h ≤ es.length then some (.pv (.sl W ((es.take h).drop l)), .no) else none := rfl
theorem e_sub3 : subK W es (some l) (if c then some h else none) = if c then subK W es (some l) (some h) else none := by split <;> rfl
theorem e_sub4 : subK W es (if c then some l else none) o = if c then subK W es (some l) o else none := by
  split
  · rfl
  · cases o <;> rfl
theorem e_sub5 {W' : Nat} : subM s W lo hi (TV.elems W (.pv (.sl W' es))) = subM s W lo hi (if Nat.beq W' W then some es else none) := rfl
def subT (s : FS) (W : Nat) (lo hi : Option Arg) : Option TV → Option (TV × Upd)
  | some (.bs d off n c) => match bound s 0 lo, bound s n hi with
      | some l, some h => if l ≤ h ∧ h ≤ n ∧ n ≤ c then some (if c = l then .bs d off (h - l) (c - l) else .bs d (off + l * W) (h - l) (c - l), .no) else none
      | _, _ => none
  | some t => subM s W lo hi (t.elems W)
  | none => none
theorem e_sub : eff P C dst (.sub W x lo hi) s = subT s W lo hi (x.get s) := by
  simp only [eff]; generalize x.get s = a
  cases a with
  | none => rfl
  | some t =>
    have key : ∀ q : Option (List (List PV)), (match q with
        | some es => match bound s 0 lo, bound s es.length hi with
          | some l, some h => if l ≤ h ∧ h ≤ es.length then some (TV.pv (.sl W ((es.take h).drop l)), Upd.no) else none
          | _, _ => none
        | none => none) = subM s W lo hi q := by
      intro q
      cases q with
      | none => rfl
      | some es =>
        unfold subM subK
        generalize bound s 0 lo = u
        generalize bound s es.length hi = v
        cases u <;> cases v <;> rfl
    cases t with
    | bs d off n c => rfl
    | pv p => exact key ((TV.pv p).elems W)
    | own d W' es => exact key ((TV.own d W' es).elems W)
    | _ => rfl
theorem e_subT1 {p : PV} : subT s W lo hi (some (.pv p)) = subM s W lo hi ((TV.pv p).elems W) := rfl
theorem e_subT2 {d : Nat} {W' : Nat} : subT s W lo hi (some (.own d W' es)) = subM s W lo hi ((TV.own d W' es).elems W) := rfl
theorem e_subT3 {d off n c : Nat} : subT s W lo hi (some (.bs d off n c)) = (match bound s 0 lo, bound s n hi with
      | some l, some h => if l ≤ h ∧ h ≤ n ∧ n ≤ c then some (if c = l then .bs d off (h - l) (c - l) else .bs d (off + l * W) (h - l) (c - l), .no) else none
      | _, _ => none) := rfl
end
end Go.Sh
namespace Go.Sh
open Go
theorem gW_undef {w : Bool} {gs : Nat} {A B : ES → Prop} {s : ES} : guardW (some (.pv (.v undef))) w gs A B s = B s := rfl
end Go.Sh
end

section
/- Sh: the rules of walks in one. No statement of the program is proved here. -/
namespace Go.Sh
open Go Go.RowKit Go.Mor
set_option maxRecDepth 100000
theorem vcA : (type_of% @Go.Sh.bFT) ∧ (type_of% @Go.Sh.bTF) ∧ (type_of% @Go.Sh.ES.fgt.eq_1) ∧ (type_of% @List.map_cons.{0, 0}) ∧ (type_of% @List.map_nil.{0, 0}) ∧ (type_of% @Go.Sh.fgt3.eq_1) ∧ (type_of% @Go.Sh.TV.m3.eq_1) ∧ (type_of% @Go.Sh.TV.m3.eq_2) ∧ (type_of% @Go.Sh.TV.m2.eq_1) ∧ (type_of% @Go.Sh.TV.m2.eq_2) ∧ (type_of% @Go.Sh.TV.m1.eq_1) ∧ (type_of% @Go.Sh.TV.m1.eq_2) ∧ (type_of% @Go.Sh.TV.m0.eq_1) ∧ (type_of% @Go.Sh.TV.m0.eq_2) ∧ (type_of% @Go.Sh.TV.m0.eq_3) ∧ (type_of% @Go.Sh.TV.m0.eq_4) ∧ (type_of% @Go.Sh.TV.m0.eq_5) ∧ (type_of% @Go.Sh.TV.m0.eq_6) ∧ (type_of% @Go.Sh.TV.m0.eq_7) ∧ (type_of% @List.any_cons.{0}) ∧ (type_of% @List.any_nil.{0}) ∧ (type_of% @Bool.or_false) ∧ (type_of% @Bool.false_or) ∧ (type_of% @Go.Sh.drp.eq_1) ∧ (type_of% @Go.Sh.drp.eq_2) ∧ (type_of% @Go.Sh.effG.eq_1) ∧ (type_of% @Go.Sh.effF.eq_1) ∧ (type_of% @Go.Sh.footOk.eq_1) ∧ (type_of% @Go.Sh.SOp.foot.eq_1) ∧ (type_of% @Go.Sh.SOp.foot.eq_2) ∧ (type_of% @Go.Sh.SOp.foot.eq_3) ∧ (type_of% @Go.Sh.eff.eq_1) ∧ (type_of% @Go.Sh.eff.eq_2) ∧ (type_of% @Go.Sh.eff.eq_3) ∧ (type_of% @Go.Sh.eff.eq_4) ∧ (type_of% @Go.Sh.eff.eq_5) ∧ (type_of% @Go.Sh.eff.eq_6) ∧ (type_of% @Go.Sh.eff.eq_7) ∧ (type_of% @Go.Sh.eff.eq_8) ∧ (type_of% @Go.Sh.eff.eq_9) ∧ (type_of% @Go.Sh.eff.eq_11) ∧ (type_of% @Go.Sh.eff.eq_12) ∧ (type_of% @Go.Sh.eff.eq_13) ∧ (type_of% @Go.Sh.eff.eq_14) ∧ (type_of% @Go.Sh.eff.eq_15) ∧ (type_of% @Go.Sh.eff.eq_16) ∧ (type_of% @Go.Sh.eff.eq_17) ∧ (type_of% @Go.Sh.eff.eq_18) ∧ (type_of% @Go.Sh.eff.eq_19) ∧ (type_of% @Go.Sh.eff.eq_20) ∧ (type_of% @Go.Sh.eff.eq_21) ∧ (type_of% @Go.Sh.eff.eq_22) ∧ (type_of% @Go.Sh.eff.eq_23) ∧ (type_of% @Go.Sh.eff.eq_25) ∧ (type_of% @Go.Sh.eff.eq_28) ∧ (type_of% @Go.Sh.eff.eq_31) ∧ (type_of% @Go.Sh.eff.eq_32) ∧ (type_of% @Go.Sh.eff.eq_33) ∧ (type_of% @Go.Sh.eff.eq_34) ∧ (type_of% @Go.Sh.eff.eq_35) ∧ (type_of% @Go.Sh.eff.eq_38) ∧ (type_of% @Go.Sh.Arg.get.eq_1) ∧ (type_of% @Go.Sh.Arg.get.eq_2) ∧ (type_of% @Go.Sh.ES.fs.eq_1) ∧ (type_of% @Go.Sh.lk.eq_1) ∧ (type_of% @Go.Sh.lk.eq_2) ∧ (type_of% @Option.map_some.{0, 0}) ∧ (type_of% @Option.bind_some.{0, 0}) ∧ (type_of% @Go.Sh.ES.after.eq_1) ∧ (type_of% @Go.Sh.ES.upd.eq_1) ∧ (type_of% @Go.Sh.ES.upd.eq_2) ∧ (type_of% @Go.Sh.ES.upd.eq_3) ∧ (type_of% @Go.Sh.ES.upd.eq_4) ∧ (type_of% @Go.Sh.ES.upd.eq_5) ∧ (type_of% @Go.Sh.ES.upd.eq_6) ∧ (type_of% @Go.Sh.ES.upd.eq_7) ∧ (type_of% @Go.Sh.ES.put.eq_1) ∧ (type_of% @Go.Sh.ES.put.eq_2) ∧ (type_of% @Go.Sh.sv.eq_1) ∧ (type_of% @Go.Sh.sv.eq_2) ∧ (type_of% @Go.Sh.ES.kill.eq_1) ∧ (type_of% @Go.Sh.ES.kill.eq_2) ∧ (type_of% @Go.Sh.has.eq_1) ∧ (type_of% @Go.Sh.has.eq_2) ∧ (type_of% @Go.Sh.nbeq) ∧ (type_of% @Go.Sh.nble) ∧ (type_of% @Go.Sh.nblt) ∧ (type_of% @Go.Sh.TV.val.eq_1) ∧ (type_of% @Go.Sh.TV.val.eq_2) ∧ (type_of% @Go.Sh.TV.val1.eq_1) ∧ (type_of% @Go.Sh.TV.val1.eq_2) ∧ (type_of% @Go.Sh.TV.int.eq_1) ∧ (type_of% @Go.Sh.TV.int.eq_2) ∧ (type_of% @Go.Sh.TV.str.eq_1) ∧ (type_of% @Go.Sh.TV.str.eq_2) ∧ (type_of% @Go.Sh.TV.cells.eq_1) ∧ (type_of% @Go.Sh.TV.cells.eq_2) ∧ (type_of% @Go.Sh.TV.cells.eq_3) ∧ (type_of% @Go.Sh.TV.cells.eq_4) ∧ (type_of% @Go.Sh.TV.cells.eq_5) ∧ (type_of% @Go.Sh.TV.slen.eq_1) ∧ (type_of% @Go.Sh.TV.slen.eq_2) ∧ (type_of% @Go.Sh.TV.slen.eq_3) ∧ (type_of% @Go.Sh.TV.slen.eq_4) ∧ (type_of% @Go.Sh.TV.slen.eq_5) ∧ (type_of% @Go.Sh.TV.toPV.eq_1) ∧ (type_of% @Go.Sh.TV.toPV.eq_2) ∧ (type_of% @Go.Sh.TV.toPV.eq_3) ∧ (type_of% @Go.Sh.TV.pvs.eq_1) ∧ (type_of% @Go.Sh.seqO.eq_1) ∧ (type_of% @Go.Sh.seqO.eq_2) ∧ (type_of% @Go.Sh.bin_lss) ∧ (type_of% @Go.Sh.bin_gtr) ∧ (type_of% @Go.Sh.bin_leq) ∧ (type_of% @Go.Sh.bin_geq) ∧ (type_of% @Go.Sh.bin_eql) ∧ (type_of% @Go.Sh.bin_neq) ∧ (type_of% @Go.Sh.bin_add) ∧ (type_of% @Go.Sh.bin_sub) ∧ (type_of% @Go.Sh.bin_mul) ∧ (type_of% @Go.Sh.sbin_eql) ∧ (type_of% @Go.Sh.sbin_neq) ∧ (type_of% @Go.Sh.sbin_lss) ∧ (type_of% @Go.Sh.sbin_gtr) ∧ (type_of% @Go.Sh.un_neg) ∧ (type_of% @Go.Sh.un_not) ∧ (type_of% @Go.Sh.startE.eq_1) ∧ (type_of% @Go.Sh.numT.eq_1) ∧ (type_of% @Go.Sh.numT.eq_2) ∧ (type_of% @Go.Sh.numB.eq_1) ∧ (type_of% @Go.Sh.numB.eq_2) ∧ (type_of% @Go.Sh.numB.eq_3) ∧ (type_of% @Go.Sh.numR.eq_1) ∧ (type_of% @Go.Sh.numR.eq_2) ∧ (type_of% @Go.Sh.numR.eq_3) ∧ (type_of% @Go.Sh.ansW.eq_1) ∧ (type_of% @Go.Sh.ansW.eq_2) ∧ (type_of% @Go.Sh.resT.eq_1) ∧ (type_of% @Go.Sh.resT.eq_2) ∧ (type_of% @Go.Sh.SRes.get.eq_1) ∧ (type_of% @Go.Sh.SRes.get.eq_2) ∧ (type_of% @List.flatMap_nil.{0, 0}) ∧ (type_of% @List.flatMap_cons.{0, 0}) ∧ (type_of% @List.append_nil.{0}) ∧ (type_of% @List.nil_append.{0}) ∧ (type_of% @Go.Sh.TV.ids3.eq_1) ∧ (type_of% @Go.Sh.TV.ids3.eq_2) ∧ (type_of% @Go.Sh.TV.ids2.eq_1) ∧ (type_of% @Go.Sh.TV.ids2.eq_2) ∧ (type_of% @Go.Sh.TV.ids1.eq_1) ∧ (type_of% @Go.Sh.TV.ids1.eq_2) ∧ (type_of% @Go.Sh.TV.ids0.eq_1) ∧ (type_of% @Go.Sh.TV.ids0.eq_2) ∧ (type_of% @Go.Sh.TV.ids0.eq_3) ∧ (type_of% @Go.Sh.TV.ids0.eq_4) ∧ (type_of% @Go.Sh.TV.ren3.eq_1) ∧ (type_of% @Go.Sh.TV.ren3.eq_2) ∧ (type_of% @Go.Sh.TV.ren2.eq_1) ∧ (type_of% @Go.Sh.TV.ren2.eq_2) ∧ (type_of% @Go.Sh.TV.ren1.eq_1) ∧ (type_of% @Go.Sh.TV.ren1.eq_2) ∧ (type_of% @Go.Sh.TV.ren0.eq_1) ∧ (type_of% @Go.Sh.TV.ren0.eq_2) ∧ (type_of% @Go.Sh.TV.ren0.eq_3) ∧ (type_of% @Go.Sh.TV.ren0.eq_4) ∧ (type_of% @Go.Sh.TV.ren0.eq_5) ∧ (type_of% @Go.Sh.TV.ren0.eq_6) ∧ (type_of% @Go.Sh.bound.eq_1) ∧ (type_of% @Go.Sh.bound.eq_2) ∧ (type_of% @if_true.{1}) ∧ (type_of% @if_false.{1}) ∧ (type_of% @Bool.false_eq_true) ∧ (type_of% @Go.Sh.partsT.eq_1) ∧ (type_of% @Go.Sh.fillT.eq_1) ∧ (type_of% @Go.Sh.fillT.eq_2) ∧ (type_of% @Go.Sh.splice.eq_1) ∧ (type_of% @List.take_zero.{0}) ∧ (type_of% @List.take_succ_cons.{0}) ∧ (type_of% @List.drop_zero.{0}) ∧ (type_of% @List.drop_succ_cons.{0}) ∧ (type_of% @List.length_cons.{0}) ∧ (type_of% @List.length_nil.{0}) ∧ (type_of% @and_self) ∧ (type_of% @and_true) ∧ (type_of% @true_and) ∧ (type_of% @List.cons_append.{0}) ∧ (type_of% @List.getElem?_cons_zero.{0}) ∧ (type_of% @List.getElem?_cons_succ.{0}) ∧ (type_of% @Nat.zero_add) ∧ (type_of% @Bool.not_true) ∧ (type_of% @Bool.not_false) ∧ (type_of% @Go.Value.oneCell'.eq_1) ∧ (type_of% @Go.Value.oneCell'.eq_2) ∧ (type_of% @Go.Value.oneCell'.eq_3) ∧ (type_of% @Go.Mor.str_toList) ∧ (type_of% @Go.Mor.str_size') ∧ (type_of% @Int.toNat_natCast) ∧ (type_of% @decide_true) ∧ (type_of% @decide_false) ∧ (type_of% @beq_self_eq_true.{0}) ∧ (type_of% @Go.Sh.handI.eq_1) ∧ (type_of% @Go.Sh.FS.mo.eq_1) ∧ (type_of% @Go.Sh.MO.ren.eq_1) ∧ (type_of% @Go.Sh.MO.ren.eq_2) ∧ (type_of% @Go.Sh.rhoIn.eq_1) ∧ (type_of% @Go.Sh.pos.eq_1) ∧ (type_of% @Go.Sh.pos.eq_2) ∧ (type_of% @Go.Sh.rhoOut.eq_1) ∧ (type_of% @Go.Sh.outs.eq_1) ∧ (type_of% @Go.Sh.outs.eq_2) ∧ (type_of% @Go.Sh.newId.eq_1) ∧ (type_of% @Go.Sh.dstId.eq_1) ∧ (type_of% @Go.Sh.dstId.eq_2) ∧ (type_of% @Go.Sh.putMem.eq_1) ∧ (type_of% @Go.Sh.putMem.eq_2) ∧ (type_of% @List.lookup.eq_1.{0, 0}) ∧ (type_of% @List.lookup.eq_2.{0, 0}) ∧ (type_of% @Go.Sh.moOk.eq_1) ∧ (type_of% @Go.Sh.moOk.eq_2) ∧ (type_of% @Go.Sh.moOk.eq_3) ∧ (type_of% @Go.Sh.moOk.eq_4) ∧ (type_of% @Nat.le_refl) ∧ (type_of% @Int.natCast_nonneg) ∧ (type_of% @Go.Sh.v_skip) ∧ (type_of% @Go.Sh.v_seq) ∧ (type_of% @Go.Sh.v_exit) ∧ (type_of% @Go.Sh.v_ret) ∧ (type_of% @Go.Sh.v_block) ∧ (type_of% @Go.Sh.v_cond) ∧ (type_of% @Go.Sh.v_reg) ∧ (type_of% @Go.Sh.v_reg2) ∧ (type_of% @Go.Sh.v_nil) ∧ (type_of% @Go.Sh.v_regK) ∧ (type_of% @Go.Sh.v_skipK) ∧ (type_of% @Go.Sh.v_op) ∧ (type_of% @Go.Sh.v_guard) ∧ (type_of% @Go.Sh.gW) ∧ (type_of% @Go.Sh.gW_u) ∧ (type_of% @Go.Sh.PostR.eq_1) ∧ (type_of% @Go.Sh.PostR.eq_2) ∧ (type_of% @Go.Sh.PostR.eq_3) ∧ (type_of% @Go.Sh.exitR.eq_1) ∧ (type_of% @Go.Sh.exitF.eq_1) ∧ (type_of% @Go.Sh.idsFrom.eq_1) ∧ (type_of% @Go.Sh.idsFrom.eq_2) ∧ (type_of% @Go.Sh.gW_undef) ∧ (type_of% @Nat.sub_zero) ∧ (type_of% @Go.Sh.gW_i) ∧ (type_of% @Go.Sh.gK_T1) ∧ (type_of% @Go.Sh.gK_T0) ∧ (type_of% @Go.Sh.gK_F1) ∧ (type_of% @Go.Sh.gK_F0) ∧ (type_of% @Go.Sh.gK_d1) ∧ (type_of% @Go.Sh.gK_d0) ∧ (type_of% @Go.Sh.gK_n1) ∧ (type_of% @Go.Sh.gK_n0) ∧ (type_of% @Go.Sh.v_then_n) ∧ (type_of% @Go.Sh.v_then_r) ∧ (type_of% @Go.Sh.v_then_x) ∧ (type_of% @Go.Sh.v_blk_n) ∧ (type_of% @Go.Sh.v_blk_r) ∧ (type_of% @Go.Sh.v_blk_x) ∧ (type_of% @Go.Sh.s_some) ∧ (type_of% @Go.Sh.s_none) ∧ (type_of% @Go.Sh.s_ite) ∧ (type_of% @Go.Sh.s_get) ∧ (type_of% @Go.Sh.bW_T) ∧ (type_of% @Go.Sh.bW_F) ∧ (type_of% @Go.Sh.bW_d) ∧ (type_of% @Go.Sh.bW_n) ∧ (type_of% @Go.Sh.bW_a) ∧ (type_of% @Go.Sh.bW_o) ∧ (type_of% @Go.Sh.bK) ∧ (type_of% @Go.Sh.callIn.eq_1) ∧ (type_of% @Go.Sh.callOut.eq_1) ∧ (type_of% @Go.Sh.callvIn.eq_1) ∧ (type_of% @Go.Sh.TV.callee.eq_1) ∧ (type_of% @Go.Sh.TV.callee.eq_2) ∧ (type_of% @Go.Sh.TV.callee.eq_3) ∧ (type_of% @Go.Sh.TV.callee.eq_4) ∧ (type_of% @Go.Sh.Post0.eq_1) ∧ (type_of% @Go.Sh.Post0.eq_2) ∧ (type_of% @Go.Sh.Post0.eq_3) ∧ (type_of% @Go.Sh.Post1.eq_1) ∧ (type_of% @Go.Sh.Post1.eq_2) ∧ (type_of% @Go.Sh.Post1.eq_3) ∧ (type_of% @Go.Sh.ansW1.eq_1) ∧ (type_of% @Go.Sh.ansW1.eq_2) ∧ (type_of% @Go.Sh.bin_quoI) ∧ (type_of% @Go.Sh.bin_remI) ∧ (type_of% @Go.Sh.sbin_addI) ∧ (type_of% @Go.Sh.TV.elems.eq_1) ∧ (type_of% @Go.Sh.TV.elems.eq_2) ∧ (type_of% @Go.Sh.TV.elems.eq_3) ∧ (type_of% @Go.Sh.TV.elems.eq_4) ∧ (type_of% @Go.Sh.TV.isNil.eq_1) ∧ (type_of% @Go.Sh.TV.isNil.eq_2) ∧ (type_of% @List.all_cons.{0}) ∧ (type_of% @List.all_nil.{0}) ∧ (type_of% @Bool.and_true) ∧ (type_of% @Bool.true_and) ∧ (type_of% @Bool.and_false) ∧ (type_of% @Bool.false_and) ∧ (type_of% @Bool.and_self) ∧ (type_of% @ne_eq.{1}) ∧ (type_of% @not_false_eq_true) ∧ (type_of% @not_true_eq_false) ∧ (type_of% @false_and) ∧ (type_of% @and_false) ∧ (type_of% @or_false) ∧ (type_of% @or_self) ∧ (type_of% @false_or) ∧ (type_of% @imp_self) ∧ (type_of% @forall_const.{0}) ∧ (type_of% @Option.isNone_none.{0}) ∧ (type_of% @List.getElem?_nil.{0}) ∧ (type_of% @decide_eq_true_eq) ∧ (type_of% @eq_self.{1}) ∧ (type_of% @Go.Mor.str_list) ∧ (type_of% @Go.Mor.str_append) ∧ (type_of% @Go.Mor.str_extract) ∧ (type_of% @List.getElem?_map.{0, 0}) ∧ (type_of% @Option.map_map.{0, 0, 0}) ∧ (type_of% @List.length_map.{0, 0}) ∧ (type_of% @Function.comp_apply.{1, 1, 1}) ∧ (type_of% @List.length_append.{0}) ∧ (type_of% @List.length_set.{0}) ∧ (type_of% @List.set_cons_zero.{0}) ∧ (type_of% @List.set_cons_succ.{0}) ∧ (type_of% @imp_false) ∧ (type_of% @Decidable.not_not) ∧ (type_of% @Go.Sh.e_ssub) ∧ (type_of% @Go.Sh.e_ssub1) ∧ (type_of% @Go.Sh.e_ssub2) ∧ (type_of% @Go.Sh.e_ssub3) ∧ (type_of% @Go.Sh.e_ssub4) ∧ (type_of% @Go.Sh.e_sub) ∧ (type_of% @Go.Sh.e_sub1) ∧ (type_of% @Go.Sh.e_sub2) ∧ (type_of% @Go.Sh.e_sub3) ∧ (type_of% @Go.Sh.e_sub4) ∧ (type_of% @Go.Sh.e_subT1) ∧ (type_of% @Go.Sh.e_subT2) ∧ (type_of% @Go.Sh.e_subT3) ∧ (type_of% @Go.Sh.e_appN) ∧ (type_of% @Go.Sh.e_appN1) ∧ (type_of% @Go.Sh.e_appN2) ∧ (type_of% @Go.Sh.e_appNS) ∧ (type_of% @Go.Sh.e_appNS1) ∧ (type_of% @Go.Sh.e_appNS2) ∧ (type_of% @Go.Sh.e_rng) ∧ (type_of% @Go.Sh.e_rng1) ∧ (type_of% @Go.Sh.e_mks) ∧ (type_of% @Go.Sh.e_mks1) ∧ (type_of% @Go.Sh.reach_nil) ∧ (type_of% @Go.Sh.reach_cons) ∧ (type_of% @Go.Sh.reach_m1) ∧ (type_of% @Go.Sh.reach_m2) ∧ (type_of% @Go.Sh.reach_m3) ∧ (type_of% @Go.Sh.reach_m4) ∧ (type_of% @Option.map_none.{0, 0}) ∧ (type_of% @Option.bind_none.{0, 0}) ∧ (type_of% @Go.Sh.nc_mov) ∧ (type_of% @Go.Sh.nc_pick) ∧ (type_of% @Go.Sh.nc_bin) ∧ (type_of% @Go.Sh.nc_un) ∧ (type_of% @Go.Sh.nc_cvi) ∧ (type_of% @Go.Sh.nc_cvs) ∧ (type_of% @Go.Sh.nc_b2s) ∧ (type_of% @Go.Sh.nc_imm) ∧ (type_of% @Go.Sh.nc_sidx) ∧ (type_of% @Go.Sh.nc_ssub) ∧ (type_of% @Go.Sh.nc_slen) ∧ (type_of% @Go.Sh.nc_new) ∧ (type_of% @Go.Sh.nc_box) ∧ (type_of% @Go.Sh.nc_build) ∧ (type_of% @Go.Sh.nc_bsl) ∧ (type_of% @Go.Sh.nc_fld) ∧ (type_of% @Go.Sh.nc_fldA) ∧ (type_of% @Go.Sh.nc_ld) ∧ (type_of% @Go.Sh.nc_st) ∧ (type_of% @Go.Sh.nc_len) ∧ (type_of% @Go.Sh.nc_idxA) ∧ (type_of% @Go.Sh.nc_sub) ∧ (type_of% @Go.Sh.nc_app) ∧ (type_of% @Go.Sh.nc_appS) ∧ (type_of% @Go.Sh.nc_appN) ∧ (type_of% @Go.Sh.nc_appNS) ∧ (type_of% @Go.Sh.nc_ext) ∧ (type_of% @Go.Sh.nc_nchk) ∧ (type_of% @Go.Sh.nc_mkf) ∧ (type_of% @Go.Sh.nc_rng) ∧ (type_of% @Go.Sh.nc_nxt) ∧ (type_of% @Go.Sh.nc_mks) :=
  ⟨@Go.Sh.bFT, @Go.Sh.bTF, @Go.Sh.ES.fgt.eq_1, @List.map_cons.{0, 0}, @List.map_nil.{0, 0}, @Go.Sh.fgt3.eq_1, @Go.Sh.TV.m3.eq_1, @Go.Sh.TV.m3.eq_2, @Go.Sh.TV.m2.eq_1, @Go.Sh.TV.m2.eq_2, @Go.Sh.TV.m1.eq_1, @Go.Sh.TV.m1.eq_2, @Go.Sh.TV.m0.eq_1, @Go.Sh.TV.m0.eq_2, @Go.Sh.TV.m0.eq_3, @Go.Sh.TV.m0.eq_4, @Go.Sh.TV.m0.eq_5, @Go.Sh.TV.m0.eq_6, @Go.Sh.TV.m0.eq_7, @List.any_cons.{0}, @List.any_nil.{0}, @Bool.or_false, @Bool.false_or, @Go.Sh.drp.eq_1, @Go.Sh.drp.eq_2, @Go.Sh.effG.eq_1, @Go.Sh.effF.eq_1, @Go.Sh.footOk.eq_1, @Go.Sh.SOp.foot.eq_1, @Go.Sh.SOp.foot.eq_2, @Go.Sh.SOp.foot.eq_3, @Go.Sh.eff.eq_1, @Go.Sh.eff.eq_2, @Go.Sh.eff.eq_3, @Go.Sh.eff.eq_4, @Go.Sh.eff.eq_5, @Go.Sh.eff.eq_6, @Go.Sh.eff.eq_7, @Go.Sh.eff.eq_8, @Go.Sh.eff.eq_9, @Go.Sh.eff.eq_11, @Go.Sh.eff.eq_12, @Go.Sh.eff.eq_13, @Go.Sh.eff.eq_14, @Go.Sh.eff.eq_15, @Go.Sh.eff.eq_16, @Go.Sh.eff.eq_17, @Go.Sh.eff.eq_18, @Go.Sh.eff.eq_19, @Go.Sh.eff.eq_20, @Go.Sh.eff.eq_21, @Go.Sh.eff.eq_22, @Go.Sh.eff.eq_23, @Go.Sh.eff.eq_25, @Go.Sh.eff.eq_28, @Go.Sh.eff.eq_31, @Go.Sh.eff.eq_32, @Go.Sh.eff.eq_33, @Go.Sh.eff.eq_34, @Go.Sh.eff.eq_35, @Go.Sh.eff.eq_38, @Go.Sh.Arg.get.eq_1, @Go.Sh.Arg.get.eq_2, @Go.Sh.ES.fs.eq_1, @Go.Sh.lk.eq_1, @Go.Sh.lk.eq_2, @Option.map_some.{0, 0}, @Option.bind_some.{0, 0}, @Go.Sh.ES.after.eq_1, @Go.Sh.ES.upd.eq_1, @Go.Sh.ES.upd.eq_2, @Go.Sh.ES.upd.eq_3, @Go.Sh.ES.upd.eq_4, @Go.Sh.ES.upd.eq_5, @Go.Sh.ES.upd.eq_6, @Go.Sh.ES.upd.eq_7, @Go.Sh.ES.put.eq_1, @Go.Sh.ES.put.eq_2, @Go.Sh.sv.eq_1, @Go.Sh.sv.eq_2, @Go.Sh.ES.kill.eq_1, @Go.Sh.ES.kill.eq_2, @Go.Sh.has.eq_1, @Go.Sh.has.eq_2, @Go.Sh.nbeq, @Go.Sh.nble, @Go.Sh.nblt, @Go.Sh.TV.val.eq_1, @Go.Sh.TV.val.eq_2, @Go.Sh.TV.val1.eq_1, @Go.Sh.TV.val1.eq_2, @Go.Sh.TV.int.eq_1, @Go.Sh.TV.int.eq_2, @Go.Sh.TV.str.eq_1, @Go.Sh.TV.str.eq_2, @Go.Sh.TV.cells.eq_1, @Go.Sh.TV.cells.eq_2, @Go.Sh.TV.cells.eq_3, @Go.Sh.TV.cells.eq_4, @Go.Sh.TV.cells.eq_5, @Go.Sh.TV.slen.eq_1, @Go.Sh.TV.slen.eq_2, @Go.Sh.TV.slen.eq_3, @Go.Sh.TV.slen.eq_4, @Go.Sh.TV.slen.eq_5, @Go.Sh.TV.toPV.eq_1, @Go.Sh.TV.toPV.eq_2, @Go.Sh.TV.toPV.eq_3, @Go.Sh.TV.pvs.eq_1, @Go.Sh.seqO.eq_1, @Go.Sh.seqO.eq_2, @Go.Sh.bin_lss, @Go.Sh.bin_gtr, @Go.Sh.bin_leq, @Go.Sh.bin_geq, @Go.Sh.bin_eql, @Go.Sh.bin_neq, @Go.Sh.bin_add, @Go.Sh.bin_sub, @Go.Sh.bin_mul, @Go.Sh.sbin_eql, @Go.Sh.sbin_neq, @Go.Sh.sbin_lss, @Go.Sh.sbin_gtr, @Go.Sh.un_neg, @Go.Sh.un_not, @Go.Sh.startE.eq_1, @Go.Sh.numT.eq_1, @Go.Sh.numT.eq_2, @Go.Sh.numB.eq_1, @Go.Sh.numB.eq_2, @Go.Sh.numB.eq_3, @Go.Sh.numR.eq_1, @Go.Sh.numR.eq_2, @Go.Sh.numR.eq_3, @Go.Sh.ansW.eq_1, @Go.Sh.ansW.eq_2, @Go.Sh.resT.eq_1, @Go.Sh.resT.eq_2, @Go.Sh.SRes.get.eq_1, @Go.Sh.SRes.get.eq_2, @List.flatMap_nil.{0, 0}, @List.flatMap_cons.{0, 0}, @List.append_nil.{0}, @List.nil_append.{0}, @Go.Sh.TV.ids3.eq_1, @Go.Sh.TV.ids3.eq_2, @Go.Sh.TV.ids2.eq_1, @Go.Sh.TV.ids2.eq_2, @Go.Sh.TV.ids1.eq_1, @Go.Sh.TV.ids1.eq_2, @Go.Sh.TV.ids0.eq_1, @Go.Sh.TV.ids0.eq_2, @Go.Sh.TV.ids0.eq_3, @Go.Sh.TV.ids0.eq_4, @Go.Sh.TV.ren3.eq_1, @Go.Sh.TV.ren3.eq_2, @Go.Sh.TV.ren2.eq_1, @Go.Sh.TV.ren2.eq_2, @Go.Sh.TV.ren1.eq_1, @Go.Sh.TV.ren1.eq_2, @Go.Sh.TV.ren0.eq_1, @Go.Sh.TV.ren0.eq_2, @Go.Sh.TV.ren0.eq_3, @Go.Sh.TV.ren0.eq_4, @Go.Sh.TV.ren0.eq_5, @Go.Sh.TV.ren0.eq_6, @Go.Sh.bound.eq_1, @Go.Sh.bound.eq_2, @if_true.{1}, @if_false.{1}, @Bool.false_eq_true, @Go.Sh.partsT.eq_1, @Go.Sh.fillT.eq_1, @Go.Sh.fillT.eq_2, @Go.Sh.splice.eq_1, @List.take_zero.{0}, @List.take_succ_cons.{0}, @List.drop_zero.{0}, @List.drop_succ_cons.{0}, @List.length_cons.{0}, @List.length_nil.{0}, @and_self, @and_true, @true_and, @List.cons_append.{0}, @List.getElem?_cons_zero.{0}, @List.getElem?_cons_succ.{0}, @Nat.zero_add, @Bool.not_true, @Bool.not_false, @Go.Value.oneCell'.eq_1, @Go.Value.oneCell'.eq_2, @Go.Value.oneCell'.eq_3, @Go.Mor.str_toList, @Go.Mor.str_size', @Int.toNat_natCast, @decide_true, @decide_false, @beq_self_eq_true.{0}, @Go.Sh.handI.eq_1, @Go.Sh.FS.mo.eq_1, @Go.Sh.MO.ren.eq_1, @Go.Sh.MO.ren.eq_2, @Go.Sh.rhoIn.eq_1, @Go.Sh.pos.eq_1, @Go.Sh.pos.eq_2, @Go.Sh.rhoOut.eq_1, @Go.Sh.outs.eq_1, @Go.Sh.outs.eq_2, @Go.Sh.newId.eq_1, @Go.Sh.dstId.eq_1, @Go.Sh.dstId.eq_2, @Go.Sh.putMem.eq_1, @Go.Sh.putMem.eq_2, @List.lookup.eq_1.{0, 0}, @List.lookup.eq_2.{0, 0}, @Go.Sh.moOk.eq_1, @Go.Sh.moOk.eq_2, @Go.Sh.moOk.eq_3, @Go.Sh.moOk.eq_4, @Nat.le_refl, @Int.natCast_nonneg, @Go.Sh.v_skip, @Go.Sh.v_seq, @Go.Sh.v_exit, @Go.Sh.v_ret, @Go.Sh.v_block, @Go.Sh.v_cond, @Go.Sh.v_reg, @Go.Sh.v_reg2, @Go.Sh.v_nil, @Go.Sh.v_regK, @Go.Sh.v_skipK, @Go.Sh.v_op, @Go.Sh.v_guard, @Go.Sh.gW, @Go.Sh.gW_u, @Go.Sh.PostR.eq_1, @Go.Sh.PostR.eq_2, @Go.Sh.PostR.eq_3, @Go.Sh.exitR.eq_1, @Go.Sh.exitF.eq_1, @Go.Sh.idsFrom.eq_1, @Go.Sh.idsFrom.eq_2, @Go.Sh.gW_undef, @Nat.sub_zero, @Go.Sh.gW_i, @Go.Sh.gK_T1, @Go.Sh.gK_T0, @Go.Sh.gK_F1, @Go.Sh.gK_F0, @Go.Sh.gK_d1, @Go.Sh.gK_d0, @Go.Sh.gK_n1, @Go.Sh.gK_n0, @Go.Sh.v_then_n, @Go.Sh.v_then_r, @Go.Sh.v_then_x, @Go.Sh.v_blk_n, @Go.Sh.v_blk_r, @Go.Sh.v_blk_x, @Go.Sh.s_some, @Go.Sh.s_none, @Go.Sh.s_ite, @Go.Sh.s_get, @Go.Sh.bW_T, @Go.Sh.bW_F, @Go.Sh.bW_d, @Go.Sh.bW_n, @Go.Sh.bW_a, @Go.Sh.bW_o, @Go.Sh.bK, @Go.Sh.callIn.eq_1, @Go.Sh.callOut.eq_1, @Go.Sh.callvIn.eq_1, @Go.Sh.TV.callee.eq_1, @Go.Sh.TV.callee.eq_2, @Go.Sh.TV.callee.eq_3, @Go.Sh.TV.callee.eq_4, @Go.Sh.Post0.eq_1, @Go.Sh.Post0.eq_2, @Go.Sh.Post0.eq_3, @Go.Sh.Post1.eq_1, @Go.Sh.Post1.eq_2, @Go.Sh.Post1.eq_3, @Go.Sh.ansW1.eq_1, @Go.Sh.ansW1.eq_2, @Go.Sh.bin_quoI, @Go.Sh.bin_remI, @Go.Sh.sbin_addI, @Go.Sh.TV.elems.eq_1, @Go.Sh.TV.elems.eq_2, @Go.Sh.TV.elems.eq_3, @Go.Sh.TV.elems.eq_4, @Go.Sh.TV.isNil.eq_1, @Go.Sh.TV.isNil.eq_2, @List.all_cons.{0}, @List.all_nil.{0}, @Bool.and_true, @Bool.true_and, @Bool.and_false, @Bool.false_and, @Bool.and_self, @ne_eq.{1}, @not_false_eq_true, @not_true_eq_false, @false_and, @and_false, @or_false, @or_self, @false_or, @imp_self, @forall_const.{0}, @Option.isNone_none.{0}, @List.getElem?_nil.{0}, @decide_eq_true_eq, @eq_self.{1}, @Go.Mor.str_list, @Go.Mor.str_append, @Go.Mor.str_extract, @List.getElem?_map.{0, 0}, @Option.map_map.{0, 0, 0}, @List.length_map.{0, 0}, @Function.comp_apply.{1, 1, 1}, @List.length_append.{0}, @List.length_set.{0}, @List.set_cons_zero.{0}, @List.set_cons_succ.{0}, @imp_false, @Decidable.not_not, @Go.Sh.e_ssub, @Go.Sh.e_ssub1, @Go.Sh.e_ssub2, @Go.Sh.e_ssub3, @Go.Sh.e_ssub4, @Go.Sh.e_sub, @Go.Sh.e_sub1, @Go.Sh.e_sub2, @Go.Sh.e_sub3, @Go.Sh.e_sub4, @Go.Sh.e_subT1, @Go.Sh.e_subT2, @Go.Sh.e_subT3, @Go.Sh.e_appN, @Go.Sh.e_appN1, @Go.Sh.e_appN2, @Go.Sh.e_appNS, @Go.Sh.e_appNS1, @Go.Sh.e_appNS2, @Go.Sh.e_rng, @Go.Sh.e_rng1, @Go.Sh.e_mks, @Go.Sh.e_mks1, @Go.Sh.reach_nil, @Go.Sh.reach_cons, @Go.Sh.reach_m1, @Go.Sh.reach_m2, @Go.Sh.reach_m3, @Go.Sh.reach_m4, @Option.map_none.{0, 0}, @Option.bind_none.{0, 0}, @Go.Sh.nc_mov, @Go.Sh.nc_pick, @Go.Sh.nc_bin, @Go.Sh.nc_un, @Go.Sh.nc_cvi, @Go.Sh.nc_cvs, @Go.Sh.nc_b2s, @Go.Sh.nc_imm, @Go.Sh.nc_sidx, @Go.Sh.nc_ssub, @Go.Sh.nc_slen, @Go.Sh.nc_new, @Go.Sh.nc_box, @Go.Sh.nc_build, @Go.Sh.nc_bsl, @Go.Sh.nc_fld, @Go.Sh.nc_fldA, @Go.Sh.nc_ld, @Go.Sh.nc_st, @Go.Sh.nc_len, @Go.Sh.nc_idxA, @Go.Sh.nc_sub, @Go.Sh.nc_app, @Go.Sh.nc_appS, @Go.Sh.nc_appN, @Go.Sh.nc_appNS, @Go.Sh.nc_ext, @Go.Sh.nc_nchk, @Go.Sh.nc_mkf, @Go.Sh.nc_rng, @Go.Sh.nc_nxt, @Go.Sh.nc_mks⟩
end Go.Sh
end

section
/- The statements' ValType, ValOne, fit. No statement of the program is proved here. -/
namespace Go.Proofs.YtdlolkogifigpaaDoor
open Go Go.RowKit Go.Mor Go.Sh Go.Sh.Cd1
set_option maxRecDepth 100000
set_option maxHeartbeats 8000000
def I64 (c : Int) : Prop := -9223372036854775808 ≤ c ∧ c ≤ 9223372036854775807
theorem pickI_lt {c n : Int} (hn : 0 < n) (hc : I64 c) : 0 ≤ pickI c n ∧ pickI c n < n := by
  unfold pickI
  obtain ⟨h0, h1⟩ := hc
  split
  · exact ⟨Int.tmod_nonneg n (by omega), Int.tmod_lt_of_pos _ hn⟩
  · exact ⟨Int.tmod_nonneg n (by omega), Int.tmod_lt_of_pos _ hn⟩
theorem pickI_ok (g : Sh.Glob) (c n : Int) (hc : I64 c) (hn : n ≠ 0) : SCalls Tryd.prog g 34 [I c, I n] [] (I (pickI c n)) [] := pick_ok g c n hc.1 hc.2 hn
theorem str0 : str [] = (⟨#[]⟩ : ByteArray) := rfl
/-- A type as a value. -/
def tyT (t : Ty) : TV := .agg [I t.k, I t.o]
def valType (a b : Int) : Ty := if 1 + pickI a 6 < 5 then ⟨1 + pickI a 6, 0⟩ else ⟨5, 1 + pickI b 4⟩
theorem valType_ok (g : Sh.Glob) (a b : Int) (ha : I64 a) (hb : I64 b) : SCalls Tryd.prog g 36 [I a, I b] [] (tyT (valType a b)) [] := by
  refine call_of0 hmix tf_morainelaw03_ValType rfl ?_
  have h6 := pickI_lt (n := 6) (by decide) ha
  have h4 := pickI_lt (n := 4) (by decide) hb
  have w1 : IntKind.i64.wrap (1 + pickI a 6) = 1 + pickI a 6 := wrap64 (by omega) (by omega)
  have w2 : IntKind.i64.wrap (1 + pickI b 4) = 1 + pickI b 4 := wrap64 (by omega) (by omega)
  unfold valType
  simp only [vcA, Nat.reduceLT, Int.reduceEq, Int.reduceAdd, Int.reduceSub, Nat.reduceBEq, Nat.reduceEqDiff, reduceCtorEq, Nat.reduceAdd, Nat.reduceSub, Nat.reduceMul, Nat.reduceLeDiff, Int.reduceToNat, Int.reduceLT, Int.reduceLE, Int.reduceNeg, reduceIte, I, S]
  (with_reducible apply v_call); (· simp only [vcA, Nat.reduceLT, Int.reduceEq, Int.reduceAdd, Int.reduceSub, Nat.reduceBEq, Nat.reduceEqDiff, reduceCtorEq, Nat.reduceAdd, Nat.reduceSub, Nat.reduceMul, Nat.reduceLeDiff, Int.reduceToNat, Int.reduceLT, Int.reduceLE, Int.reduceNeg, reduceIte, I, S]; with_reducible rfl); (· exact pickI_ok g a 6 ha (by decide)); (· first | rfl | (simp only [moOk, nbeq, nble, List.length_nil, beq_self_eq_true, Bool.true_and, Bool.and_true, Bool.and_eq_true, decide_eq_true_eq]; omega)); (· simp only [vcA, Nat.reduceLT, Int.reduceEq, Int.reduceAdd, Int.reduceSub, Nat.reduceBEq, Nat.reduceEqDiff, reduceCtorEq, Nat.reduceAdd, Nat.reduceSub, Nat.reduceMul, Nat.reduceLeDiff, Int.reduceToNat, Int.reduceLT, Int.reduceLE, Int.reduceNeg, reduceIte, I, S]; with_reducible rfl)
  simp only [vcA, Nat.reduceLT, Int.reduceEq, Int.reduceAdd, Int.reduceSub, Nat.reduceBEq, Nat.reduceEqDiff, reduceCtorEq, Nat.reduceAdd, Nat.reduceSub, Nat.reduceMul, Nat.reduceLeDiff, Int.reduceToNat, Int.reduceLT, Int.reduceLE, Int.reduceNeg, reduceIte, I, S, w1]
  refine ⟨fun h => by rw [if_pos h]; rfl, fun h => ?_⟩
  rw [if_neg h]
  (with_reducible apply v_call); (· simp only [vcA, Nat.reduceLT, Int.reduceEq, Int.reduceAdd, Int.reduceSub, Nat.reduceBEq, Nat.reduceEqDiff, reduceCtorEq, Nat.reduceAdd, Nat.reduceSub, Nat.reduceMul, Nat.reduceLeDiff, Int.reduceToNat, Int.reduceLT, Int.reduceLE, Int.reduceNeg, reduceIte, I, S]; with_reducible rfl); (· exact pickI_ok g b 4 hb (by decide)); (· first | rfl | (simp only [moOk, nbeq, nble, List.length_nil, beq_self_eq_true, Bool.true_and, Bool.and_true, Bool.and_eq_true, decide_eq_true_eq]; omega)); (· simp only [vcA, Nat.reduceLT, Int.reduceEq, Int.reduceAdd, Int.reduceSub, Nat.reduceBEq, Nat.reduceEqDiff, reduceCtorEq, Nat.reduceAdd, Nat.reduceSub, Nat.reduceMul, Nat.reduceLeDiff, Int.reduceToNat, Int.reduceLT, Int.reduceLE, Int.reduceNeg, reduceIte, I, S]; with_reducible rfl)
  simp only [vcA, Nat.reduceLT, Int.reduceEq, Int.reduceAdd, Int.reduceSub, Nat.reduceBEq, Nat.reduceEqDiff, reduceCtorEq, Nat.reduceAdd, Nat.reduceSub, Nat.reduceMul, Nat.reduceLeDiff, Int.reduceToNat, Int.reduceLT, Int.reduceLE, Int.reduceNeg, reduceIte, I, S, w2]
  rfl
/-- A value without a list, as a value. -/
def nv (x : V) : TV := .agg [I x.k, I x.n, S (str x.s), .pv (.v (.slice none 0 0))]
def valOne (k n : Int) (s : List UInt8) : V :=
  if k = 1 then .mk 1 (if n < -1000000000000000 ∨ 1000000000000000 < n then pickI n 1000000000000001 else n) [] []
  else if k = 2 then .mk 2 0 (valText s) []
  else if k = 3 ∨ k = 4 then .mk k (1 + pickI n 100000) [] [] else V.nil
theorem valOne_ok (g : Sh.Glob) (k j n : Int) (s : List UInt8) (hn : I64 n) (hs : s.length ≤ 9223372036854775807) : SCalls Tryd.prog g 58 [I k, .agg [I j, I n, S (str s)]] [] (nv (valOne k n s)) [] := by
  refine call_of0 hmix tf_morainelaw03_ValOne rfl ?_
  have hp := pickI_lt (n := 100000) (by decide) hn
  have w1 : IntKind.i64.wrap (1 + pickI n 100000) = 1 + pickI n 100000 := wrap64 (by omega) (by omega)
  unfold valOne
  by_cases k1 : k = 1
  · subst k1
    rw [if_pos rfl]
    simp only [vcA, Nat.reduceLT, Int.reduceEq, Int.reduceAdd, Int.reduceSub, Nat.reduceBEq, Nat.reduceEqDiff, reduceCtorEq, Nat.reduceAdd, Nat.reduceSub, Nat.reduceMul, Nat.reduceLeDiff, Int.reduceToNat, Int.reduceLT, Int.reduceLE, Int.reduceNeg, reduceIte, I, S]
    refine ⟨fun h => ?_, fun h => ⟨fun h' => ?_, fun h' => ?_⟩⟩
    · rw [if_pos (.inl h)]
      (with_reducible apply v_call); (· simp only [vcA, Nat.reduceLT, Int.reduceEq, Int.reduceAdd, Int.reduceSub, Nat.reduceBEq, Nat.reduceEqDiff, reduceCtorEq, Nat.reduceAdd, Nat.reduceSub, Nat.reduceMul, Nat.reduceLeDiff, Int.reduceToNat, Int.reduceLT, Int.reduceLE, Int.reduceNeg, reduceIte, I, S]; with_reducible rfl); (· exact pickI_ok g n 1000000000000001 hn (by decide)); (· first | rfl | (simp only [moOk, nbeq, nble, List.length_nil, beq_self_eq_true, Bool.true_and, Bool.and_true, Bool.and_eq_true, decide_eq_true_eq]; omega)); (· simp only [vcA, Nat.reduceLT, Int.reduceEq, Int.reduceAdd, Int.reduceSub, Nat.reduceBEq, Nat.reduceEqDiff, reduceCtorEq, Nat.reduceAdd, Nat.reduceSub, Nat.reduceMul, Nat.reduceLeDiff, Int.reduceToNat, Int.reduceLT, Int.reduceLE, Int.reduceNeg, reduceIte, I, S]; with_reducible rfl)
      simp only [vcA, Nat.reduceLT, Int.reduceEq, Int.reduceAdd, Int.reduceSub, Nat.reduceBEq, Nat.reduceEqDiff, reduceCtorEq, Nat.reduceAdd, Nat.reduceSub, Nat.reduceMul, Nat.reduceLeDiff, Int.reduceToNat, Int.reduceLT, Int.reduceLE, Int.reduceNeg, reduceIte, I, S]
      rfl
    · rw [if_pos (.inr h')]
      (with_reducible apply v_call); (· simp only [vcA, Nat.reduceLT, Int.reduceEq, Int.reduceAdd, Int.reduceSub, Nat.reduceBEq, Nat.reduceEqDiff, reduceCtorEq, Nat.reduceAdd, Nat.reduceSub, Nat.reduceMul, Nat.reduceLeDiff, Int.reduceToNat, Int.reduceLT, Int.reduceLE, Int.reduceNeg, reduceIte, I, S]; with_reducible rfl); (· exact pickI_ok g n 1000000000000001 hn (by decide)); (· first | rfl | (simp only [moOk, nbeq, nble, List.length_nil, beq_self_eq_true, Bool.true_and, Bool.and_true, Bool.and_eq_true, decide_eq_true_eq]; omega)); (· simp only [vcA, Nat.reduceLT, Int.reduceEq, Int.reduceAdd, Int.reduceSub, Nat.reduceBEq, Nat.reduceEqDiff, reduceCtorEq, Nat.reduceAdd, Nat.reduceSub, Nat.reduceMul, Nat.reduceLeDiff, Int.reduceToNat, Int.reduceLT, Int.reduceLE, Int.reduceNeg, reduceIte, I, S]; with_reducible rfl)
      simp only [vcA, Nat.reduceLT, Int.reduceEq, Int.reduceAdd, Int.reduceSub, Nat.reduceBEq, Nat.reduceEqDiff, reduceCtorEq, Nat.reduceAdd, Nat.reduceSub, Nat.reduceMul, Nat.reduceLeDiff, Int.reduceToNat, Int.reduceLT, Int.reduceLE, Int.reduceNeg, reduceIte, I, S]
      rfl
    · rw [if_neg (by omega)]; rfl
  rw [if_neg k1]
  by_cases k2 : k = 2
  · subst k2
    rw [if_pos rfl]
    simp only [vcA, Nat.reduceLT, Int.reduceEq, Int.reduceAdd, Int.reduceSub, Nat.reduceBEq, Nat.reduceEqDiff, reduceCtorEq, Nat.reduceAdd, Nat.reduceSub, Nat.reduceMul, Nat.reduceLeDiff, Int.reduceToNat, Int.reduceLT, Int.reduceLE, Int.reduceNeg, reduceIte, I, S]
    (with_reducible apply v_call); (· simp only [vcA, Nat.reduceLT, Int.reduceEq, Int.reduceAdd, Int.reduceSub, Nat.reduceBEq, Nat.reduceEqDiff, reduceCtorEq, Nat.reduceAdd, Nat.reduceSub, Nat.reduceMul, Nat.reduceLeDiff, Int.reduceToNat, Int.reduceLT, Int.reduceLE, Int.reduceNeg, reduceIte, I, S]; with_reducible rfl); (· exact valText_ok g s hs); (· first | rfl | (simp only [moOk, nbeq, nble, List.length_nil, beq_self_eq_true, Bool.true_and, Bool.and_true, Bool.and_eq_true, decide_eq_true_eq]; omega)); (· simp only [vcA, Nat.reduceLT, Int.reduceEq, Int.reduceAdd, Int.reduceSub, Nat.reduceBEq, Nat.reduceEqDiff, reduceCtorEq, Nat.reduceAdd, Nat.reduceSub, Nat.reduceMul, Nat.reduceLeDiff, Int.reduceToNat, Int.reduceLT, Int.reduceLE, Int.reduceNeg, reduceIte, I, S]; with_reducible rfl)
    simp only [vcA, Nat.reduceLT, Int.reduceEq, Int.reduceAdd, Int.reduceSub, Nat.reduceBEq, Nat.reduceEqDiff, reduceCtorEq, Nat.reduceAdd, Nat.reduceSub, Nat.reduceMul, Nat.reduceLeDiff, Int.reduceToNat, Int.reduceLT, Int.reduceLE, Int.reduceNeg, reduceIte, I, S]
    rfl
  rw [if_neg k2]
  by_cases k3 : k = 3 ∨ k = 4
  · rw [if_pos k3]
    rcases k3 with rfl | rfl
    · simp only [vcA, Nat.reduceLT, Int.reduceEq, Int.reduceAdd, Int.reduceSub, Nat.reduceBEq, Nat.reduceEqDiff, reduceCtorEq, Nat.reduceAdd, Nat.reduceSub, Nat.reduceMul, Nat.reduceLeDiff, Int.reduceToNat, Int.reduceLT, Int.reduceLE, Int.reduceNeg, reduceIte, I, S]
      (with_reducible apply v_call); (· simp only [vcA, Nat.reduceLT, Int.reduceEq, Int.reduceAdd, Int.reduceSub, Nat.reduceBEq, Nat.reduceEqDiff, reduceCtorEq, Nat.reduceAdd, Nat.reduceSub, Nat.reduceMul, Nat.reduceLeDiff, Int.reduceToNat, Int.reduceLT, Int.reduceLE, Int.reduceNeg, reduceIte, I, S]; with_reducible rfl); (· exact pickI_ok g n 100000 hn (by decide)); (· first | rfl | (simp only [moOk, nbeq, nble, List.length_nil, beq_self_eq_true, Bool.true_and, Bool.and_true, Bool.and_eq_true, decide_eq_true_eq]; omega)); (· simp only [vcA, Nat.reduceLT, Int.reduceEq, Int.reduceAdd, Int.reduceSub, Nat.reduceBEq, Nat.reduceEqDiff, reduceCtorEq, Nat.reduceAdd, Nat.reduceSub, Nat.reduceMul, Nat.reduceLeDiff, Int.reduceToNat, Int.reduceLT, Int.reduceLE, Int.reduceNeg, reduceIte, I, S]; with_reducible rfl)
      simp only [vcA, Nat.reduceLT, Int.reduceEq, Int.reduceAdd, Int.reduceSub, Nat.reduceBEq, Nat.reduceEqDiff, reduceCtorEq, Nat.reduceAdd, Nat.reduceSub, Nat.reduceMul, Nat.reduceLeDiff, Int.reduceToNat, Int.reduceLT, Int.reduceLE, Int.reduceNeg, reduceIte, I, S, w1]
      rfl
    · simp only [vcA, Nat.reduceLT, Int.reduceEq, Int.reduceAdd, Int.reduceSub, Nat.reduceBEq, Nat.reduceEqDiff, reduceCtorEq, Nat.reduceAdd, Nat.reduceSub, Nat.reduceMul, Nat.reduceLeDiff, Int.reduceToNat, Int.reduceLT, Int.reduceLE, Int.reduceNeg, reduceIte, I, S]
      (with_reducible apply v_call); (· simp only [vcA, Nat.reduceLT, Int.reduceEq, Int.reduceAdd, Int.reduceSub, Nat.reduceBEq, Nat.reduceEqDiff, reduceCtorEq, Nat.reduceAdd, Nat.reduceSub, Nat.reduceMul, Nat.reduceLeDiff, Int.reduceToNat, Int.reduceLT, Int.reduceLE, Int.reduceNeg, reduceIte, I, S]; with_reducible rfl); (· exact pickI_ok g n 100000 hn (by decide)); (· first | rfl | (simp only [moOk, nbeq, nble, List.length_nil, beq_self_eq_true, Bool.true_and, Bool.and_true, Bool.and_eq_true, decide_eq_true_eq]; omega)); (· simp only [vcA, Nat.reduceLT, Int.reduceEq, Int.reduceAdd, Int.reduceSub, Nat.reduceBEq, Nat.reduceEqDiff, reduceCtorEq, Nat.reduceAdd, Nat.reduceSub, Nat.reduceMul, Nat.reduceLeDiff, Int.reduceToNat, Int.reduceLT, Int.reduceLE, Int.reduceNeg, reduceIte, I, S]; with_reducible rfl)
      simp only [vcA, Nat.reduceLT, Int.reduceEq, Int.reduceAdd, Int.reduceSub, Nat.reduceBEq, Nat.reduceEqDiff, reduceCtorEq, Nat.reduceAdd, Nat.reduceSub, Nat.reduceMul, Nat.reduceLeDiff, Int.reduceToNat, Int.reduceLT, Int.reduceLE, Int.reduceNeg, reduceIte, I, S, w1]
      rfl
  · rw [if_neg k3]
    have k3' : ¬ k = 3 := fun h => k3 (.inl h)
    have k4' : ¬ k = 4 := fun h => k3 (.inr h)
    simp only [vcA, Nat.reduceLT, Int.reduceEq, Int.reduceAdd, Int.reduceSub, Nat.reduceBEq, Nat.reduceEqDiff, reduceCtorEq, Nat.reduceAdd, Nat.reduceSub, Nat.reduceMul, Nat.reduceLeDiff, Int.reduceToNat, Int.reduceLT, Int.reduceLE, Int.reduceNeg, reduceIte, I, S, k1, k2, k3', k4']
    rfl
end Go.Proofs.YtdlolkogifigpaaDoor
end

section
/- The statements' fit. No statement of the program is proved here. -/
namespace Go.Proofs.YtdlolkogifigpaaDoor
open Go Go.RowKit Go.Mor Go.Sh Go.Sh.Cd1
set_option maxRecDepth 100000
set_option maxHeartbeats 8000000
def fitV (k j n : Int) (s : List UInt8) (most : Int) : V :=
  if k = 5 then .mk 5 0 [] [] else if k = 3 ∨ k = 4 then (if most < 1 ∨ pickI j 4 = 0 then V.nil else .mk k (1 + pickI n (min most 100000)) [] []) else valOne k n s
theorem fit_ok (g : Sh.Glob) (k j n : Int) (s : List UInt8) (most : Int) (hn : I64 n) (hj : I64 j) (hs : s.length ≤ 9223372036854775807) (hm : 1 ≤ most) : SCalls Tryd.prog g 67 [I k, .agg [I j, I n, S (str s)], I most] [] (nv (fitV k j n s most)) [] := by
  refine call_of0 hmix tf_morainelaw03_fit rfl ?_
  have hp := pickI_lt (n := min most 100000) (by omega) hn
  have w1 : IntKind.i64.wrap (1 + pickI n (min most 100000)) = 1 + pickI n (min most 100000) := wrap64 (by omega) (by omega)
  have dm : ¬ most < 1 := by omega
  have hm' : ¬ most < 1 := by omega
  unfold fitV
  by_cases k5 : k = 5
  · subst k5
    rw [if_pos rfl]
    simp only [vcA, Nat.reduceLT, Int.reduceEq, Int.reduceAdd, Int.reduceSub, Nat.reduceBEq, Nat.reduceEqDiff, reduceCtorEq, Nat.reduceAdd, Nat.reduceSub, Nat.reduceMul, Nat.reduceLeDiff, Int.reduceToNat, Int.reduceLT, Int.reduceLE, Int.reduceNeg, reduceIte, I, S]
    rfl
  rw [if_neg k5]
  by_cases k3 : k = 3
  · subst k3
    rw [if_pos (.inl rfl)]
    simp only [vcA, Nat.reduceLT, Int.reduceEq, Int.reduceAdd, Int.reduceSub, Nat.reduceBEq, Nat.reduceEqDiff, reduceCtorEq, Nat.reduceAdd, Nat.reduceSub, Nat.reduceMul, Nat.reduceLeDiff, Int.reduceToNat, Int.reduceLT, Int.reduceLE, Int.reduceNeg, reduceIte, I, S, dm]
    (with_reducible apply v_call); (· simp only [vcA, Nat.reduceLT, Int.reduceEq, Int.reduceAdd, Int.reduceSub, Nat.reduceBEq, Nat.reduceEqDiff, reduceCtorEq, Nat.reduceAdd, Nat.reduceSub, Nat.reduceMul, Nat.reduceLeDiff, Int.reduceToNat, Int.reduceLT, Int.reduceLE, Int.reduceNeg, reduceIte, I, S]; with_reducible rfl); (· exact pickI_ok g j 4 hj (by decide)); (· first | rfl | (simp only [moOk, nbeq, nble, List.length_nil, beq_self_eq_true, Bool.true_and, Bool.and_true, Bool.and_eq_true, decide_eq_true_eq]; omega)); (· simp only [vcA, Nat.reduceLT, Int.reduceEq, Int.reduceAdd, Int.reduceSub, Nat.reduceBEq, Nat.reduceEqDiff, reduceCtorEq, Nat.reduceAdd, Nat.reduceSub, Nat.reduceMul, Nat.reduceLeDiff, Int.reduceToNat, Int.reduceLT, Int.reduceLE, Int.reduceNeg, reduceIte, I, S]; with_reducible rfl)
    simp only [vcA, Nat.reduceLT, Int.reduceEq, Int.reduceAdd, Int.reduceSub, Nat.reduceBEq, Nat.reduceEqDiff, reduceCtorEq, Nat.reduceAdd, Nat.reduceSub, Nat.reduceMul, Nat.reduceLeDiff, Int.reduceToNat, Int.reduceLT, Int.reduceLE, Int.reduceNeg, reduceIte, I, S]
    refine ⟨fun hz => by rw [if_pos hz]; rfl, fun hz => ?_⟩
    rw [if_neg hz]
    (with_reducible apply v_call); (· simp only [vcA, Nat.reduceLT, Int.reduceEq, Int.reduceAdd, Int.reduceSub, Nat.reduceBEq, Nat.reduceEqDiff, reduceCtorEq, Nat.reduceAdd, Nat.reduceSub, Nat.reduceMul, Nat.reduceLeDiff, Int.reduceToNat, Int.reduceLT, Int.reduceLE, Int.reduceNeg, reduceIte, I, S]; with_reducible rfl); (· exact pickI_ok g n (min most 100000) hn (by omega)); (· first | rfl | (simp only [moOk, nbeq, nble, List.length_nil, beq_self_eq_true, Bool.true_and, Bool.and_true, Bool.and_eq_true, decide_eq_true_eq]; omega)); (· simp only [vcA, Nat.reduceLT, Int.reduceEq, Int.reduceAdd, Int.reduceSub, Nat.reduceBEq, Nat.reduceEqDiff, reduceCtorEq, Nat.reduceAdd, Nat.reduceSub, Nat.reduceMul, Nat.reduceLeDiff, Int.reduceToNat, Int.reduceLT, Int.reduceLE, Int.reduceNeg, reduceIte, I, S]; with_reducible rfl)
    simp only [vcA, Nat.reduceLT, Int.reduceEq, Int.reduceAdd, Int.reduceSub, Nat.reduceBEq, Nat.reduceEqDiff, reduceCtorEq, Nat.reduceAdd, Nat.reduceSub, Nat.reduceMul, Nat.reduceLeDiff, Int.reduceToNat, Int.reduceLT, Int.reduceLE, Int.reduceNeg, reduceIte, I, S, w1]
    rfl
  by_cases k4 : k = 4
  · subst k4
    rw [if_pos (.inr rfl)]
    simp only [vcA, Nat.reduceLT, Int.reduceEq, Int.reduceAdd, Int.reduceSub, Nat.reduceBEq, Nat.reduceEqDiff, reduceCtorEq, Nat.reduceAdd, Nat.reduceSub, Nat.reduceMul, Nat.reduceLeDiff, Int.reduceToNat, Int.reduceLT, Int.reduceLE, Int.reduceNeg, reduceIte, I, S, dm]
    (with_reducible apply v_call); (· simp only [vcA, Nat.reduceLT, Int.reduceEq, Int.reduceAdd, Int.reduceSub, Nat.reduceBEq, Nat.reduceEqDiff, reduceCtorEq, Nat.reduceAdd, Nat.reduceSub, Nat.reduceMul, Nat.reduceLeDiff, Int.reduceToNat, Int.reduceLT, Int.reduceLE, Int.reduceNeg, reduceIte, I, S]; with_reducible rfl); (· exact pickI_ok g j 4 hj (by decide)); (· first | rfl | (simp only [moOk, nbeq, nble, List.length_nil, beq_self_eq_true, Bool.true_and, Bool.and_true, Bool.and_eq_true, decide_eq_true_eq]; omega)); (· simp only [vcA, Nat.reduceLT, Int.reduceEq, Int.reduceAdd, Int.reduceSub, Nat.reduceBEq, Nat.reduceEqDiff, reduceCtorEq, Nat.reduceAdd, Nat.reduceSub, Nat.reduceMul, Nat.reduceLeDiff, Int.reduceToNat, Int.reduceLT, Int.reduceLE, Int.reduceNeg, reduceIte, I, S]; with_reducible rfl)
    simp only [vcA, Nat.reduceLT, Int.reduceEq, Int.reduceAdd, Int.reduceSub, Nat.reduceBEq, Nat.reduceEqDiff, reduceCtorEq, Nat.reduceAdd, Nat.reduceSub, Nat.reduceMul, Nat.reduceLeDiff, Int.reduceToNat, Int.reduceLT, Int.reduceLE, Int.reduceNeg, reduceIte, I, S]
    refine ⟨fun hz => by rw [if_pos hz]; rfl, fun hz => ?_⟩
    rw [if_neg hz]
    (with_reducible apply v_call); (· simp only [vcA, Nat.reduceLT, Int.reduceEq, Int.reduceAdd, Int.reduceSub, Nat.reduceBEq, Nat.reduceEqDiff, reduceCtorEq, Nat.reduceAdd, Nat.reduceSub, Nat.reduceMul, Nat.reduceLeDiff, Int.reduceToNat, Int.reduceLT, Int.reduceLE, Int.reduceNeg, reduceIte, I, S]; with_reducible rfl); (· exact pickI_ok g n (min most 100000) hn (by omega)); (· first | rfl | (simp only [moOk, nbeq, nble, List.length_nil, beq_self_eq_true, Bool.true_and, Bool.and_true, Bool.and_eq_true, decide_eq_true_eq]; omega)); (· simp only [vcA, Nat.reduceLT, Int.reduceEq, Int.reduceAdd, Int.reduceSub, Nat.reduceBEq, Nat.reduceEqDiff, reduceCtorEq, Nat.reduceAdd, Nat.reduceSub, Nat.reduceMul, Nat.reduceLeDiff, Int.reduceToNat, Int.reduceLT, Int.reduceLE, Int.reduceNeg, reduceIte, I, S]; with_reducible rfl)
    simp only [vcA, Nat.reduceLT, Int.reduceEq, Int.reduceAdd, Int.reduceSub, Nat.reduceBEq, Nat.reduceEqDiff, reduceCtorEq, Nat.reduceAdd, Nat.reduceSub, Nat.reduceMul, Nat.reduceLeDiff, Int.reduceToNat, Int.reduceLT, Int.reduceLE, Int.reduceNeg, reduceIte, I, S, w1]
    rfl
  rw [if_neg (by omega)]
  have hV := valOne_ok g k j n s hn hs
  generalize valOne k n s = v at hV ⊢
  unfold nv at hV
  simp only [vcA, Nat.reduceLT, Int.reduceEq, Int.reduceAdd, Int.reduceSub, Nat.reduceBEq, Nat.reduceEqDiff, reduceCtorEq, Nat.reduceAdd, Nat.reduceSub, Nat.reduceMul, Nat.reduceLeDiff, Int.reduceToNat, Int.reduceLT, Int.reduceLE, Int.reduceNeg, reduceIte, I, S, k5, k3, k4]
  (with_reducible apply v_call); (· simp only [vcA, Nat.reduceLT, Int.reduceEq, Int.reduceAdd, Int.reduceSub, Nat.reduceBEq, Nat.reduceEqDiff, reduceCtorEq, Nat.reduceAdd, Nat.reduceSub, Nat.reduceMul, Nat.reduceLeDiff, Int.reduceToNat, Int.reduceLT, Int.reduceLE, Int.reduceNeg, reduceIte, I, S]; with_reducible rfl); (· exact hV); (· first | rfl | (simp only [moOk, nbeq, nble, List.length_nil, beq_self_eq_true, Bool.true_and, Bool.and_true, Bool.and_eq_true, decide_eq_true_eq]; omega)); (· simp only [vcA, Nat.reduceLT, Int.reduceEq, Int.reduceAdd, Int.reduceSub, Nat.reduceBEq, Nat.reduceEqDiff, reduceCtorEq, Nat.reduceAdd, Nat.reduceSub, Nat.reduceMul, Nat.reduceLeDiff, Int.reduceToNat, Int.reduceLT, Int.reduceLE, Int.reduceNeg, reduceIte, I, S]; with_reducible rfl)
  simp only [vcA, Nat.reduceLT, Int.reduceEq, Int.reduceAdd, Int.reduceSub, Nat.reduceBEq, Nat.reduceEqDiff, reduceCtorEq, Nat.reduceAdd, Nat.reduceSub, Nat.reduceMul, Nat.reduceLeDiff, Int.reduceToNat, Int.reduceLT, Int.reduceLE, Int.reduceNeg, reduceIte, I, S]
  rfl
end Go.Proofs.YtdlolkogifigpaaDoor
end

section
/- The statements' ValFit. No statement of the program is proved here. -/
namespace Go.Proofs.YtdlolkogifigpaaDoor
open Go Go.RowKit Go.Mor Go.Sh Go.Sh.Cd1
set_option maxRecDepth 100000
set_option maxHeartbeats 8000000
/-- A value's cells. -/
def V.row : V → List PV
  | .mk k n s l => [.v (.int .i64 k), .v (.int .i64 n), .v (.string (str s)), .sl 4 (l.attach.map fun x => V.row x.1)]
termination_by x => SizeOf.sizeOf x
decreasing_by exact V.size_lt x.2 k n s
def V.rows (l : List V) : List (List PV) := l.map V.row
theorem V.row_mk (k n : Int) (s : List UInt8) (l : List V) : V.row (.mk k n s l) = [.v (.int .i64 k), .v (.int .i64 n), .v (.string (str s)), .sl 4 (V.rows l)] := by
  rw [V.row]; simp [V.rows]
theorem V.rows_nil : V.rows [] = [] := rfl
theorem rows_eq (l : List V) : V.rows l = l.map V.row := rfl
/-- A value. -/
def tv (x : V) : TV := .agg [I x.k, I x.n, S (str x.s), .pv (.sl 4 (V.rows x.l))]
theorem wk4 {a b c x y : TV} (h : Wk x y) : Wk (.agg [a, b, c, x]) (.agg [a, b, c, y]) :=
  wk_agg rfl (fun j p q hp hq => by
    match j with
    | 0 => simp at hp hq; subst hp; subst hq; exact .refl _
    | 1 => simp at hp hq; subst hp; subst hq; exact .refl _
    | 2 => simp at hp hq; subst hp; subst hq; exact .refl _
    | 3 => simp at hp hq; subst hp; subst hq; exact h
    | j + 4 => simp at hp)
theorem nv_tv {x : V} (h : x.l = []) : Wk (nv x) (tv x) := by
  unfold nv tv; rw [h]; exact wk4 (wk_nil 4)
/-- Raw numbers of a value. -/
structure R1 where
  k : Int
  n : Int
  s : List UInt8
structure RawV where
  k : Int
  n : Int
  s : List UInt8
  l : List R1
def R1.ok (x : R1) : Prop := I64 x.k ∧ I64 x.n ∧ x.s.length ≤ 9223372036854775807
def RawV.ok (x : RawV) : Prop := I64 x.k ∧ I64 x.n ∧ x.s.length ≤ 9223372036854775807 ∧ (∀ y ∈ x.l, y.ok) ∧ x.l.length ≤ 9223372036854775807
def R1.row (x : R1) : List PV := [.v (.int .i64 x.k), .v (.int .i64 x.n), .v (.string (str x.s))]
def RawV.tv (x : RawV) : TV := .agg [I x.k, I x.n, S (str x.s), .pv (.sl 3 (x.l.map R1.row))]
theorem valOne_l (k n : Int) (s : List UInt8) : (valOne k n s).l = [] := by unfold valOne; (repeat' split) <;> rfl
theorem fitV_l (k j n : Int) (s : List UInt8) (m : Int) : (fitV k j n s m).l = [] := by
  unfold fitV; (repeat' split) <;> first | rfl | exact valOne_l _ _ _
def fitL (o most : Int) (l : List R1) : List V := (l.take 12).map fun r => fitV o r.k r.n r.s most
def valFit (t : Ty) (x : RawV) (most : Int) : V :=
  if t.k = 5 then .mk 5 0 [] (fitL t.o most x.l) else fitV t.k x.k x.n x.s most
def fitRows (o most : Int) (l : List R1) (i : Nat) : List (List PV) := (l.take i).map fun r => V.row (fitV o r.k r.n r.s most)
theorem fitRows_succ {o most : Int} {l : List R1} {i : Nat} {r : R1} (h : l[i]? = some r) : fitRows o most l (i + 1) = fitRows o most l i ++ [V.row (fitV o r.k r.n r.s most)] := by
  unfold fitRows
  rw [List.take_add_one, h]; simp
theorem row_of_nil {x : V} (h : x.l = []) : V.row x = [.v (.int .i64 x.k), .v (.int .i64 x.n), .v (.string (str x.s)), .sl 4 []] := by
  cases x with
  | mk k n s l => simp only [V.l] at h; subst h; simp [V.row_mk, V.rows, V.k, V.n, V.s]
/-- The state at the loop's head. -/
def fitSt (t : Ty) (x : RawV) (most : Int) (v : V) (i : Nat) : ES :=
  if i = 0 then ⟨[(2, I most), (3, .ptr 3 0), (4, .ptr 4 0), (6, .ptr 6 0), (7, .ptr 7 0), (8, I 0)],
    [(3, [I t.k, I t.o]), (4, [I x.k, I x.n, S (str x.s), .pv (.sl 3 (x.l.map R1.row))]), (6, [I 0, I 0, S ⟨#[]⟩, .pv (.v (.slice none 0 0))]), (7, [I v.k, I v.n, S (str v.s), .pv (.v (.slice none 0 0))])], [], []⟩
  else ⟨[(2, I most), (3, .ptr 3 0), (4, .ptr 4 0), (6, .ptr 6 0), (7, .ptr 7 0), (8, I (i : Int))],
    [(3, [I t.k, I t.o]), (4, [I x.k, I x.n, S (str x.s), .pv (.sl 3 (x.l.map R1.row))]), (6, [I 0, I 0, S ⟨#[]⟩, .pv (.v (.slice none 0 0))]), (7, [I v.k, I v.n, S (str v.s), .own 48 4 (fitRows t.o most x.l i)])], [(48, (31, 4, i))], []⟩
def fitN (t : Ty) (x : RawV) : Nat := if t.k = 5 then min x.l.length 12 else 0
theorem fitRows_len {o most : Int} {l : List R1} {i : Nat} (h : i ≤ l.length) : (fitRows o most l i).length = i := by simp [fitRows]; omega
/-- What is answered, just so. -/
def fitAns (t : Ty) (x : RawV) (most : Int) (v : V) (n : Nat) : TV :=
  if n = 0 then nv v else .agg [I v.k, I v.n, S (str v.s), .pv (.sl 4 (fitRows t.o most x.l n))]
theorem fitSt_0 (t : Ty) (x : RawV) (most : Int) (v : V) : fitSt t x most v 0 = ⟨[(2, I most), (3, .ptr 3 0), (4, .ptr 4 0), (6, .ptr 6 0), (7, .ptr 7 0), (8, I 0)],
    [(3, [I t.k, I t.o]), (4, [I x.k, I x.n, S (str x.s), .pv (.sl 3 (x.l.map R1.row))]), (6, [I 0, I 0, S ⟨#[]⟩, .pv (.v (.slice none 0 0))]), (7, [I v.k, I v.n, S (str v.s), .pv (.v (.slice none 0 0))])], [], []⟩ := rfl
theorem fitSt_1 (t : Ty) (x : RawV) (most : Int) (v : V) {i : Nat} (h : i ≠ 0) : fitSt t x most v i = ⟨[(2, I most), (3, .ptr 3 0), (4, .ptr 4 0), (6, .ptr 6 0), (7, .ptr 7 0), (8, I (i : Int))],
    [(3, [I t.k, I t.o]), (4, [I x.k, I x.n, S (str x.s), .pv (.sl 3 (x.l.map R1.row))]), (6, [I 0, I 0, S ⟨#[]⟩, .pv (.v (.slice none 0 0))]), (7, [I v.k, I v.n, S (str v.s), .own 48 4 (fitRows t.o most x.l i)])], [(48, (31, 4, i))], []⟩ := by unfold fitSt; rw [if_neg h]
theorem valFit_ans (g : Sh.Glob) (t : Ty) (x : RawV) (most : Int) (hx : x.ok) (hm : 1 ≤ most) (hm2 : most ≤ 9223372036854775807) : SCalls Tryd.prog g 37 [tyT t, x.tv, I most] [] (fitAns t x most (fitV t.k x.k x.n x.s most) (fitN t x)) [] := by
  refine call_of1 hmix tf_morainelaw03_ValFit rfl rfl ?_
  obtain ⟨hk, hn, hs, hl, hlen⟩ := hx
  have hF := fit_ok g t.k x.k x.n x.s most hn hk hs hm
  unfold tyT RawV.tv
  obtain ⟨v, hv⟩ : ∃ v, v = fitV t.k x.k x.n x.s most := ⟨_, rfl⟩
  rw [← hv] at hF ⊢
  unfold nv at hF
  repeat (first | (with_reducible apply w_unr) | (with_reducible apply w_assoc) | (with_reducible apply w_skip) | (with_reducible apply w_ret) | (with_reducible apply w_retE) | (with_reducible apply w_skipE) | (with_reducible apply w_exit) | (with_reducible apply w_exitE) | (with_reducible apply w_block) | (with_reducible apply w_blockE) | ((with_reducible apply w_reg); · simp only [shA, eff, Int.reduceEq, Int.reduceAdd, Int.reduceSub, Nat.reduceBEq, Nat.reduceEqDiff, reduceCtorEq, Nat.reduceAdd, Nat.reduceSub, Nat.reduceMul, Nat.reduceLeDiff, Int.reduceToNat, Int.reduceLT, Int.reduceLE, Int.reduceNeg]; with_reducible rfl) | ((with_reducible apply w_regE); · simp only [shA, eff, Int.reduceEq, Int.reduceAdd, Int.reduceSub, Nat.reduceBEq, Nat.reduceEqDiff, reduceCtorEq, Nat.reduceAdd, Nat.reduceSub, Nat.reduceMul, Nat.reduceLeDiff, Int.reduceToNat, Int.reduceLT, Int.reduceLE, Int.reduceNeg]; with_reducible rfl) | ((with_reducible apply w_condT); · simp only [shA, eff, Int.reduceEq, Int.reduceAdd, Int.reduceSub, Nat.reduceBEq, Nat.reduceEqDiff, reduceCtorEq, Nat.reduceAdd, Nat.reduceSub, Nat.reduceMul, Nat.reduceLeDiff, Int.reduceToNat, Int.reduceLT, Int.reduceLE, Int.reduceNeg]) | ((with_reducible apply w_condF); · simp only [shA, eff, Int.reduceEq, Int.reduceAdd, Int.reduceSub, Nat.reduceBEq, Nat.reduceEqDiff, reduceCtorEq, Nat.reduceAdd, Nat.reduceSub, Nat.reduceMul, Nat.reduceLeDiff, Int.reduceToNat, Int.reduceLT, Int.reduceLE, Int.reduceNeg]) | ((with_reducible apply w_condTE); · simp only [shA, eff, Int.reduceEq, Int.reduceAdd, Int.reduceSub, Nat.reduceBEq, Nat.reduceEqDiff, reduceCtorEq, Nat.reduceAdd, Nat.reduceSub, Nat.reduceMul, Nat.reduceLeDiff, Int.reduceToNat, Int.reduceLT, Int.reduceLE, Int.reduceNeg]) | ((with_reducible apply w_condFE); · simp only [shA, eff, Int.reduceEq, Int.reduceAdd, Int.reduceSub, Nat.reduceBEq, Nat.reduceEqDiff, reduceCtorEq, Nat.reduceAdd, Nat.reduceSub, Nat.reduceMul, Nat.reduceLeDiff, Int.reduceToNat, Int.reduceLT, Int.reduceLE, Int.reduceNeg]) | (with_reducible apply q_then) | (with_reducible apply q_blockN) | (with_reducible apply q_blockR) | (with_reducible apply q_thenR) | (with_reducible apply q_thenX) | (with_reducible apply q_blockX) | ((with_reducible apply q_blockY); · rfl))
  (first | (with_reducible apply w_ops) | (with_reducible apply w_opsE))
  repeat ((with_reducible apply w_op); (· rfl); (· simp only [shA, eff, Int.reduceEq, Int.reduceAdd, Int.reduceSub, Nat.reduceBEq, Nat.reduceEqDiff, reduceCtorEq, Nat.reduceAdd, Nat.reduceSub, Nat.reduceMul, Nat.reduceLeDiff, Int.reduceToNat, Int.reduceLT, Int.reduceLE, Int.reduceNeg]; with_reducible rfl); (· simp only [shA, eff, Int.reduceEq, Int.reduceAdd, Int.reduceSub, Nat.reduceBEq, Nat.reduceEqDiff, reduceCtorEq, Nat.reduceAdd, Nat.reduceSub, Nat.reduceMul, Nat.reduceLeDiff, Int.reduceToNat, Int.reduceLT, Int.reduceLE, Int.reduceNeg]; with_reducible rfl))
  (with_reducible apply w_call); (· simp only [shA, eff, Int.reduceEq, Int.reduceAdd, Int.reduceSub, Nat.reduceBEq, Nat.reduceEqDiff, reduceCtorEq, Nat.reduceAdd, Nat.reduceSub, Nat.reduceMul, Nat.reduceLeDiff, Int.reduceToNat, Int.reduceLT, Int.reduceLE, Int.reduceNeg]; with_reducible rfl); (· simp only [shA, eff, Int.reduceEq, Int.reduceAdd, Int.reduceSub, Nat.reduceBEq, Nat.reduceEqDiff, reduceCtorEq, Nat.reduceAdd, Nat.reduceSub, Nat.reduceMul, Nat.reduceLeDiff, Int.reduceToNat, Int.reduceLT, Int.reduceLE, Int.reduceNeg]; with_reducible rfl); (· simp only [shA, eff, Int.reduceEq, Int.reduceAdd, Int.reduceSub, Nat.reduceBEq, Nat.reduceEqDiff, reduceCtorEq, Nat.reduceAdd, Nat.reduceSub, Nat.reduceMul, Nat.reduceLeDiff, Int.reduceToNat, Int.reduceLT, Int.reduceLE, Int.reduceNeg]; with_reducible rfl); (· simp only [shA, eff, Int.reduceEq, Int.reduceAdd, Int.reduceSub, Nat.reduceBEq, Nat.reduceEqDiff, reduceCtorEq, Nat.reduceAdd, Nat.reduceSub, Nat.reduceMul, Nat.reduceLeDiff, Int.reduceToNat, Int.reduceLT, Int.reduceLE, Int.reduceNeg]; with_reducible rfl); (· exact hF); (· rfl); (· simp only [shA, eff, Int.reduceEq, Int.reduceAdd, Int.reduceSub, Nat.reduceBEq, Nat.reduceEqDiff, reduceCtorEq, Nat.reduceAdd, Nat.reduceSub, Nat.reduceMul, Nat.reduceLeDiff, Int.reduceToNat, Int.reduceLT, Int.reduceLE, Int.reduceNeg]; with_reducible rfl); (· simp only [shA, eff, Int.reduceEq, Int.reduceAdd, Int.reduceSub, Nat.reduceBEq, Nat.reduceEqDiff, reduceCtorEq, Nat.reduceAdd, Nat.reduceSub, Nat.reduceMul, Nat.reduceLeDiff, Int.reduceToNat, Int.reduceLT, Int.reduceLE, Int.reduceNeg]; with_reducible rfl); (· simp only [shA, eff, Int.reduceEq, Int.reduceAdd, Int.reduceSub, Nat.reduceBEq, Nat.reduceEqDiff, reduceCtorEq, Nat.reduceAdd, Nat.reduceSub, Nat.reduceMul, Nat.reduceLeDiff, Int.reduceToNat, Int.reduceLT, Int.reduceLE, Int.reduceNeg]; with_reducible rfl)
  repeat ((with_reducible apply w_op); (· rfl); (· simp only [shA, eff, Int.reduceEq, Int.reduceAdd, Int.reduceSub, Nat.reduceBEq, Nat.reduceEqDiff, reduceCtorEq, Nat.reduceAdd, Nat.reduceSub, Nat.reduceMul, Nat.reduceLeDiff, Int.reduceToNat, Int.reduceLT, Int.reduceLE, Int.reduceNeg]; with_reducible rfl); (· simp only [shA, eff, Int.reduceEq, Int.reduceAdd, Int.reduceSub, Nat.reduceBEq, Nat.reduceEqDiff, reduceCtorEq, Nat.reduceAdd, Nat.reduceSub, Nat.reduceMul, Nat.reduceLeDiff, Int.reduceToNat, Int.reduceLT, Int.reduceLE, Int.reduceNeg]; with_reducible rfl))
  apply w_done
  repeat (first | (with_reducible apply w_unr) | (with_reducible apply w_assoc) | (with_reducible apply w_skip) | (with_reducible apply w_ret) | (with_reducible apply w_retE) | (with_reducible apply w_skipE) | (with_reducible apply w_exit) | (with_reducible apply w_exitE) | (with_reducible apply w_block) | (with_reducible apply w_blockE) | ((with_reducible apply w_reg); · simp only [shA, eff, Int.reduceEq, Int.reduceAdd, Int.reduceSub, Nat.reduceBEq, Nat.reduceEqDiff, reduceCtorEq, Nat.reduceAdd, Nat.reduceSub, Nat.reduceMul, Nat.reduceLeDiff, Int.reduceToNat, Int.reduceLT, Int.reduceLE, Int.reduceNeg]; with_reducible rfl) | ((with_reducible apply w_regE); · simp only [shA, eff, Int.reduceEq, Int.reduceAdd, Int.reduceSub, Nat.reduceBEq, Nat.reduceEqDiff, reduceCtorEq, Nat.reduceAdd, Nat.reduceSub, Nat.reduceMul, Nat.reduceLeDiff, Int.reduceToNat, Int.reduceLT, Int.reduceLE, Int.reduceNeg]; with_reducible rfl) | ((with_reducible apply w_condT); · simp only [shA, eff, Int.reduceEq, Int.reduceAdd, Int.reduceSub, Nat.reduceBEq, Nat.reduceEqDiff, reduceCtorEq, Nat.reduceAdd, Nat.reduceSub, Nat.reduceMul, Nat.reduceLeDiff, Int.reduceToNat, Int.reduceLT, Int.reduceLE, Int.reduceNeg]) | ((with_reducible apply w_condF); · simp only [shA, eff, Int.reduceEq, Int.reduceAdd, Int.reduceSub, Nat.reduceBEq, Nat.reduceEqDiff, reduceCtorEq, Nat.reduceAdd, Nat.reduceSub, Nat.reduceMul, Nat.reduceLeDiff, Int.reduceToNat, Int.reduceLT, Int.reduceLE, Int.reduceNeg]) | ((with_reducible apply w_condTE); · simp only [shA, eff, Int.reduceEq, Int.reduceAdd, Int.reduceSub, Nat.reduceBEq, Nat.reduceEqDiff, reduceCtorEq, Nat.reduceAdd, Nat.reduceSub, Nat.reduceMul, Nat.reduceLeDiff, Int.reduceToNat, Int.reduceLT, Int.reduceLE, Int.reduceNeg]) | ((with_reducible apply w_condFE); · simp only [shA, eff, Int.reduceEq, Int.reduceAdd, Int.reduceSub, Nat.reduceBEq, Nat.reduceEqDiff, reduceCtorEq, Nat.reduceAdd, Nat.reduceSub, Nat.reduceMul, Nat.reduceLeDiff, Int.reduceToNat, Int.reduceLT, Int.reduceLE, Int.reduceNeg]) | (with_reducible apply q_then) | (with_reducible apply q_blockN) | (with_reducible apply q_blockR) | (with_reducible apply q_thenR) | (with_reducible apply q_thenX) | (with_reducible apply q_blockX) | ((with_reducible apply q_blockY); · rfl))
  have hN : fitN t x ≤ x.l.length ∧ fitN t x ≤ 12 ∧ (t.k ≠ 5 → fitN t x = 0) ∧ (t.k = 5 → fitN t x = min x.l.length 12) := by unfold fitN; split <;> refine ⟨by omega, by omega, fun _ => ?_, fun _ => ?_⟩ <;> first | rfl | contradiction
  generalize fitN t x = N at hN ⊢
  obtain ⟨hN1, hN2, hN3, hN4⟩ := hN
  refine w_loopE (σ := { i : Nat // i ≤ N }) (fun i => fitSt t x most v i.1) (fun i => N - i.1) ⟨0, Nat.zero_le _⟩ ?_ ?_
  · simp only [fitSt, if_true]
    apply le_of <;> simp [leL, lk, Nat.beq, I, S, ES.kill, has, drp]
  rintro ⟨i, hi⟩
  have hlm : (x.l.map R1.row).length = x.l.length := List.length_map _
  have c3 : 1 ≤ maxLen := by decide
  rcases Nat.lt_or_ge i N with hlt | hge
  · have h5 : t.k = 5 := Decidable.byContradiction fun h => by have := hN3 h; omega
    have h12 := hN4 h5
    have d5 := decide_T h5
    obtain ⟨r, hr⟩ : ∃ r, x.l[i]? = some r := ⟨_, List.getElem?_eq_getElem (show i < x.l.length by omega)⟩
    obtain ⟨o1, o2, o3⟩ := hl r (List.mem_of_getElem? hr)
    have er : (x.l.map R1.row)[i]? = some [.v (.int .i64 r.k), .v (.int .i64 r.n), .v (.string (str r.s))] := by rw [List.getElem?_map, hr]; rfl
    have hG := (fit_ok g t.o r.k r.n r.s most o2 o1 o3 hm).out (nv_tv (fitV_l _ _ _ _ _))
    unfold tv at hG
    rw [fitV_l, V.rows_nil] at hG
    have hrow := row_of_nil (fitV_l t.o r.k r.n r.s most)
    have hsucc := fitRows_succ (o := t.o) (most := most) hr
    rw [hrow] at hsucc
    generalize fitV t.o r.k r.n r.s most = u at hG hsucc
    rcases Nat.eq_zero_or_pos i with hi0 | hi0
    · subst hi0
      have d1 := decide_T (p := ((0 : Int) < (x.l.length : Int))) (by omega)
      have hz : fitRows t.o most x.l 0 = [] := rfl
      rw [hz, List.nil_append] at hsucc
      have hsucc1 : fitRows t.o most x.l 1 = [[PV.v (Value.int IntKind.i64 u.k), PV.v (Value.int IntKind.i64 u.n), PV.v (Value.string (str u.s)), PV.sl 4 []]] := hsucc
      simp only [fitSt_0]
      repeat (first | (with_reducible apply w_unr) | (with_reducible apply w_assoc) | (with_reducible apply w_skip) | (with_reducible apply w_ret) | (with_reducible apply w_retE) | (with_reducible apply w_skipE) | (with_reducible apply w_exit) | (with_reducible apply w_exitE) | (with_reducible apply w_block) | (with_reducible apply w_blockE) | ((with_reducible apply w_reg); · simp only [shA, eff, Int.reduceEq, Int.reduceAdd, Int.reduceSub, Nat.reduceBEq, Nat.reduceEqDiff, reduceCtorEq, Nat.reduceAdd, Nat.reduceSub, Nat.reduceMul, Nat.reduceLeDiff, Int.reduceToNat, Int.reduceLT, Int.reduceLE, Int.reduceNeg, d1, d5, hlm]; with_reducible rfl) | ((with_reducible apply w_regE); · simp only [shA, eff, Int.reduceEq, Int.reduceAdd, Int.reduceSub, Nat.reduceBEq, Nat.reduceEqDiff, reduceCtorEq, Nat.reduceAdd, Nat.reduceSub, Nat.reduceMul, Nat.reduceLeDiff, Int.reduceToNat, Int.reduceLT, Int.reduceLE, Int.reduceNeg, d1, d5, hlm]; with_reducible rfl) | ((with_reducible apply w_condT); · simp only [shA, eff, Int.reduceEq, Int.reduceAdd, Int.reduceSub, Nat.reduceBEq, Nat.reduceEqDiff, reduceCtorEq, Nat.reduceAdd, Nat.reduceSub, Nat.reduceMul, Nat.reduceLeDiff, Int.reduceToNat, Int.reduceLT, Int.reduceLE, Int.reduceNeg, d1, d5, hlm]) | ((with_reducible apply w_condF); · simp only [shA, eff, Int.reduceEq, Int.reduceAdd, Int.reduceSub, Nat.reduceBEq, Nat.reduceEqDiff, reduceCtorEq, Nat.reduceAdd, Nat.reduceSub, Nat.reduceMul, Nat.reduceLeDiff, Int.reduceToNat, Int.reduceLT, Int.reduceLE, Int.reduceNeg, d1, d5, hlm]) | ((with_reducible apply w_condTE); · simp only [shA, eff, Int.reduceEq, Int.reduceAdd, Int.reduceSub, Nat.reduceBEq, Nat.reduceEqDiff, reduceCtorEq, Nat.reduceAdd, Nat.reduceSub, Nat.reduceMul, Nat.reduceLeDiff, Int.reduceToNat, Int.reduceLT, Int.reduceLE, Int.reduceNeg, d1, d5, hlm]) | ((with_reducible apply w_condFE); · simp only [shA, eff, Int.reduceEq, Int.reduceAdd, Int.reduceSub, Nat.reduceBEq, Nat.reduceEqDiff, reduceCtorEq, Nat.reduceAdd, Nat.reduceSub, Nat.reduceMul, Nat.reduceLeDiff, Int.reduceToNat, Int.reduceLT, Int.reduceLE, Int.reduceNeg, d1, d5, hlm]) | (with_reducible apply q_then) | (with_reducible apply q_blockN) | (with_reducible apply q_blockR) | (with_reducible apply q_thenR) | (with_reducible apply q_thenX) | (with_reducible apply q_blockX) | ((with_reducible apply q_blockY); · rfl))
      (first | (with_reducible apply w_ops2) | (with_reducible apply w_ops2E))
      repeat ((with_reducible apply w_op); (· rfl); (· simp only [shA, eff, Int.reduceEq, Int.reduceAdd, Int.reduceSub, Nat.reduceBEq, Nat.reduceEqDiff, reduceCtorEq, Nat.reduceAdd, Nat.reduceSub, Nat.reduceMul, Nat.reduceLeDiff, Int.reduceToNat, Int.reduceLT, Int.reduceLE, Int.reduceNeg, TV.elems, er]; with_reducible rfl); (· simp only [shA, eff, Int.reduceEq, Int.reduceAdd, Int.reduceSub, Nat.reduceBEq, Nat.reduceEqDiff, reduceCtorEq, Nat.reduceAdd, Nat.reduceSub, Nat.reduceMul, Nat.reduceLeDiff, Int.reduceToNat, Int.reduceLT, Int.reduceLE, Int.reduceNeg, TV.elems, er]; with_reducible rfl))
      (with_reducible apply w_call); (· simp only [shA, eff, Int.reduceEq, Int.reduceAdd, Int.reduceSub, Nat.reduceBEq, Nat.reduceEqDiff, reduceCtorEq, Nat.reduceAdd, Nat.reduceSub, Nat.reduceMul, Nat.reduceLeDiff, Int.reduceToNat, Int.reduceLT, Int.reduceLE, Int.reduceNeg]; with_reducible rfl); (· simp only [shA, eff, Int.reduceEq, Int.reduceAdd, Int.reduceSub, Nat.reduceBEq, Nat.reduceEqDiff, reduceCtorEq, Nat.reduceAdd, Nat.reduceSub, Nat.reduceMul, Nat.reduceLeDiff, Int.reduceToNat, Int.reduceLT, Int.reduceLE, Int.reduceNeg]; with_reducible rfl); (· simp only [shA, eff, Int.reduceEq, Int.reduceAdd, Int.reduceSub, Nat.reduceBEq, Nat.reduceEqDiff, reduceCtorEq, Nat.reduceAdd, Nat.reduceSub, Nat.reduceMul, Nat.reduceLeDiff, Int.reduceToNat, Int.reduceLT, Int.reduceLE, Int.reduceNeg]; with_reducible rfl); (· simp only [shA, eff, Int.reduceEq, Int.reduceAdd, Int.reduceSub, Nat.reduceBEq, Nat.reduceEqDiff, reduceCtorEq, Nat.reduceAdd, Nat.reduceSub, Nat.reduceMul, Nat.reduceLeDiff, Int.reduceToNat, Int.reduceLT, Int.reduceLE, Int.reduceNeg]; with_reducible rfl); (· exact hG); (· rfl); (· simp only [shA, eff, Int.reduceEq, Int.reduceAdd, Int.reduceSub, Nat.reduceBEq, Nat.reduceEqDiff, reduceCtorEq, Nat.reduceAdd, Nat.reduceSub, Nat.reduceMul, Nat.reduceLeDiff, Int.reduceToNat, Int.reduceLT, Int.reduceLE, Int.reduceNeg]; with_reducible rfl); (· simp only [shA, eff, Int.reduceEq, Int.reduceAdd, Int.reduceSub, Nat.reduceBEq, Nat.reduceEqDiff, reduceCtorEq, Nat.reduceAdd, Nat.reduceSub, Nat.reduceMul, Nat.reduceLeDiff, Int.reduceToNat, Int.reduceLT, Int.reduceLE, Int.reduceNeg]; with_reducible rfl); (· simp only [shA, eff, Int.reduceEq, Int.reduceAdd, Int.reduceSub, Nat.reduceBEq, Nat.reduceEqDiff, reduceCtorEq, Nat.reduceAdd, Nat.reduceSub, Nat.reduceMul, Nat.reduceLeDiff, Int.reduceToNat, Int.reduceLT, Int.reduceLE, Int.reduceNeg]; with_reducible rfl)
      repeat ((with_reducible apply w_op); (· rfl); (· simp only [shA, eff, Int.reduceEq, Int.reduceAdd, Int.reduceSub, Nat.reduceBEq, Nat.reduceEqDiff, reduceCtorEq, Nat.reduceAdd, Nat.reduceSub, Nat.reduceMul, Nat.reduceLeDiff, Int.reduceToNat, Int.reduceLT, Int.reduceLE, Int.reduceNeg, TV.elems, TV.isNil, c3, List.all_cons, List.all_nil, Bool.and_true, Bool.and_self]; with_reducible rfl); (· simp only [shA, eff, Int.reduceEq, Int.reduceAdd, Int.reduceSub, Nat.reduceBEq, Nat.reduceEqDiff, reduceCtorEq, Nat.reduceAdd, Nat.reduceSub, Nat.reduceMul, Nat.reduceLeDiff, Int.reduceToNat, Int.reduceLT, Int.reduceLE, Int.reduceNeg, TV.elems, TV.isNil, c3, List.all_cons, List.all_nil, Bool.and_true, Bool.and_self]; with_reducible rfl))
      apply w_done
      have w1 : IntKind.i64.wrap ((0 : Int) + 1) = 1 := by decide
      have w2 : IntKind.i64.wrap (1 : Int) = 1 := by decide
      repeat (first | (with_reducible apply w_unr) | (with_reducible apply w_assoc) | (with_reducible apply w_skip) | (with_reducible apply w_ret) | (with_reducible apply w_retE) | (with_reducible apply w_skipE) | (with_reducible apply w_exit) | (with_reducible apply w_exitE) | (with_reducible apply w_block) | (with_reducible apply w_blockE) | ((with_reducible apply w_reg); · simp only [shA, eff, Int.reduceEq, Int.reduceAdd, Int.reduceSub, Nat.reduceBEq, Nat.reduceEqDiff, reduceCtorEq, Nat.reduceAdd, Nat.reduceSub, Nat.reduceMul, Nat.reduceLeDiff, Int.reduceToNat, Int.reduceLT, Int.reduceLE, Int.reduceNeg, w1, w2]; with_reducible rfl) | ((with_reducible apply w_regE); · simp only [shA, eff, Int.reduceEq, Int.reduceAdd, Int.reduceSub, Nat.reduceBEq, Nat.reduceEqDiff, reduceCtorEq, Nat.reduceAdd, Nat.reduceSub, Nat.reduceMul, Nat.reduceLeDiff, Int.reduceToNat, Int.reduceLT, Int.reduceLE, Int.reduceNeg, w1, w2]; with_reducible rfl) | ((with_reducible apply w_condT); · simp only [shA, eff, Int.reduceEq, Int.reduceAdd, Int.reduceSub, Nat.reduceBEq, Nat.reduceEqDiff, reduceCtorEq, Nat.reduceAdd, Nat.reduceSub, Nat.reduceMul, Nat.reduceLeDiff, Int.reduceToNat, Int.reduceLT, Int.reduceLE, Int.reduceNeg, w1, w2]) | ((with_reducible apply w_condF); · simp only [shA, eff, Int.reduceEq, Int.reduceAdd, Int.reduceSub, Nat.reduceBEq, Nat.reduceEqDiff, reduceCtorEq, Nat.reduceAdd, Nat.reduceSub, Nat.reduceMul, Nat.reduceLeDiff, Int.reduceToNat, Int.reduceLT, Int.reduceLE, Int.reduceNeg, w1, w2]) | ((with_reducible apply w_condTE); · simp only [shA, eff, Int.reduceEq, Int.reduceAdd, Int.reduceSub, Nat.reduceBEq, Nat.reduceEqDiff, reduceCtorEq, Nat.reduceAdd, Nat.reduceSub, Nat.reduceMul, Nat.reduceLeDiff, Int.reduceToNat, Int.reduceLT, Int.reduceLE, Int.reduceNeg, w1, w2]) | ((with_reducible apply w_condFE); · simp only [shA, eff, Int.reduceEq, Int.reduceAdd, Int.reduceSub, Nat.reduceBEq, Nat.reduceEqDiff, reduceCtorEq, Nat.reduceAdd, Nat.reduceSub, Nat.reduceMul, Nat.reduceLeDiff, Int.reduceToNat, Int.reduceLT, Int.reduceLE, Int.reduceNeg, w1, w2]) | (with_reducible apply q_then) | (with_reducible apply q_blockN) | (with_reducible apply q_blockR) | (with_reducible apply q_thenR) | (with_reducible apply q_thenX) | (with_reducible apply q_blockX) | ((with_reducible apply q_blockY); · rfl))
      refine ⟨⟨1, by omega⟩, by show N - 1 < N - 0; omega, ?_⟩
      simp only [fitSt_1 t x most v (i := 1) (by decide), hsucc1]
      apply le_of <;> simp [leL, lk, Nat.beq, I, S, ES.kill, has, drp]
    · have d1 := decide_T (p := ((i : Int) < (x.l.length : Int))) (by omega)
      have d2 := decide_T (p := ((i : Int) < 12)) (by omega)
      have hfl := fitRows_len (o := t.o) (most := most) (l := x.l) (i := i) (by omega)
      have c1 : (i + 1) * 56 ≤ 140737488355328 := by omega
      have c2 : i + 1 ≤ maxLen := by unfold maxLen; omega
      have w1 : IntKind.i64.wrap ((i : Int) + 1) = ((i + 1 : Nat) : Int) := by rw [wrap64 (by omega) (by omega)]; omega
      simp only [fitSt_1 t x most v (i := i) (by omega)]
      repeat (first | (with_reducible apply w_unr) | (with_reducible apply w_assoc) | (with_reducible apply w_skip) | (with_reducible apply w_ret) | (with_reducible apply w_retE) | (with_reducible apply w_skipE) | (with_reducible apply w_exit) | (with_reducible apply w_exitE) | (with_reducible apply w_block) | (with_reducible apply w_blockE) | ((with_reducible apply w_reg); · simp only [shA, eff, Int.reduceEq, Int.reduceAdd, Int.reduceSub, Nat.reduceBEq, Nat.reduceEqDiff, reduceCtorEq, Nat.reduceAdd, Nat.reduceSub, Nat.reduceMul, Nat.reduceLeDiff, Int.reduceToNat, Int.reduceLT, Int.reduceLE, Int.reduceNeg, d1, d2, d5, hlm]; with_reducible rfl) | ((with_reducible apply w_regE); · simp only [shA, eff, Int.reduceEq, Int.reduceAdd, Int.reduceSub, Nat.reduceBEq, Nat.reduceEqDiff, reduceCtorEq, Nat.reduceAdd, Nat.reduceSub, Nat.reduceMul, Nat.reduceLeDiff, Int.reduceToNat, Int.reduceLT, Int.reduceLE, Int.reduceNeg, d1, d2, d5, hlm]; with_reducible rfl) | ((with_reducible apply w_condT); · simp only [shA, eff, Int.reduceEq, Int.reduceAdd, Int.reduceSub, Nat.reduceBEq, Nat.reduceEqDiff, reduceCtorEq, Nat.reduceAdd, Nat.reduceSub, Nat.reduceMul, Nat.reduceLeDiff, Int.reduceToNat, Int.reduceLT, Int.reduceLE, Int.reduceNeg, d1, d2, d5, hlm]) | ((with_reducible apply w_condF); · simp only [shA, eff, Int.reduceEq, Int.reduceAdd, Int.reduceSub, Nat.reduceBEq, Nat.reduceEqDiff, reduceCtorEq, Nat.reduceAdd, Nat.reduceSub, Nat.reduceMul, Nat.reduceLeDiff, Int.reduceToNat, Int.reduceLT, Int.reduceLE, Int.reduceNeg, d1, d2, d5, hlm]) | ((with_reducible apply w_condTE); · simp only [shA, eff, Int.reduceEq, Int.reduceAdd, Int.reduceSub, Nat.reduceBEq, Nat.reduceEqDiff, reduceCtorEq, Nat.reduceAdd, Nat.reduceSub, Nat.reduceMul, Nat.reduceLeDiff, Int.reduceToNat, Int.reduceLT, Int.reduceLE, Int.reduceNeg, d1, d2, d5, hlm]) | ((with_reducible apply w_condFE); · simp only [shA, eff, Int.reduceEq, Int.reduceAdd, Int.reduceSub, Nat.reduceBEq, Nat.reduceEqDiff, reduceCtorEq, Nat.reduceAdd, Nat.reduceSub, Nat.reduceMul, Nat.reduceLeDiff, Int.reduceToNat, Int.reduceLT, Int.reduceLE, Int.reduceNeg, d1, d2, d5, hlm]) | (with_reducible apply q_then) | (with_reducible apply q_blockN) | (with_reducible apply q_blockR) | (with_reducible apply q_thenR) | (with_reducible apply q_thenX) | (with_reducible apply q_blockX) | ((with_reducible apply q_blockY); · rfl))
      (first | (with_reducible apply w_ops) | (with_reducible apply w_opsE))
      repeat ((with_reducible apply w_op); (· rfl); (· simp only [shA, eff, Int.reduceEq, Int.reduceAdd, Int.reduceSub, Nat.reduceBEq, Nat.reduceEqDiff, reduceCtorEq, Nat.reduceAdd, Nat.reduceSub, Nat.reduceMul, Nat.reduceLeDiff, Int.reduceToNat, Int.reduceLT, Int.reduceLE, Int.reduceNeg, TV.elems, er]; with_reducible rfl); (· simp only [shA, eff, Int.reduceEq, Int.reduceAdd, Int.reduceSub, Nat.reduceBEq, Nat.reduceEqDiff, reduceCtorEq, Nat.reduceAdd, Nat.reduceSub, Nat.reduceMul, Nat.reduceLeDiff, Int.reduceToNat, Int.reduceLT, Int.reduceLE, Int.reduceNeg, TV.elems, er]; with_reducible rfl))
      (with_reducible apply w_call); (· simp only [shA, eff, Int.reduceEq, Int.reduceAdd, Int.reduceSub, Nat.reduceBEq, Nat.reduceEqDiff, reduceCtorEq, Nat.reduceAdd, Nat.reduceSub, Nat.reduceMul, Nat.reduceLeDiff, Int.reduceToNat, Int.reduceLT, Int.reduceLE, Int.reduceNeg]; with_reducible rfl); (· simp only [shA, eff, Int.reduceEq, Int.reduceAdd, Int.reduceSub, Nat.reduceBEq, Nat.reduceEqDiff, reduceCtorEq, Nat.reduceAdd, Nat.reduceSub, Nat.reduceMul, Nat.reduceLeDiff, Int.reduceToNat, Int.reduceLT, Int.reduceLE, Int.reduceNeg]; with_reducible rfl); (· simp only [shA, eff, Int.reduceEq, Int.reduceAdd, Int.reduceSub, Nat.reduceBEq, Nat.reduceEqDiff, reduceCtorEq, Nat.reduceAdd, Nat.reduceSub, Nat.reduceMul, Nat.reduceLeDiff, Int.reduceToNat, Int.reduceLT, Int.reduceLE, Int.reduceNeg]; with_reducible rfl); (· simp only [shA, eff, Int.reduceEq, Int.reduceAdd, Int.reduceSub, Nat.reduceBEq, Nat.reduceEqDiff, reduceCtorEq, Nat.reduceAdd, Nat.reduceSub, Nat.reduceMul, Nat.reduceLeDiff, Int.reduceToNat, Int.reduceLT, Int.reduceLE, Int.reduceNeg]; with_reducible rfl); (· exact hG); (· rfl); (· simp only [shA, eff, Int.reduceEq, Int.reduceAdd, Int.reduceSub, Nat.reduceBEq, Nat.reduceEqDiff, reduceCtorEq, Nat.reduceAdd, Nat.reduceSub, Nat.reduceMul, Nat.reduceLeDiff, Int.reduceToNat, Int.reduceLT, Int.reduceLE, Int.reduceNeg]; with_reducible rfl); (· simp only [shA, eff, Int.reduceEq, Int.reduceAdd, Int.reduceSub, Nat.reduceBEq, Nat.reduceEqDiff, reduceCtorEq, Nat.reduceAdd, Nat.reduceSub, Nat.reduceMul, Nat.reduceLeDiff, Int.reduceToNat, Int.reduceLT, Int.reduceLE, Int.reduceNeg]; with_reducible rfl); (· simp only [shA, eff, Int.reduceEq, Int.reduceAdd, Int.reduceSub, Nat.reduceBEq, Nat.reduceEqDiff, reduceCtorEq, Nat.reduceAdd, Nat.reduceSub, Nat.reduceMul, Nat.reduceLeDiff, Int.reduceToNat, Int.reduceLT, Int.reduceLE, Int.reduceNeg]; with_reducible rfl)
      repeat ((with_reducible apply w_op); (· rfl); (· simp only [shA, eff, Int.reduceEq, Int.reduceAdd, Int.reduceSub, Nat.reduceBEq, Nat.reduceEqDiff, reduceCtorEq, Nat.reduceAdd, Nat.reduceSub, Nat.reduceMul, Nat.reduceLeDiff, Int.reduceToNat, Int.reduceLT, Int.reduceLE, Int.reduceNeg, TV.elems, c1, c2, hfl, List.all_cons, List.all_nil, Bool.and_true, Bool.and_self]; with_reducible rfl); (· simp only [shA, eff, Int.reduceEq, Int.reduceAdd, Int.reduceSub, Nat.reduceBEq, Nat.reduceEqDiff, reduceCtorEq, Nat.reduceAdd, Nat.reduceSub, Nat.reduceMul, Nat.reduceLeDiff, Int.reduceToNat, Int.reduceLT, Int.reduceLE, Int.reduceNeg, TV.elems, c1, c2, hfl, List.all_cons, List.all_nil, Bool.and_true, Bool.and_self]; with_reducible rfl))
      apply w_done
      repeat (first | (with_reducible apply w_unr) | (with_reducible apply w_assoc) | (with_reducible apply w_skip) | (with_reducible apply w_ret) | (with_reducible apply w_retE) | (with_reducible apply w_skipE) | (with_reducible apply w_exit) | (with_reducible apply w_exitE) | (with_reducible apply w_block) | (with_reducible apply w_blockE) | ((with_reducible apply w_reg); · simp only [shA, eff, Int.reduceEq, Int.reduceAdd, Int.reduceSub, Nat.reduceBEq, Nat.reduceEqDiff, reduceCtorEq, Nat.reduceAdd, Nat.reduceSub, Nat.reduceMul, Nat.reduceLeDiff, Int.reduceToNat, Int.reduceLT, Int.reduceLE, Int.reduceNeg, w1]; with_reducible rfl) | ((with_reducible apply w_regE); · simp only [shA, eff, Int.reduceEq, Int.reduceAdd, Int.reduceSub, Nat.reduceBEq, Nat.reduceEqDiff, reduceCtorEq, Nat.reduceAdd, Nat.reduceSub, Nat.reduceMul, Nat.reduceLeDiff, Int.reduceToNat, Int.reduceLT, Int.reduceLE, Int.reduceNeg, w1]; with_reducible rfl) | ((with_reducible apply w_condT); · simp only [shA, eff, Int.reduceEq, Int.reduceAdd, Int.reduceSub, Nat.reduceBEq, Nat.reduceEqDiff, reduceCtorEq, Nat.reduceAdd, Nat.reduceSub, Nat.reduceMul, Nat.reduceLeDiff, Int.reduceToNat, Int.reduceLT, Int.reduceLE, Int.reduceNeg, w1]) | ((with_reducible apply w_condF); · simp only [shA, eff, Int.reduceEq, Int.reduceAdd, Int.reduceSub, Nat.reduceBEq, Nat.reduceEqDiff, reduceCtorEq, Nat.reduceAdd, Nat.reduceSub, Nat.reduceMul, Nat.reduceLeDiff, Int.reduceToNat, Int.reduceLT, Int.reduceLE, Int.reduceNeg, w1]) | ((with_reducible apply w_condTE); · simp only [shA, eff, Int.reduceEq, Int.reduceAdd, Int.reduceSub, Nat.reduceBEq, Nat.reduceEqDiff, reduceCtorEq, Nat.reduceAdd, Nat.reduceSub, Nat.reduceMul, Nat.reduceLeDiff, Int.reduceToNat, Int.reduceLT, Int.reduceLE, Int.reduceNeg, w1]) | ((with_reducible apply w_condFE); · simp only [shA, eff, Int.reduceEq, Int.reduceAdd, Int.reduceSub, Nat.reduceBEq, Nat.reduceEqDiff, reduceCtorEq, Nat.reduceAdd, Nat.reduceSub, Nat.reduceMul, Nat.reduceLeDiff, Int.reduceToNat, Int.reduceLT, Int.reduceLE, Int.reduceNeg, w1]) | (with_reducible apply q_then) | (with_reducible apply q_blockN) | (with_reducible apply q_blockR) | (with_reducible apply q_thenR) | (with_reducible apply q_thenX) | (with_reducible apply q_blockX) | ((with_reducible apply q_blockY); · rfl))
      refine ⟨⟨i + 1, by omega⟩, by show N - (i + 1) < N - i; omega, ?_⟩
      simp only [fitSt_1 t x most v (i := i + 1) (by omega), hsucc]
      apply le_of <;> simp [leL, lk, Nat.beq, I, S, ES.kill, has, drp]
  · obtain rfl : i = N := by omega
    rcases Nat.eq_zero_or_pos i with hi0 | hi0
    · subst hi0
      simp only [fitSt_0, fitAns, if_true]
      by_cases h5 : t.k = 5
      · have := hN4 h5
        have d1 := decide_F (p := ((0 : Int) < (x.l.length : Int))) (by omega)
        repeat (first | (with_reducible apply w_unr) | (with_reducible apply w_assoc) | (with_reducible apply w_skip) | (with_reducible apply w_ret) | (with_reducible apply w_retE) | (with_reducible apply w_skipE) | (with_reducible apply w_exit) | (with_reducible apply w_exitE) | (with_reducible apply w_block) | (with_reducible apply w_blockE) | ((with_reducible apply w_reg); · simp only [shA, eff, Int.reduceEq, Int.reduceAdd, Int.reduceSub, Nat.reduceBEq, Nat.reduceEqDiff, reduceCtorEq, Nat.reduceAdd, Nat.reduceSub, Nat.reduceMul, Nat.reduceLeDiff, Int.reduceToNat, Int.reduceLT, Int.reduceLE, Int.reduceNeg, d1, hlm]; with_reducible rfl) | ((with_reducible apply w_regE); · simp only [shA, eff, Int.reduceEq, Int.reduceAdd, Int.reduceSub, Nat.reduceBEq, Nat.reduceEqDiff, reduceCtorEq, Nat.reduceAdd, Nat.reduceSub, Nat.reduceMul, Nat.reduceLeDiff, Int.reduceToNat, Int.reduceLT, Int.reduceLE, Int.reduceNeg, d1, hlm]; with_reducible rfl) | ((with_reducible apply w_condT); · simp only [shA, eff, Int.reduceEq, Int.reduceAdd, Int.reduceSub, Nat.reduceBEq, Nat.reduceEqDiff, reduceCtorEq, Nat.reduceAdd, Nat.reduceSub, Nat.reduceMul, Nat.reduceLeDiff, Int.reduceToNat, Int.reduceLT, Int.reduceLE, Int.reduceNeg, d1, hlm]) | ((with_reducible apply w_condF); · simp only [shA, eff, Int.reduceEq, Int.reduceAdd, Int.reduceSub, Nat.reduceBEq, Nat.reduceEqDiff, reduceCtorEq, Nat.reduceAdd, Nat.reduceSub, Nat.reduceMul, Nat.reduceLeDiff, Int.reduceToNat, Int.reduceLT, Int.reduceLE, Int.reduceNeg, d1, hlm]) | ((with_reducible apply w_condTE); · simp only [shA, eff, Int.reduceEq, Int.reduceAdd, Int.reduceSub, Nat.reduceBEq, Nat.reduceEqDiff, reduceCtorEq, Nat.reduceAdd, Nat.reduceSub, Nat.reduceMul, Nat.reduceLeDiff, Int.reduceToNat, Int.reduceLT, Int.reduceLE, Int.reduceNeg, d1, hlm]) | ((with_reducible apply w_condFE); · simp only [shA, eff, Int.reduceEq, Int.reduceAdd, Int.reduceSub, Nat.reduceBEq, Nat.reduceEqDiff, reduceCtorEq, Nat.reduceAdd, Nat.reduceSub, Nat.reduceMul, Nat.reduceLeDiff, Int.reduceToNat, Int.reduceLT, Int.reduceLE, Int.reduceNeg, d1, hlm]) | (with_reducible apply q_then) | (with_reducible apply q_blockN) | (with_reducible apply q_blockR) | (with_reducible apply q_thenR) | (with_reducible apply q_thenX) | (with_reducible apply q_blockX) | ((with_reducible apply q_blockY); · rfl))
        simp [Post1, ansW1, resT, SRes.get, ES.fs, ES.kill, has, drp, seqO, nbeq, lk, I, S, TV.ids3, TV.ids2, TV.ids1, TV.ids0, TV.ren3, TV.ren2, TV.ren1, TV.ren0, rhoIn, pos, F_morainelaw03_ValFit, nv]
      · have d5 := decide_F h5
        by_cases hz : 0 < x.l.length
        · have d1 := decide_T (p := ((0 : Int) < (x.l.length : Int))) (by omega)
          repeat (first | (with_reducible apply w_unr) | (with_reducible apply w_assoc) | (with_reducible apply w_skip) | (with_reducible apply w_ret) | (with_reducible apply w_retE) | (with_reducible apply w_skipE) | (with_reducible apply w_exit) | (with_reducible apply w_exitE) | (with_reducible apply w_block) | (with_reducible apply w_blockE) | ((with_reducible apply w_reg); · simp only [shA, eff, Int.reduceEq, Int.reduceAdd, Int.reduceSub, Nat.reduceBEq, Nat.reduceEqDiff, reduceCtorEq, Nat.reduceAdd, Nat.reduceSub, Nat.reduceMul, Nat.reduceLeDiff, Int.reduceToNat, Int.reduceLT, Int.reduceLE, Int.reduceNeg, d1, d5, hlm]; with_reducible rfl) | ((with_reducible apply w_regE); · simp only [shA, eff, Int.reduceEq, Int.reduceAdd, Int.reduceSub, Nat.reduceBEq, Nat.reduceEqDiff, reduceCtorEq, Nat.reduceAdd, Nat.reduceSub, Nat.reduceMul, Nat.reduceLeDiff, Int.reduceToNat, Int.reduceLT, Int.reduceLE, Int.reduceNeg, d1, d5, hlm]; with_reducible rfl) | ((with_reducible apply w_condT); · simp only [shA, eff, Int.reduceEq, Int.reduceAdd, Int.reduceSub, Nat.reduceBEq, Nat.reduceEqDiff, reduceCtorEq, Nat.reduceAdd, Nat.reduceSub, Nat.reduceMul, Nat.reduceLeDiff, Int.reduceToNat, Int.reduceLT, Int.reduceLE, Int.reduceNeg, d1, d5, hlm]) | ((with_reducible apply w_condF); · simp only [shA, eff, Int.reduceEq, Int.reduceAdd, Int.reduceSub, Nat.reduceBEq, Nat.reduceEqDiff, reduceCtorEq, Nat.reduceAdd, Nat.reduceSub, Nat.reduceMul, Nat.reduceLeDiff, Int.reduceToNat, Int.reduceLT, Int.reduceLE, Int.reduceNeg, d1, d5, hlm]) | ((with_reducible apply w_condTE); · simp only [shA, eff, Int.reduceEq, Int.reduceAdd, Int.reduceSub, Nat.reduceBEq, Nat.reduceEqDiff, reduceCtorEq, Nat.reduceAdd, Nat.reduceSub, Nat.reduceMul, Nat.reduceLeDiff, Int.reduceToNat, Int.reduceLT, Int.reduceLE, Int.reduceNeg, d1, d5, hlm]) | ((with_reducible apply w_condFE); · simp only [shA, eff, Int.reduceEq, Int.reduceAdd, Int.reduceSub, Nat.reduceBEq, Nat.reduceEqDiff, reduceCtorEq, Nat.reduceAdd, Nat.reduceSub, Nat.reduceMul, Nat.reduceLeDiff, Int.reduceToNat, Int.reduceLT, Int.reduceLE, Int.reduceNeg, d1, d5, hlm]) | (with_reducible apply q_then) | (with_reducible apply q_blockN) | (with_reducible apply q_blockR) | (with_reducible apply q_thenR) | (with_reducible apply q_thenX) | (with_reducible apply q_blockX) | ((with_reducible apply q_blockY); · rfl))
          simp [Post1, ansW1, resT, SRes.get, ES.fs, ES.kill, has, drp, seqO, nbeq, lk, I, S, TV.ids3, TV.ids2, TV.ids1, TV.ids0, TV.ren3, TV.ren2, TV.ren1, TV.ren0, rhoIn, pos, F_morainelaw03_ValFit, nv]
        · have d1 := decide_F (p := ((0 : Int) < (x.l.length : Int))) (by omega)
          repeat (first | (with_reducible apply w_unr) | (with_reducible apply w_assoc) | (with_reducible apply w_skip) | (with_reducible apply w_ret) | (with_reducible apply w_retE) | (with_reducible apply w_skipE) | (with_reducible apply w_exit) | (with_reducible apply w_exitE) | (with_reducible apply w_block) | (with_reducible apply w_blockE) | ((with_reducible apply w_reg); · simp only [shA, eff, Int.reduceEq, Int.reduceAdd, Int.reduceSub, Nat.reduceBEq, Nat.reduceEqDiff, reduceCtorEq, Nat.reduceAdd, Nat.reduceSub, Nat.reduceMul, Nat.reduceLeDiff, Int.reduceToNat, Int.reduceLT, Int.reduceLE, Int.reduceNeg, d1, d5, hlm]; with_reducible rfl) | ((with_reducible apply w_regE); · simp only [shA, eff, Int.reduceEq, Int.reduceAdd, Int.reduceSub, Nat.reduceBEq, Nat.reduceEqDiff, reduceCtorEq, Nat.reduceAdd, Nat.reduceSub, Nat.reduceMul, Nat.reduceLeDiff, Int.reduceToNat, Int.reduceLT, Int.reduceLE, Int.reduceNeg, d1, d5, hlm]; with_reducible rfl) | ((with_reducible apply w_condT); · simp only [shA, eff, Int.reduceEq, Int.reduceAdd, Int.reduceSub, Nat.reduceBEq, Nat.reduceEqDiff, reduceCtorEq, Nat.reduceAdd, Nat.reduceSub, Nat.reduceMul, Nat.reduceLeDiff, Int.reduceToNat, Int.reduceLT, Int.reduceLE, Int.reduceNeg, d1, d5, hlm]) | ((with_reducible apply w_condF); · simp only [shA, eff, Int.reduceEq, Int.reduceAdd, Int.reduceSub, Nat.reduceBEq, Nat.reduceEqDiff, reduceCtorEq, Nat.reduceAdd, Nat.reduceSub, Nat.reduceMul, Nat.reduceLeDiff, Int.reduceToNat, Int.reduceLT, Int.reduceLE, Int.reduceNeg, d1, d5, hlm]) | ((with_reducible apply w_condTE); · simp only [shA, eff, Int.reduceEq, Int.reduceAdd, Int.reduceSub, Nat.reduceBEq, Nat.reduceEqDiff, reduceCtorEq, Nat.reduceAdd, Nat.reduceSub, Nat.reduceMul, Nat.reduceLeDiff, Int.reduceToNat, Int.reduceLT, Int.reduceLE, Int.reduceNeg, d1, d5, hlm]) | ((with_reducible apply w_condFE); · simp only [shA, eff, Int.reduceEq, Int.reduceAdd, Int.reduceSub, Nat.reduceBEq, Nat.reduceEqDiff, reduceCtorEq, Nat.reduceAdd, Nat.reduceSub, Nat.reduceMul, Nat.reduceLeDiff, Int.reduceToNat, Int.reduceLT, Int.reduceLE, Int.reduceNeg, d1, d5, hlm]) | (with_reducible apply q_then) | (with_reducible apply q_blockN) | (with_reducible apply q_blockR) | (with_reducible apply q_thenR) | (with_reducible apply q_thenX) | (with_reducible apply q_blockX) | ((with_reducible apply q_blockY); · rfl))
          simp [Post1, ansW1, resT, SRes.get, ES.fs, ES.kill, has, drp, seqO, nbeq, lk, I, S, TV.ids3, TV.ids2, TV.ids1, TV.ids0, TV.ren3, TV.ren2, TV.ren1, TV.ren0, rhoIn, pos, F_morainelaw03_ValFit, nv]
    · have h5 : t.k = 5 := Decidable.byContradiction fun h => by have := hN3 h; omega
      have h12 := hN4 h5
      simp only [fitSt_1 t x most v (i := i) (by omega), fitAns, if_neg (show ¬ i = 0 by omega)]
      by_cases hz : i < x.l.length
      · have d1 := decide_T (p := ((i : Int) < (x.l.length : Int))) (by omega)
        have d2 := decide_F (p := ((i : Int) < 12)) (by omega)
        repeat (first | (with_reducible apply w_unr) | (with_reducible apply w_assoc) | (with_reducible apply w_skip) | (with_reducible apply w_ret) | (with_reducible apply w_retE) | (with_reducible apply w_skipE) | (with_reducible apply w_exit) | (with_reducible apply w_exitE) | (with_reducible apply w_block) | (with_reducible apply w_blockE) | ((with_reducible apply w_reg); · simp only [shA, eff, Int.reduceEq, Int.reduceAdd, Int.reduceSub, Nat.reduceBEq, Nat.reduceEqDiff, reduceCtorEq, Nat.reduceAdd, Nat.reduceSub, Nat.reduceMul, Nat.reduceLeDiff, Int.reduceToNat, Int.reduceLT, Int.reduceLE, Int.reduceNeg, d1, d2, hlm]; with_reducible rfl) | ((with_reducible apply w_regE); · simp only [shA, eff, Int.reduceEq, Int.reduceAdd, Int.reduceSub, Nat.reduceBEq, Nat.reduceEqDiff, reduceCtorEq, Nat.reduceAdd, Nat.reduceSub, Nat.reduceMul, Nat.reduceLeDiff, Int.reduceToNat, Int.reduceLT, Int.reduceLE, Int.reduceNeg, d1, d2, hlm]; with_reducible rfl) | ((with_reducible apply w_condT); · simp only [shA, eff, Int.reduceEq, Int.reduceAdd, Int.reduceSub, Nat.reduceBEq, Nat.reduceEqDiff, reduceCtorEq, Nat.reduceAdd, Nat.reduceSub, Nat.reduceMul, Nat.reduceLeDiff, Int.reduceToNat, Int.reduceLT, Int.reduceLE, Int.reduceNeg, d1, d2, hlm]) | ((with_reducible apply w_condF); · simp only [shA, eff, Int.reduceEq, Int.reduceAdd, Int.reduceSub, Nat.reduceBEq, Nat.reduceEqDiff, reduceCtorEq, Nat.reduceAdd, Nat.reduceSub, Nat.reduceMul, Nat.reduceLeDiff, Int.reduceToNat, Int.reduceLT, Int.reduceLE, Int.reduceNeg, d1, d2, hlm]) | ((with_reducible apply w_condTE); · simp only [shA, eff, Int.reduceEq, Int.reduceAdd, Int.reduceSub, Nat.reduceBEq, Nat.reduceEqDiff, reduceCtorEq, Nat.reduceAdd, Nat.reduceSub, Nat.reduceMul, Nat.reduceLeDiff, Int.reduceToNat, Int.reduceLT, Int.reduceLE, Int.reduceNeg, d1, d2, hlm]) | ((with_reducible apply w_condFE); · simp only [shA, eff, Int.reduceEq, Int.reduceAdd, Int.reduceSub, Nat.reduceBEq, Nat.reduceEqDiff, reduceCtorEq, Nat.reduceAdd, Nat.reduceSub, Nat.reduceMul, Nat.reduceLeDiff, Int.reduceToNat, Int.reduceLT, Int.reduceLE, Int.reduceNeg, d1, d2, hlm]) | (with_reducible apply q_then) | (with_reducible apply q_blockN) | (with_reducible apply q_blockR) | (with_reducible apply q_thenR) | (with_reducible apply q_thenX) | (with_reducible apply q_blockX) | ((with_reducible apply q_blockY); · rfl))
        simp [Post1, ansW1, resT, SRes.get, ES.fs, ES.kill, has, drp, seqO, nbeq, lk, I, S, TV.ids3, TV.ids2, TV.ids1, TV.ids0, TV.ren3, TV.ren2, TV.ren1, TV.ren0, rhoIn, pos, F_morainelaw03_ValFit, nv]
      · have d1 := decide_F (p := ((i : Int) < (x.l.length : Int))) (by omega)
        repeat (first | (with_reducible apply w_unr) | (with_reducible apply w_assoc) | (with_reducible apply w_skip) | (with_reducible apply w_ret) | (with_reducible apply w_retE) | (with_reducible apply w_skipE) | (with_reducible apply w_exit) | (with_reducible apply w_exitE) | (with_reducible apply w_block) | (with_reducible apply w_blockE) | ((with_reducible apply w_reg); · simp only [shA, eff, Int.reduceEq, Int.reduceAdd, Int.reduceSub, Nat.reduceBEq, Nat.reduceEqDiff, reduceCtorEq, Nat.reduceAdd, Nat.reduceSub, Nat.reduceMul, Nat.reduceLeDiff, Int.reduceToNat, Int.reduceLT, Int.reduceLE, Int.reduceNeg, d1, hlm]; with_reducible rfl) | ((with_reducible apply w_regE); · simp only [shA, eff, Int.reduceEq, Int.reduceAdd, Int.reduceSub, Nat.reduceBEq, Nat.reduceEqDiff, reduceCtorEq, Nat.reduceAdd, Nat.reduceSub, Nat.reduceMul, Nat.reduceLeDiff, Int.reduceToNat, Int.reduceLT, Int.reduceLE, Int.reduceNeg, d1, hlm]; with_reducible rfl) | ((with_reducible apply w_condT); · simp only [shA, eff, Int.reduceEq, Int.reduceAdd, Int.reduceSub, Nat.reduceBEq, Nat.reduceEqDiff, reduceCtorEq, Nat.reduceAdd, Nat.reduceSub, Nat.reduceMul, Nat.reduceLeDiff, Int.reduceToNat, Int.reduceLT, Int.reduceLE, Int.reduceNeg, d1, hlm]) | ((with_reducible apply w_condF); · simp only [shA, eff, Int.reduceEq, Int.reduceAdd, Int.reduceSub, Nat.reduceBEq, Nat.reduceEqDiff, reduceCtorEq, Nat.reduceAdd, Nat.reduceSub, Nat.reduceMul, Nat.reduceLeDiff, Int.reduceToNat, Int.reduceLT, Int.reduceLE, Int.reduceNeg, d1, hlm]) | ((with_reducible apply w_condTE); · simp only [shA, eff, Int.reduceEq, Int.reduceAdd, Int.reduceSub, Nat.reduceBEq, Nat.reduceEqDiff, reduceCtorEq, Nat.reduceAdd, Nat.reduceSub, Nat.reduceMul, Nat.reduceLeDiff, Int.reduceToNat, Int.reduceLT, Int.reduceLE, Int.reduceNeg, d1, hlm]) | ((with_reducible apply w_condFE); · simp only [shA, eff, Int.reduceEq, Int.reduceAdd, Int.reduceSub, Nat.reduceBEq, Nat.reduceEqDiff, reduceCtorEq, Nat.reduceAdd, Nat.reduceSub, Nat.reduceMul, Nat.reduceLeDiff, Int.reduceToNat, Int.reduceLT, Int.reduceLE, Int.reduceNeg, d1, hlm]) | (with_reducible apply q_then) | (with_reducible apply q_blockN) | (with_reducible apply q_blockR) | (with_reducible apply q_thenR) | (with_reducible apply q_thenX) | (with_reducible apply q_blockX) | ((with_reducible apply q_blockY); · rfl))
        simp [Post1, ansW1, resT, SRes.get, ES.fs, ES.kill, has, drp, seqO, nbeq, lk, I, S, TV.ids3, TV.ids2, TV.ids1, TV.ids0, TV.ren3, TV.ren2, TV.ren1, TV.ren0, rhoIn, pos, F_morainelaw03_ValFit, nv]
theorem valFit_ok (g : Sh.Glob) (t : Ty) (x : RawV) (most : Int) (hx : x.ok) (hm : 1 ≤ most) (hm2 : most ≤ 9223372036854775807) : SCalls Tryd.prog g 37 [tyT t, x.tv, I most] [] (tv (valFit t x most)) [] := by
  refine (valFit_ans g t x most hx hm hm2).out ?_
  unfold fitAns valFit fitN
  by_cases h5 : t.k = 5
  · rw [if_pos h5, if_pos h5]
    have hv : fitV t.k x.k x.n x.s most = .mk 5 0 [] [] := by unfold fitV; rw [if_pos h5]
    rw [hv]
    by_cases hz : min x.l.length 12 = 0
    · rw [if_pos hz]
      have : x.l = [] := List.eq_nil_of_length_eq_zero (by omega)
      have h2 : fitL t.o most x.l = [] := by rw [this]; rfl
      rw [h2]; exact nv_tv rfl
    · rw [if_neg hz]
      have : fitRows t.o most x.l (min x.l.length 12) = V.rows (fitL t.o most x.l) := by
        rw [rows_eq]
        unfold fitRows fitL
        rw [List.map_map, Nat.min_comm, List.take_eq_take_min (l := x.l) (i := 12)]
        rfl
      rw [this]; exact .refl _
  · rw [if_neg h5, if_neg h5, if_pos rfl]
    exact nv_tv (fitV_l _ _ _ _ _)
end Go.Proofs.YtdlolkogifigpaaDoor
end

section
/- Layer 3, the parts that hold no memory of their own: which values may be. -/
namespace Go.Proofs.YtdlolkogifigpaaDoor
open Go Go.RowKit Go.Mor
set_option maxHeartbeats 400000

theorem bret {a b : Bool} (h : a = b) : Ending.returned (.bool a) = .returned (.bool b) := by rw [h]
theorem iret {k : IntKind} {a b : Int} (h : a = b) : Ending.returned (.int k a) = .returned (.int k b) := by rw [h]

theorem small_any (b : Int) (w : World) (h0 : 0 ≤ b) (h1 : b ≤ 255) :
    Calls Tryd.prog 79 #[.int .u8 b] w fun e w' => e = .returned (.bool (decide (97 ≤ b ∧ b ≤ 122))) ∧ w = w' := by
  go_enter Tryd.func79, Tryd.ntmps79
  go_wp2
  all_goals go_ret
  all_goals exact ⟨bret (by simp; omega), rfl⟩

theorem plain_any (r : Int) (w : World) :
    Calls Tryd.prog 110 #[.int .i32 r] w fun e w' => e = .returned (.bool (decide (32 ≤ r ∧ r ≠ 127))) ∧ w = w' := by
  go_enter Tryd.func110, Tryd.ntmps110
  go_wp2
  all_goals go_ret
  all_goals exact ⟨bret (by rw [Bool.eq_iff_iff]; simp_all [] <;> omega), rfl⟩

theorem rightID_any (n : Int) (w : World) :
    Calls Tryd.prog 85 #[.int .i64 n] w fun e w' => e = .returned (.bool (rightID n)) ∧ w = w' := by
  go_enter Tryd.func85, Tryd.ntmps85
  go_wp2
  all_goals go_ret
  all_goals exact ⟨bret (by rw [Bool.eq_iff_iff]; simp_all [rightID] <;> omega), rfl⟩

theorem bare_any (x : V) (p : Option Addr) (cap : Nat) (w : World) :
    Calls Tryd.prog 83 #[.agg #[.int .i64 x.k, .int .i64 x.n, .string (str x.s), .slice p x.l.length cap]] w fun e w' => e = .returned (.bool (bare x)) ∧ Below w.heap.size w w' := by
  go_enter Tryd.func83, Tryd.ntmps83
  go_wp2
  all_goals go_ret
  all_goals refine ⟨bret ?_, by go_grown⟩
  all_goals (rw [Bool.eq_iff_iff]; simp_all [bare] <;> omega)

theorem ofKind_any (x : V) (c : Value) (k : Int) (w : World) :
    Calls Tryd.prog 68 #[.agg #[.int .i64 x.k, .int .i64 x.n, .string (str x.s), c], .int .i64 k] w fun e w' => e = .returned (.bool (ofKind x k)) ∧ Below w.heap.size w w' := by
  go_enter Tryd.func68, Tryd.ntmps68
  go_wp2
  all_goals go_ret
  all_goals refine ⟨bret ?_, by go_grown⟩
  all_goals (rw [Bool.eq_iff_iff]; simp_all [ofKind] <;> omega)

theorem rightType_any (t : Ty) (w : World) :
    Calls Tryd.prog 55 #[.agg #[.int .i64 t.k, .int .i64 t.o]] w fun e w' => e = .returned (.bool (rightType t)) ∧ Below w.heap.size w w' := by
  go_enter Tryd.func55, Tryd.ntmps55
  go_wp2
  all_goals go_ret
  all_goals refine ⟨bret ?_, by go_grown⟩
  all_goals (rw [Bool.eq_iff_iff]; simp_all [rightType] <;> omega)
end Go.Proofs.YtdlolkogifigpaaDoor
end

section
/- slices.IndexFunc and slices.ContainsFunc over lists of values. -/
namespace Go.Proofs.YtdlolkogifigpaaDoor
open Go Go.RowKit Go.Mor
set_option maxHeartbeats 400000

theorem firstAt_none {α : Type} (p : α → Bool) (l : List α) (h : ∀ (i : Nat) x, l[i]? = some x → p x = false) : firstAt p l = -1 := by
  have : l.findIdx? p = none := by
    rw [List.findIdx?_eq_none_iff]
    intro x hx
    obtain ⟨i, hi⟩ := List.getElem?_of_mem hx
    exact h i x hi
  simp [firstAt, this]
theorem firstAt_some {α : Type} (p : α → Bool) (l : List α) (k : Nat) (x : α) (hx : l[k]? = some x) (hp : p x = true) (h : ∀ (i : Nat) y, i < k → l[i]? = some y → p y = false) : firstAt p l = k := by
  have : l.findIdx? p = some k := by
    rw [List.findIdx?_eq_some_iff_getElem]
    obtain ⟨hk, rfl⟩ := List.getElem?_eq_some_iff.1 hx
    refine ⟨hk, hp, fun j hj => ?_⟩
    have := h j _ hj (List.getElem?_eq_getElem (by omega))
    simp [this]
  simp [firstAt, this]
theorem firstAt_nonneg {α : Type} (p : α → Bool) (l : List α) : decide (0 ≤ firstAt p l) = l.any p := by
  unfold firstAt
  cases h : l.findIdx? p with
  | none =>
    rw [List.findIdx?_eq_none_iff] at h
    have : l.any p = false := by simpa using h
    rw [this]; simp
  | some i =>
    rw [List.findIdx?_eq_some_iff_getElem] at h
    obtain ⟨hi, hp, _⟩ := h
    have : l.any p = true := List.any_eq_true.2 ⟨_, List.getElem_mem hi, hp⟩
    rw [this]; simp

/-- The function value asks p of a value: whatever has been made since w. -/
def Asks (w : World) (f : FuncId) (caps : Array Value) (l : List V) (p : V → Bool) : Prop :=
  ∀ (x : V) (c : Value) (w1 : World), x ∈ l → IsL (fun _ => True) w1 x.l c → Below w.heap.size w w1 →
    Calls Tryd.prog f (#[.agg #[.int .i64 x.k, .int .i64 x.n, .string (str x.s), c]] ++ caps) w1 fun e w2 => e = .returned (.bool (p x)) ∧ Below w1.heap.size w1 w2

set_option maxRecDepth 4000 in
theorem indexV_any (l : List V) (c : Value) (f : FuncId) (caps : Array Value) (p : V → Bool) (w : World) (hL : IsL (fun _ => True) w l c) (hf : Asks w f caps l p) (hen : Enters Tryd.prog f) :
    Calls Tryd.prog 97 #[c, .func (.func f) #[] caps] w fun e w' => e = .returned (.int .i64 (firstAt p l)) ∧ Below w.heap.size w w' := by
  cases hL with
  | mk l b off cap q sub hcap hmax hp hc hs =>
  unfold maxLen at hmax
  go_enter Tryd.func97, Tryd.ntmps97
  go_wp2_with fail
  go_loopw [8] (fun i wr => ∃ k : Nat, k ≤ l.length ∧ i = .int .i64 k ∧ Below w.heap.size w wr ∧ Hid (∀ (i : Nat) y, i < k → l[i]? = some y → p y = false)) (fun i _ => l.length - (intOf i).toNat)
  case atStart => exact ⟨0, Nat.zero_le _, rfl, Below.refl _ _, fun i y h => absurd h (by omega)⟩
  case round =>
    obtain ⟨k, hk, rfl, hb, hno⟩ := hrel
    by_cases hlt : k < l.length
    · obtain ⟨x, hx⟩ : ∃ x, l[k]? = some x := ⟨_, List.getElem?_eq_getElem hlt⟩
      obtain ⟨rfl, _⟩ := hp (by rintro rfl; simp at hlt)
      obtain ⟨h0, h1, h2, h3⟩ := hc k x hx
      have e0 := (hb.cell (cell_lt h0)).trans h0
      have e1 := (hb.cell (cell_lt h1)).trans h1
      have e2 := (hb.cell (cell_lt h2)).trans h2
      have e3 := (hb.cell (cell_lt h3)).trans h3
      have HF := Lib.hid (hf x (sub k) wr (List.mem_of_getElem? hx) ((hs k x hx).ext hb) hb)
      have HX := Lib.hid hx
      have hen' := fun args w => hen args w
      clear hx h0 h1 h2 h3 hc hs hp hf hen
      go_wp2_with fail
      refine HF.out.mono ?_
      rintro e w2 ⟨rfl, hb2⟩
      have hb3 := hb.trans (hb2.mono hb.size)
      cases hpx : p x
      · clear hen'
        have HP := Lib.hid hpx
        clear hpx
        go_wp2_with fail
        go_roundw
        case rel =>
          refine ⟨k + 1, by omega, by go_num, hb3, fun i y hi hy => ?_⟩
          rcases Nat.lt_or_ge i k with h | h
          · exact hno i y h hy
          · obtain rfl : i = k := by omega
            have := hy.symm.trans HX.out
            injection this with this
            subst this
            exact HP.out
        case measure => simp [intOf]; omega
      · clear hen'
        have HP := Lib.hid hpx
        clear hpx
        go_wp2_with fail
        go_ret
        exact ⟨iret (firstAt_some p l k x HX.out HP.out hno).symm, hb3⟩
    · clear hp hc hs hf hen
      go_wp2_with fail
      go_ret
      refine ⟨iret (firstAt_none p l fun i y hy => hno.out i y ?_ hy).symm, hb⟩
      have := (List.getElem?_eq_some_iff.1 hy).1
      omega

theorem containsV_any (l : List V) (c : Value) (f : FuncId) (caps : Array Value) (p : V → Bool) (w : World) (hL : IsL (fun _ => True) w l c) (hf : Asks w f caps l p) (hen : Enters Tryd.prog f) :
    Calls Tryd.prog 69 #[c, .func (.func f) #[] caps] w fun e w' => e = .returned (.bool (l.any p)) ∧ Below w.heap.size w w' := by
  have H := Lib.hid (indexV_any l c f caps p w hL hf hen)
  clear hL hf hen
  go_enter Tryd.func69, Tryd.ntmps69
  go_wp2_with fail
  refine H.out.mono ?_
  rintro e w2 ⟨rfl, hb2⟩
  go_wp2_with fail
  all_goals go_ret
  all_goals exact ⟨bret (by rw [← firstAt_nonneg]), hb2⟩
end Go.Proofs.YtdlolkogifigpaaDoor
end

section
/- Layer 3: which texts and values may be. -/
namespace Go.Proofs.YtdlolkogifigpaaDoor
open Go Go.RowKit Go.Mor
set_option maxHeartbeats 1000000

theorem iter_below (w : World) (s : ByteArray) (p : Nat) : Below w.heap.size w (w.iter s p) := (Below.refl _ _).alloc (Nat.le_refl _) _

set_option maxRecDepth 10000 in
theorem rightText_any (s : List UInt8) (a0 a1 : Addr) (w : World) (hs : s.length ≤ 9223372036854775807) (hG : Glob w a0 a1) :
    Calls Tryd.prog 84 #[.string (str s)] w fun e w' => e = .returned (.bool (rightText s)) ∧ Below w.heap.size w w' := by
  by_cases hl : s.length ≤ 60
  · have HV := Lib.hid (Tryd.utf8_ValidString (str s) w (by simp; omega) hG.tabs)
    have hnl : ¬ (60 < s.length) := by omega
    clear hG
    go_enter Tryd.func84, Tryd.ntmps84
    go_wp2_with fail
    refine HV.out.mono ?_
    rintro e w1 ⟨rfl, hb1⟩
    rw [str_toList]
    cases hv : Lib.validD s
    · have HVv := Lib.hid hv
      clear hv
      go_wp2_with fail
      go_ret
      exact ⟨bret (by simp [rightText, HVv.out]), hb1⟩
    · have HVv := Lib.hid hv
      clear hv
      go_wp2_with fail
      go_loopw [4] (fun _ wr => ∃ pos : Nat, pos ≤ s.length ∧ wr = w1.iter (str s) pos ∧ Hid (plainD (s.drop pos) = plainD s)) (fun _ wr => s.length - wr.iterPos w1.heap.size)
      case atStart => exact ⟨0, by omega, rfl, rfl⟩
      case round =>
        obtain ⟨pos, hpos, rfl, hpl⟩ := hrel
        by_cases hlt : pos < s.length
        · have hnx := run_next_any (P := Tryd.prog) w1 (str s) pos
          have hdec : Utf8.decode (str s) pos = Lib.decodeL (s.drop pos) := by rw [← Lib.decodeL_drop, str_toList]
          rw [hdec] at hnx
          have hstep := plainD_step (s.drop pos) (by intro h; have := congrArg List.length h; simp at this; omega)
          have hwd := Lib.decodeL_width (s.drop pos)
          have hle := Lib.decodeL_le (s.drop pos) (by intro h; have := congrArg List.length h; simp at this; omega)
          simp only [List.length_drop] at hle
          rw [List.drop_drop] at hstep
          obtain ⟨r, hr⟩ : ∃ r, (Lib.decodeL (s.drop pos)).1 = r := ⟨_, rfl⟩
          obtain ⟨k, hk⟩ : ∃ k, (Lib.decodeL (s.drop pos)).2 = k := ⟨_, rfl⟩
          rw [hr, hk] at hstep
          rw [hk] at hwd hle
          have hnx' : ∀ ty, (Instr.next (.pointer (some ⟨w1.heap.size, 0, none⟩)) true ty).run Tryd.prog (w1.iter (str s) pos) = .ok (.tuple #[.bool true, .int .i64 pos, .int .i32 r]) (w1.iter (str s) (pos + k)) := fun ty => by
            have := hnx ty (by simp; omega)
            rw [hr, hk] at this
            exact this
          have HST := Lib.hid hstep
          clear hnx hdec hstep hr hk
          have HP := Lib.hid (fun W => plain_any (r : Int) W)
          go_wp2_with fail
          refine (HP.out _).mono ?_
          rintro e w2 ⟨rfl, rfl⟩
          cases hp : plainR r
          · have hd : decide (32 ≤ (r : Int) ∧ (r : Int) ≠ 127) = false := by
              simp [plainR] at hp; simp; omega
            have HPp := Lib.hid hp
            clear hp
            rw [hd]
            clear hd
            go_wp2_with fail
            go_ret
            refine ⟨bret ?_, hb1.trans ((iter_below _ _ _).mono hb1.size)⟩
            rw [rightText, ← hpl.out, HST.out, HPp.out]
            simp
          · have hd : decide (32 ≤ (r : Int) ∧ (r : Int) ≠ 127) = true := by
              simp [plainR] at hp; simp; omega
            have HPp := Lib.hid hp
            clear hp
            rw [hd]
            clear hd
            go_wp2_with fail
            go_roundw
            case rel =>
              refine ⟨pos + k, by omega, rfl, ?_⟩
              show _ = _
              rw [← hpl.out, HST.out, HPp.out]
              simp
            case measure => simp; omega
        · have hnx := run_next_end (P := Tryd.prog) w1 (str s) pos
          have hnx' : ∀ ty, (Instr.next (.pointer (some ⟨w1.heap.size, 0, none⟩)) true ty).run Tryd.prog (w1.iter (str s) pos) = .ok (.tuple #[.bool false]) (w1.iter (str s) pos) := fun ty => hnx ty (by simp; omega)
          clear hnx
          go_wp2_with fail
          go_ret
          refine ⟨bret ?_, hb1.trans ((iter_below _ _ _).mono hb1.size)⟩
          rw [rightText, ← hpl.out, HVv.out, List.drop_eq_nil_of_le (by omega)]
          simp [plainD, plainGo]
          omega
  · have hnl : 60 < s.length := by omega
    clear hG
    go_enter Tryd.func84, Tryd.ntmps84
    go_wp2_with fail
    go_ret
    exact ⟨bret (by simp [rightText]; omega), Below.refl _ _⟩
end Go.Proofs.YtdlolkogifigpaaDoor
end

section
/- Layer 3: val.Right, val.Fits, val.Zero. -/
namespace Go.Proofs.YtdlolkogifigpaaDoor
open Go Go.RowKit Go.Mor
set_option maxHeartbeats 1000000

theorem blk_cells' {w : World} {b t : Nat} {cs : Array Value} (h : w.heap[b]? = some (.cells cs t (0, 0))) (i : Nat) : w.cell? ⟨b, i, none⟩ = cs[i]? := by simp [World.cell?, h]
/-- A value's texts are no longer than texts can be. -/
def TextsOk (x : V) : Prop := x.s.length ≤ 9223372036854775807

set_option maxRecDepth 10000 in
theorem right1_any (x : V) (p : Option Addr) (cap : Nat) (a0 a1 : Addr) (w : World) (hs : TextsOk x) (hG : Glob w a0 a1) (hk : ¬ x.k = 5) :
    Calls Tryd.prog 57 #[.agg #[.int .i64 x.k, .int .i64 x.n, .string (str x.s), .slice p x.l.length cap]] w fun e w' => e = .returned (.bool (right1 x)) ∧ Below w.heap.size w w' := by
  have hB1 : Below w.heap.size w (w.alloc (.cells #[.int .i64 x.k, .int .i64 x.n, .string (str x.s), .slice p x.l.length cap] 31)) := (Below.refl _ _).alloc (Nat.le_refl _) _
  have HT := Lib.hid (rightText_any x.s a0 a1 _ hs (hG.ext hB1))
  have HB := Lib.hid (fun W => bare_any x p cap W)
  have HI := Lib.hid (fun W => rightID_any x.n W)
  clear hG
  have k5 : (x.k == 5) = false := by simpa using hk
  by_cases h0 : x.k = 0
  · have k0 : (x.k == 0) = true := by simpa using h0
    have H0 := Lib.hid h0
    clear h0 hk
    go_enter Tryd.func57, Tryd.ntmps57
    go_wp2_with fail
    refine (HB.out _).mono ?_
    rintro e w1 ⟨rfl, hb1⟩
    obtain ⟨hc, hf⟩ := bcell hb1
    have hB2 := hB1.trans (hb1.mono (by simp))
    cases hbr : bare x
    all_goals
      have HBR := Lib.hid hbr
      clear hbr
      go_wp2_with fail
      go_ret
      exact ⟨bret (by simp [right1, H0.out, HBR.out]), hB2⟩
  · have k0 : (x.k == 0) = false := by simpa using h0
    by_cases h1 : x.k = 1
    · have k1 : (x.k == 1) = true := by simpa using h1
      have H1 := Lib.hid h1
      clear h0 h1 hk
      go_enter Tryd.func57, Tryd.ntmps57
      go_wp2_with fail
      refine (HB.out _).mono ?_
      rintro e w1 ⟨rfl, hb1⟩
      obtain ⟨hc, hf⟩ := bcell hb1
      have hB2 := hB1.trans (hb1.mono (by simp))
      cases hbr : bare x
      all_goals
        have HBR := Lib.hid hbr
        clear hbr
        go_wp2_with fail
        all_goals go_ret
        all_goals exact ⟨bret (by simp [right1, H1.out, HBR.out]; try omega), hB2⟩
    · have k1 : (x.k == 1) = false := by simpa using h1
      by_cases h2 : x.k = 2
      · have k2 : (x.k == 2) = true := by simpa using h2
        have H2 := Lib.hid h2
        clear h0 h1 h2 hk
        by_cases hn : x.n = 0
        · have n0 : (x.n == 0) = true := by simpa using hn
          have HN := Lib.hid hn
          clear hn
          by_cases hl : x.l.length = 0
          · have l0 : ((x.l.length : Int) == 0) = true := by simpa using hl
            have HL := Lib.hid hl
            clear hl
            go_enter Tryd.func57, Tryd.ntmps57
            go_wp2_with fail
            refine HT.out.mono ?_
            rintro e w1 ⟨rfl, hb1⟩
            go_wp2_with fail
            go_ret
            exact ⟨bret (by simp [right1, H2.out, HN.out, List.eq_nil_of_length_eq_zero HL.out]), hB1.trans (hb1.mono (by simp))⟩
          · have l0 : ((x.l.length : Int) == 0) = false := by simp; intro h; exact hl (by simp [h])
            have HL := Lib.hid hl
            clear hl
            go_enter Tryd.func57, Tryd.ntmps57
            go_wp2_with fail
            go_ret
            exact ⟨bret (by have := HL.out; simp [right1, H2.out, HN.out]; intro h; simp [h] at this), hB1⟩
        · have n0 : (x.n == 0) = false := by simpa using hn
          have HN := Lib.hid hn
          clear hn
          go_enter Tryd.func57, Tryd.ntmps57
          go_wp2_with fail
          go_ret
          exact ⟨bret (by have := HN.out; simp [right1, H2.out, this]), hB1⟩
      · have k2 : (x.k == 2) = false := by simpa using h2
        by_cases h34 : x.k = 3 ∨ x.k = 4
        · have H34 := Lib.hid h34
          have HN : Hid (¬ x.k = 0 ∧ ¬ x.k = 1 ∧ ¬ x.k = 2) := ⟨h0, h1, h2⟩
          clear h0 h1 h2 hk
          by_cases h3 : x.k = 3
          · have k3 : (x.k == 3) = true := by simpa using h3
            clear h3 h34
            go_enter Tryd.func57, Tryd.ntmps57
            go_wp2_with fail
            refine (HB.out _).mono ?_
            rintro e w1 ⟨rfl, hb1⟩
            obtain ⟨hc, hf⟩ := bcell hb1
            have hB2 := hB1.trans (hb1.mono (by simp))
            cases hbr : bare x
            · have HBR := Lib.hid hbr
              clear hbr
              go_wp2_with fail
              go_ret
              exact ⟨bret (by simp [right1, HN.out.1, HN.out.2.1, HN.out.2.2, H34.out, HBR.out]), hB2⟩
            · have HBR := Lib.hid hbr
              clear hbr
              go_wp2_with fail
              refine (HI.out _).mono ?_
              rintro e w2 ⟨rfl, rfl⟩
              go_wp2_with fail
              go_ret
              exact ⟨bret (by simp [right1, HN.out.1, HN.out.2.1, HN.out.2.2, H34.out, HBR.out]), hB2⟩
          · have k3 : (x.k == 3) = false := by simpa using h3
            have k4 : (x.k == 4) = true := by simp; rcases h34 with h | h; exact absurd h h3; exact h
            clear h3 h34
            go_enter Tryd.func57, Tryd.ntmps57
            go_wp2_with fail
            refine (HB.out _).mono ?_
            rintro e w1 ⟨rfl, hb1⟩
            obtain ⟨hc, hf⟩ := bcell hb1
            have hB2 := hB1.trans (hb1.mono (by simp))
            cases hbr : bare x
            · have HBR := Lib.hid hbr
              clear hbr
              go_wp2_with fail
              go_ret
              exact ⟨bret (by simp [right1, HN.out.1, HN.out.2.1, HN.out.2.2, H34.out, HBR.out]), hB2⟩
            · have HBR := Lib.hid hbr
              clear hbr
              go_wp2_with fail
              refine (HI.out _).mono ?_
              rintro e w2 ⟨rfl, rfl⟩
              go_wp2_with fail
              go_ret
              exact ⟨bret (by simp [right1, HN.out.1, HN.out.2.1, HN.out.2.2, H34.out, HBR.out]), hB2⟩
        · have k3 : (x.k == 3) = false := by simp; omega
          have k4 : (x.k == 4) = false := by simp; omega
          have HN : Hid (¬ x.k = 0 ∧ ¬ x.k = 1 ∧ ¬ x.k = 2 ∧ ¬ (x.k = 3 ∨ x.k = 4)) := ⟨h0, h1, h2, h34⟩
          clear h0 h1 h2 h34 hk
          go_enter Tryd.func57, Tryd.ntmps57
          go_wp2_with fail
          go_ret
          exact ⟨bret (by have h := HN.out; simp [right1, h.1, h.2.1, h.2.2.1, h.2.2.2]), hB1⟩

theorem noItem_any (x : V) (p : Option Addr) (cap : Nat) (a0 a1 : Addr) (w : World) (hs : TextsOk x) (hG : Glob w a0 a1) :
    Calls Tryd.prog 86 #[.agg #[.int .i64 x.k, .int .i64 x.n, .string (str x.s), .slice p x.l.length cap]] w fun e w' => e = .returned (.bool (noItem x)) ∧ Below w.heap.size w w' := by
  have hB1 : Below w.heap.size w (w.alloc (.cells #[.int .i64 x.k, .int .i64 x.n, .string (str x.s), .slice p x.l.length cap] 31)) := (Below.refl _ _).alloc (Nat.le_refl _) _
  by_cases hk : x.k = 5
  · have k5 : (x.k == 5) = true := by simpa using hk
    have H5 := Lib.hid hk
    clear hk hG
    go_enter Tryd.func86, Tryd.ntmps86
    go_wp2_with fail
    go_ret
    exact ⟨bret (by simp [noItem, H5.out]), hB1⟩
  · have k5 : (x.k == 5) = false := by simpa using hk
    have HR := Lib.hid (right1_any x p cap a0 a1 _ hs (hG.ext hB1) hk)
    clear hk hG
    go_enter Tryd.func86, Tryd.ntmps86
    go_wp2_with fail
    refine HR.out.mono ?_
    rintro e w1 ⟨rfl, hb1⟩
    go_wp2_with fail
    go_ret
    exact ⟨bret (by simp [noItem, k5]), hB1.trans (hb1.mono (by simp))⟩

theorem en_noItem : Enters Tryd.prog 86 := enters_mk Tryd.func86 (by kernel_rfl) rfl

set_option maxRecDepth 10000 in
theorem Right_any (x : V) (c : Value) (a0 a1 : Addr) (w : World) (hs : TextsOk x) (hsl : ∀ y ∈ x.l, TextsOk y) (hL : IsL (fun _ => True) w x.l c) (hG : Glob w a0 a1) :
    Calls Tryd.prog 57 #[.agg #[.int .i64 x.k, .int .i64 x.n, .string (str x.s), c]] w fun e w' => e = .returned (.bool (rightV x)) ∧ Below w.heap.size w w' := by
  obtain ⟨p, cap, rfl, hcap, hmax⟩ := hL.form
  by_cases hk : x.k = 5
  · have k5 : (x.k == 5) = true := by simpa using hk
    have k0 : (x.k == 0) = false := by simp; omega
    have k1 : (x.k == 1) = false := by simp; omega
    have k2 : (x.k == 2) = false := by simp; omega
    have k3 : (x.k == 3) = false := by simp; omega
    have k4 : (x.k == 4) = false := by simp; omega
    have H5 := Lib.hid hk
    clear hk
    have hB1 : Below w.heap.size w (w.alloc (.cells #[.int .i64 x.k, .int .i64 x.n, .string (str x.s), .slice p x.l.length cap] 31)) := (Below.refl _ _).alloc (Nat.le_refl _) _
    have HC := Lib.hid (containsV_any x.l (.slice p x.l.length cap) 86 #[] noItem _ (hL.ext hB1) (by
      intro y c' w1 hy hy1 hb
      obtain ⟨p', cap', rfl, _, _⟩ := hy1.form
      have := noItem_any y p' cap' a0 a1 w1 (hsl y hy) (hG.ext (hB1.trans (hb.mono (by simp))))
      simpa using this) en_noItem)
    clear hL hG hsl hs
    by_cases hn : x.n = 0
    · have n0 : (x.n == 0) = true := by simpa using hn
      have HN := Lib.hid hn
      clear hn
      obtain ⟨xk, xn, xs, xl⟩ := x
      simp only [V.k, V.n, V.s, V.l] at *
      cases xs with
      | nil =>
        by_cases hl12 : xl.length ≤ 12
        · go_enter Tryd.func57, Tryd.ntmps57
          go_wp2_with fail
          refine HC.out.mono ?_
          rintro e w1 ⟨rfl, hb1⟩
          go_wp2_with fail
          go_ret
          exact ⟨bret (by simp [rightV, V.k, V.n, V.s, V.l, H5.out, HN.out, hl12]), hB1.trans (hb1.mono (by simp))⟩
        · go_enter Tryd.func57, Tryd.ntmps57
          go_wp2_with fail
          go_ret
          exact ⟨bret (by simp [rightV, V.k, V.n, V.s, V.l, H5.out, HN.out, hl12]), hB1⟩
      | cons y ys =>
        go_enter Tryd.func57, Tryd.ntmps57
        go_wp2_with fail
        go_ret
        exact ⟨bret (by simp [rightV, V.k, V.n, V.s, V.l, H5.out, HN.out]), hB1⟩
    · have n0 : (x.n == 0) = false := by simpa using hn
      have HN := Lib.hid hn
      clear hn
      go_enter Tryd.func57, Tryd.ntmps57
      go_wp2_with fail
      go_ret
      exact ⟨bret (by have := HN.out; simp [rightV, H5.out, this]), hB1⟩
  · have := right1_any x p cap a0 a1 w hs hG hk
    simpa [rightV, hk] using this

set_option maxRecDepth 10000 in
theorem fits1_any (x : V) (c : Value) (t : Ty) (B : Nat) (w : World) (hc : w.cell? ⟨B, 1, none⟩ = some (.int .i64 t.o)) :
    Calls Tryd.prog 70 #[.agg #[.int .i64 x.k, .int .i64 x.n, .string (str x.s), c], .pointer (some ⟨B, 0, none⟩)] w fun e w' => e = .returned (.bool (!ofKind x t.o)) ∧ Below w.heap.size w w' := by
  have hB1 : Below w.heap.size w (w.alloc (.cells #[.int .i64 x.k, .int .i64 x.n, .string (str x.s), c] 31)) := (Below.refl _ _).alloc (Nat.le_refl _) _
  have hlt := cell_lt hc
  dsimp only at hlt
  go_enter Tryd.func70, Tryd.ntmps70
  go_wp2_with fail
  refine (ofKind_any x c t.o _).mono ?_
  rintro e w1 ⟨rfl, hb1⟩
  go_wp2_with fail
  go_ret
  exact ⟨rfl, hB1.trans (hb1.mono (by simp))⟩

theorem en_fits1 : Enters Tryd.prog 70 := enters_mk Tryd.func70 (by kernel_rfl) rfl
theorem blk2 {w : World} {b t : Nat} {x0 x1 : Value} (h : w.heap[b]? = some (.cells #[x0, x1] t (0, 0))) : w.cell? ⟨b, 0, none⟩ = some x0 ∧ w.cell? ⟨b, 1, none⟩ = some x1 := ⟨blk_cells' h 0, blk_cells' h 1⟩
theorem blk4 {w : World} {b t : Nat} {x0 x1 x2 x3 : Value} (h : w.heap[b]? = some (.cells #[x0, x1, x2, x3] t (0, 0))) :
    w.cell? ⟨b, 0, none⟩ = some x0 ∧ w.cell? ⟨b, 1, none⟩ = some x1 ∧ w.cell? ⟨b, 2, none⟩ = some x2 ∧ w.cell? ⟨b, 3, none⟩ = some x3 := ⟨blk_cells' h 0, blk_cells' h 1, blk_cells' h 2, blk_cells' h 3⟩

set_option maxRecDepth 10000 in
theorem Fits_any (x : V) (c : Value) (t : Ty) (a0 a1 : Addr) (w : World) (hs : TextsOk x) (hsl : ∀ y ∈ x.l, TextsOk y) (hL : IsL (fun _ => True) w x.l c) (hG : Glob w a0 a1) :
    Calls Tryd.prog 38 #[.agg #[.int .i64 x.k, .int .i64 x.n, .string (str x.s), c], .agg #[.int .i64 t.k, .int .i64 t.o]] w fun e w' => e = .returned (.bool (fitsV x t)) ∧ Below w.heap.size w w' := by
  obtain ⟨p, cap, rfl, hcap, hmax⟩ := hL.form
  have hB2 : Below w.heap.size w ((w.alloc (.cells #[.int .i64 x.k, .int .i64 x.n, .string (str x.s), .slice p x.l.length cap] 31)).alloc (.cells #[.int .i64 t.k, .int .i64 t.o] 51)) := ((Below.refl _ _).alloc (Nat.le_refl _) _).alloc (by simp) _
  have q0 : ((w.alloc (.cells #[.int .i64 x.k, .int .i64 x.n, .string (str x.s), .slice p x.l.length cap] 31)).alloc (.cells #[.int .i64 t.k, .int .i64 t.o] 51)).heap[w.heap.size]? = some (.cells #[.int .i64 x.k, .int .i64 x.n, .string (str x.s), .slice p x.l.length cap] 31 (0, 0)) :=
    (Below.heap_alloc _ _ _ (by simp)).trans (World.alloc_heap_new w _)
  have q1 : ((w.alloc (.cells #[.int .i64 x.k, .int .i64 x.n, .string (str x.s), .slice p x.l.length cap] 31)).alloc (.cells #[.int .i64 t.k, .int .i64 t.o] 51)).heap[w.heap.size + 1]? = some (.cells #[.int .i64 t.k, .int .i64 t.o] 51 (0, 0)) := by
    have := World.alloc_heap_new (w.alloc (.cells #[.int .i64 x.k, .int .i64 x.n, .string (str x.s), .slice p x.l.length cap] 31)) (.cells #[.int .i64 t.k, .int .i64 t.o] 51)
    rwa [World.size_alloc] at this
  have hz : ((w.alloc (.cells #[.int .i64 x.k, .int .i64 x.n, .string (str x.s), .slice p x.l.length cap] 31)).alloc (.cells #[.int .i64 t.k, .int .i64 t.o] 51)).heap.size = w.heap.size + 2 := by simp
  go_enter Tryd.func38, Tryd.ntmps38
  go_wp2_with fail
  obtain ⟨W2, hW2⟩ : ∃ W2, ((w.alloc (.cells #[.int .i64 x.k, .int .i64 x.n, .string (str x.s), .slice p x.l.length cap] 31)).alloc (.cells #[.int .i64 t.k, .int .i64 t.o] 51)) = W2 := ⟨_, rfl⟩
  rw [hW2] at hB2 q0 q1 hz ⊢
  clear hW2
  have Q0 := Lib.hid q0
  have Q1 := Lib.hid q1
  have HZ := Lib.hid hz
  have HL := Lib.hid hL
  have HG := Lib.hid hG
  clear q0 q1 hz hL hG
  refine (Right_any x _ a0 a1 W2 hs hsl (HL.out.ext hB2) (HG.out.ext hB2)).mono ?_
  rintro e w1 ⟨rfl, hb1⟩
  have hB3 := hB2.trans (hb1.mono hB2.size)
  cases hr : rightV x
  · have HR := Lib.hid hr
    clear hr
    go_wp2_with fail
    go_ret
    exact ⟨bret (by simp [fitsV, HR.out]), hB3⟩
  · have HR := Lib.hid hr
    clear hr
    have q0 := (hb1.block w.heap.size (by have := HZ.out; omega)).trans Q0.out
    have q1 := (hb1.block (w.heap.size + 1) (by have := HZ.out; omega)).trans Q1.out
    obtain ⟨d0, d1, d2, d3⟩ := blk4 q0
    obtain ⟨f0, f1⟩ := blk2 q1
    have R0 := Lib.hid q0
    have R1 := Lib.hid q1
    clear q0 q1
    go_wp2_with fail
    refine (rightType_any t _).mono ?_
    rintro e w2 ⟨rfl, hb2⟩
    have hB4 := hB3.trans (hb2.mono hB3.size)
    cases ht : rightType t
    · have HT := Lib.hid ht
      clear ht
      go_wp2_with fail
      go_ret
      exact ⟨bret (by simp [fitsV, HT.out]), hB4⟩
    · have HT := Lib.hid ht
      clear ht d0 d1 d2 d3 f0 f1
      have q0 := (hb2.block w.heap.size (heap_lt R0.out)).trans R0.out
      have q1 := (hb2.block (w.heap.size + 1) (heap_lt R1.out)).trans R1.out
      obtain ⟨d0, d1, d2, d3⟩ := blk4 q0
      obtain ⟨f0, f1⟩ := blk2 q1
      have S0 := Lib.hid q0
      have S1 := Lib.hid q1
      clear q0 q1
      go_wp2_with fail
      refine (ofKind_any x _ t.k _).mono ?_
      rintro e w3 ⟨rfl, hb3⟩
      have hB5 := hB4.trans (hb3.mono hB4.size)
      cases ho : ofKind x t.k
      · have HO := Lib.hid ho
        clear ho
        go_wp2_with fail
        go_ret
        exact ⟨bret (by simp [fitsV, HO.out]), hB5⟩
      · have HO := Lib.hid ho
        clear ho d0 d1 d2 d3 f0 f1
        have q0 := (hb3.block w.heap.size (heap_lt S0.out)).trans S0.out
        have q1 := (hb3.block (w.heap.size + 1) (heap_lt S1.out)).trans S1.out
        obtain ⟨d0, d1, d2, d3⟩ := blk4 q0
        have T1 := Lib.hid q1
        clear q0 q1
        have HC := Lib.hid (containsV_any x.l (.slice p x.l.length cap) 70 #[.pointer (some ⟨w.heap.size + 1, 0, none⟩)] (fun y => !ofKind y t.o) w3 (HL.out.ext hB5) (by
          intro y c' w4 hy hy1 hb
          have := fits1_any y c' t (w.heap.size + 1) w4 (by
            have := (hb.block (w.heap.size + 1) (heap_lt T1.out)).trans T1.out
            exact (blk2 this).2)
          simpa using this) en_fits1)
        go_wp2_with fail
        refine HC.out.mono ?_
        rintro e w4 ⟨rfl, hb4⟩
        go_wp2_with fail
        go_ret
        exact ⟨bret (by simp [fitsV, HR.out, HT.out, HO.out]), hB5.trans (hb4.mono hB5.size)⟩
end Go.Proofs.YtdlolkogifigpaaDoor
end

section
/- Calls of package val that are known, as Sh has them. No statement of the program is proved here. -/
namespace Go.Proofs.YtdlolkogifigpaaDoor
open Go Go.RowKit Go.Mor Go.Sh Go.Sh.Cd1
theorem relV_val {w : World} {K : Nat → Nat → Prop} {x v : Value} (h : RelV w K (.v x) v) : v = x := by cases h; rfl
theorem rows_get {l : List V} {i : Nat} {x : V} (h : l[i]? = some x) : (V.rows l)[i]? = some (V.row x) := by rw [rows_eq, List.getElem?_map, h]; rfl
theorem isL_of (n : Nat) : ∀ (l : List V), SizeOf.sizeOf l ≤ n → ∀ {w : World} {K : Nat → Nat → Prop} {v : Value}, RelV w K (.sl 4 (V.rows l)) v → IsL (fun _ => True) w l v := by
  induction n with
  | zero => intro l hn; cases l <;> simp at hn
  | succ n ih =>
    intro l hn w K v h
    generalize hes : V.rows l = es at h
    cases h with
    | sl W es b off cap p f hp hcap hmax hW hc hs =>
      have hlen : es.length = l.length := by rw [← hes, rows_eq]; simp
      rw [hlen]
      have key : ∀ (i : Nat) (x : V), l[i]? = some x → es[i]? = some (V.row x) := fun i x hx => by rw [← hes]; exact rows_get hx
      refine .mk l b off cap p (fun i => f i 3) (by omega) hmax (fun hl => ⟨hp ?_, trivial⟩) (fun i x hx => ?_) (fun i x hx => ?_)
      · rintro rfl; exact hl (List.eq_nil_of_length_eq_zero (by simpa using hlen.symm))
      · have h1 := key i x hx
        obtain ⟨k, m, s, l'⟩ := x
        have q0 : (V.row (.mk k m s l'))[0]? = some (.v (.int .i64 k)) := by simp only [V.row_mk, List.getElem?_cons_zero]
        have q1 : (V.row (.mk k m s l'))[1]? = some (.v (.int .i64 m)) := by simp only [V.row_mk, List.getElem?_cons_succ, List.getElem?_cons_zero]
        have q2 : (V.row (.mk k m s l'))[2]? = some (.v (.string (str s))) := by simp only [V.row_mk, List.getElem?_cons_succ, List.getElem?_cons_zero]
        have q3 : (V.row (.mk k m s l'))[3]? = some (.sl 4 (V.rows l')) := by simp only [V.row_mk, List.getElem?_cons_succ, List.getElem?_cons_zero]
        have a0 := hc i 0 _ _ h1 q0
        have a1 := hc i 1 _ _ h1 q1
        have a2 := hc i 2 _ _ h1 q2
        have a3 := hc i 3 _ _ h1 q3
        have b0 := relV_val (hs i 0 _ _ h1 q0)
        have b1 := relV_val (hs i 1 _ _ h1 q1)
        have b2 := relV_val (hs i 2 _ _ h1 q2)
        exact ⟨by rw [show V.k (.mk k m s l') = k from rfl, ← b0]; exact a0.2.1, by rw [show V.n (.mk k m s l') = m from rfl, ← b1]; exact a1.2.1, by rw [show V.s (.mk k m s l') = s from rfl, ← b2]; exact a2.2.1, a3.2.1⟩
      · have h1 := key i x hx
        obtain ⟨k, m, s, l'⟩ := x
        have b3 := hs i 3 _ (.sl 4 (V.rows l')) h1 (by simp only [V.row_mk, List.getElem?_cons_succ, List.getElem?_cons_zero])
        refine ih l' ?_ b3
        have := List.sizeOf_lt_of_mem (List.mem_of_getElem? hx)
        simp at this
        omega
theorem relV_isL {w : World} {K : Nat → Nat → Prop} {l : List V} {v : Value} (h : RelV w K (.sl 4 (V.rows l)) v) : IsL (fun _ => True) w l v := isL_of _ l (Nat.le_refl _) h
theorem rel_I {w : World} {E : Env} {r : Sh.Rows} {x : Int} {v : Value} (h : RelT w E r (I x) v) : v = .int .i64 x := val_rel h rfl
theorem rel_S {w : World} {E : Env} {r : Sh.Rows} {x : ByteArray} {v : Value} (h : RelT w E r (S x) v) : v = .string x := val_rel h rfl
theorem rel_tv {w : World} {E : Env} {r : Sh.Rows} {x : V} {v : Value} (h : RelT w E r (tv x) v) : ∃ c, v = .agg #[.int .i64 x.k, .int .i64 x.n, .string (str x.s), c] ∧ IsL (fun _ => True) w x.l c := by
  unfold tv at h
  cases h with
  | agg cs vs hl hr ho =>
    match vs, hl with
    | [v0, v1, v2, v3], _ =>
      obtain rfl := rel_I (hr 0 _ v0 rfl rfl)
      obtain rfl := rel_I (hr 1 _ v1 rfl rfl)
      obtain rfl := rel_S (hr 2 _ v2 rfl rfl)
      have h3 := hr 3 _ v3 rfl rfl
      cases h3 with
      | pv h => exact ⟨v3, rfl, relV_isL h⟩
theorem rel_ty {w : World} {E : Env} {r : Sh.Rows} {x : Ty} {v : Value} (h : RelT w E r (tyT x) v) : v = .agg #[.int .i64 x.k, .int .i64 x.o] := by
  unfold tyT at h
  cases h with
  | agg cs vs hl hr ho =>
    match vs, hl with
    | [v0, v1], _ =>
      obtain rfl := rel_I (hr 0 _ v0 rfl rfl)
      obtain rfl := rel_I (hr 1 _ v1 rfl rfl)
      rfl
/-- A call that answers a plain value, and leaves what was there. -/
theorem scalls_by {P : Program} {g : Sh.Glob} {f : Nat} {xs : List TV} {y : TV} {v : Value} (hb : hasBody P f) (hy : ∀ w E r, RelT w E r y v)
    (h : ∀ (w : World) (E : Env) (us : List Value), g.G w → xs.length = us.length → (∀ (j : Nat) x v, xs[j]? = some x → us[j]? = some v → RelT w E (objR []) x v) → Calls P f us.toArray w fun e w' => e = .returned v ∧ Below w.heap.size w w') : SCalls P g f xs [] y [] := by
  refine ⟨hb, fun w E us hG hm hX hl hr => ?_⟩
  refine (h w E us hG hl hr).mono ?_
  rintro e w' ⟨rfl, hb⟩
  refine ⟨v, E, rfl, ?_, hy _ _ _, ⟨fun _ _ _ => rfl, fun _ _ _ _ => rfl, fun d e W n hd => by obtain ⟨j, _, hj⟩ := objR_inv hd; simp at hj⟩⟩
  exact MSim.ext (s := ⟨fun _ => none, objB [], objR [], fun _ => none⟩) hm hb E (fun _ _ h => h) (fun _ _ h => .inl h) (fun _ _ => ⟨rfl, rfl⟩) (fun _ _ _ => rfl) (fun _ _ => ⟨rfl, rfl⟩)
/-- All texts of a value, and of those in it, may be. -/
def VOk (x : V) : Prop := TextsOk x ∧ ∀ y ∈ x.l, TextsOk y
theorem fits_ok (a0 a1 : Addr) (n : Nat) (x : V) (t : Ty) (hx : VOk x) : SCalls Tryd.prog (gl a0 a1 n) 38 [tv x, tyT t] [] (.pv (.v (.bool (fitsV x t)))) [] := by
  refine scalls_by (body_of (by kernel_rfl)) (fun w E r => .pv (.v _)) (fun w E us hG hl hr => ?_)
  match us, hl with
  | [u0, u1], _ =>
    obtain ⟨c, rfl, hL⟩ := rel_tv (hr 0 _ u0 rfl rfl)
    obtain rfl := rel_ty (hr 1 _ u1 rfl rfl)
    exact Fits_any x c t a0 a1 w hx.1 hx.2 hL hG.g
theorem rightV_ok (a0 a1 : Addr) (n : Nat) (x : V) (hx : VOk x) : SCalls Tryd.prog (gl a0 a1 n) 57 [tv x] [] (.pv (.v (.bool (rightV x)))) [] := by
  refine scalls_by (body_of (by kernel_rfl)) (fun w E r => .pv (.v _)) (fun w E us hG hl hr => ?_)
  match us, hl with
  | [u0], _ =>
    obtain ⟨c, rfl, hL⟩ := rel_tv (hr 0 _ u0 rfl rfl)
    exact Right_any x c a0 a1 w hx.1 hx.2 hL hG.g
theorem rightType_ok (g : Sh.Glob) (t : Ty) : SCalls Tryd.prog g 55 [tyT t] [] (.pv (.v (.bool (rightType t)))) [] := by
  refine scalls_by (body_of (by kernel_rfl)) (fun w E r => .pv (.v _)) (fun w E us hG hl hr => ?_)
  match us, hl with
  | [u0], _ =>
    obtain rfl := rel_ty (hr 0 _ u0 rfl rfl)
    exact rightType_any t w
set_option maxRecDepth 100000 in
theorem zero_ok (g : Sh.Glob) (t : Ty) : SCalls Tryd.prog g 25 [tyT t] [] (nv (zeroV t)) [] := by
  refine call_of0 hmix tf_val_Zero rfl ?_
  have HR := rightType_ok g t
  unfold tyT at HR ⊢
  unfold zeroV
  simp only [vcA, Nat.reduceLT, Int.reduceEq, Int.reduceAdd, Int.reduceSub, Nat.reduceBEq, Nat.reduceEqDiff, reduceCtorEq, Nat.reduceAdd, Nat.reduceSub, Nat.reduceMul, Nat.reduceLeDiff, Int.reduceToNat, Int.reduceLT, Int.reduceLE, Int.reduceNeg, reduceIte, I, S]
  (with_reducible apply v_call); (· simp only [vcA, Nat.reduceLT, Int.reduceEq, Int.reduceAdd, Int.reduceSub, Nat.reduceBEq, Nat.reduceEqDiff, reduceCtorEq, Nat.reduceAdd, Nat.reduceSub, Nat.reduceMul, Nat.reduceLeDiff, Int.reduceToNat, Int.reduceLT, Int.reduceLE, Int.reduceNeg, reduceIte, I, S]; with_reducible rfl); (· exact HR); (· first | rfl | (simp only [moOk, nbeq, nble, List.length_nil, beq_self_eq_true, Bool.true_and, Bool.and_true, Bool.and_eq_true, decide_eq_true_eq]; omega)); (· simp only [vcA, Nat.reduceLT, Int.reduceEq, Int.reduceAdd, Int.reduceSub, Nat.reduceBEq, Nat.reduceEqDiff, reduceCtorEq, Nat.reduceAdd, Nat.reduceSub, Nat.reduceMul, Nat.reduceLeDiff, Int.reduceToNat, Int.reduceLT, Int.reduceLE, Int.reduceNeg, reduceIte, I, S]; with_reducible rfl)
  cases hr : rightType t
  · simp only [vcA, Nat.reduceLT, Int.reduceEq, Int.reduceAdd, Int.reduceSub, Nat.reduceBEq, Nat.reduceEqDiff, reduceCtorEq, Nat.reduceAdd, Nat.reduceSub, Nat.reduceMul, Nat.reduceLeDiff, Int.reduceToNat, Int.reduceLT, Int.reduceLE, Int.reduceNeg, reduceIte, I, S]
    rfl
  · by_cases k3 : t.k = 3
    · simp only [vcA, Nat.reduceLT, Int.reduceEq, Int.reduceAdd, Int.reduceSub, Nat.reduceBEq, Nat.reduceEqDiff, reduceCtorEq, Nat.reduceAdd, Nat.reduceSub, Nat.reduceMul, Nat.reduceLeDiff, Int.reduceToNat, Int.reduceLT, Int.reduceLE, Int.reduceNeg, reduceIte, I, S, k3]
      rfl
    · by_cases k4 : t.k = 4
      · simp only [vcA, Nat.reduceLT, Int.reduceEq, Int.reduceAdd, Int.reduceSub, Nat.reduceBEq, Nat.reduceEqDiff, reduceCtorEq, Nat.reduceAdd, Nat.reduceSub, Nat.reduceMul, Nat.reduceLeDiff, Int.reduceToNat, Int.reduceLT, Int.reduceLE, Int.reduceNeg, reduceIte, I, S, k3, k4]
        rfl
      · simp only [vcA, Nat.reduceLT, Int.reduceEq, Int.reduceAdd, Int.reduceSub, Nat.reduceBEq, Nat.reduceEqDiff, reduceCtorEq, Nat.reduceAdd, Nat.reduceSub, Nat.reduceMul, Nat.reduceLeDiff, Int.reduceToNat, Int.reduceLT, Int.reduceLE, Int.reduceNeg, reduceIte, I, S, k3, k4]
        simp [k3, k4]; rfl
end Go.Proofs.YtdlolkogifigpaaDoor
end

section
/- The arguments of chapter 3's laws, opened: raw numbers of values; a contract of Sh as a call. -/
namespace Go.Proofs.YtdlolkogifigpaaDoor.Op3
open Go.ChangeShapes Go.WideShapes Go.ChangeAt Go.RowKit Go.Lib Go.Mor Go.Deep Go.Joins
open Go.ChangeMaps (open_string shut_string)

theorem list_of {α : Type} {n : Nat} {Q : Nat → α → Prop} (h : ∀ i, i < n → ∃ r, Q i r) : ∃ l : List α, l.length = n ∧ ∀ (i : Nat) r, l[i]? = some r → Q i r := by
  induction n with
  | zero => exact ⟨[], rfl, by simp⟩
  | succ n ih =>
    obtain ⟨l, hl, hq⟩ := ih fun i hi => h i (by omega)
    obtain ⟨r, hr⟩ := h n (by omega)
    refine ⟨l ++ [r], by simp [hl], fun i x hx => ?_⟩
    rw [List.getElem?_append] at hx
    split at hx
    · exact hq i x hx
    · rw [List.getElem?_singleton] at hx
      split at hx
      · injection hx with hx; subst hx
        obtain rfl : i = n := by omega
        exact hr
      · cases hx
section
variable {H : Type} {enc : TypeId × Value → H} {P : Program} {w : World} {base : Nat} {spare : Nat → Bool} {held : Bool}
/-- A slice of structs whose fields have one cell each: cell by cell. -/
theorem open_fields {t e : TypeId} {fs : Array Field} {fuel : Nat} {cs : List Value} {x : DataW H × List MemPlace} (ht : P.underlying t = some (.slice e)) (he : P.underlying e = some (.struct fs))
    (hone : oneCellFields P fs = true) (hC : P.cellsOf e = fs.size) (h : DataW.trod enc P w base spare held fuel t cs = some x) :
    (cs = [.slice none 0 0]) ∨
    ∃ (a : Addr) (len cap : Nat), cs = [.slice (some a) len cap] ∧ len ≤ cap ∧ cap ≤ maxLen ∧
      ∀ i, i < len → ∃ n, ∀ (j : Nat) (f : Field), fs[j]? = some f → ∃ (v : Value) (y : DataW H × List MemPlace), w.cell? (a.add (i * fs.size + j)) = some v ∧ DataW.trod enc P w base spare held n f.type [v] = some y := by
  rcases open_slice ht h with h0 | ⟨a, len, cap, m, n, D, Pl, hcs, hb, hl, hm, hmm, hx, hi⟩
  · exact .inl h0.1
  · refine .inr ⟨a, len, cap, hcs, hl, hm, fun i him => ?_⟩
    obtain ⟨cs', hc, ht'⟩ := hi i (by rw [hmm]; split <;> omega)
    rw [hC] at hc
    obtain ⟨ys, n', hn', hy, hlen, hyl, hf⟩ := DataW.trod_struct he ht'
    obtain ⟨_, hcl, hat⟩ := World.cells?_some hc
    refine ⟨n', fun j f hj => ?_⟩
    obtain ⟨ho, hk⟩ := hone_of hone j f hj
    have hjl : j < fs.size := (Array.getElem?_eq_some_iff.1 hj).1
    have hcell := hat j hjl
    have hv : cs'[j]? = some (cs'[j]'(by omega)) := List.getElem?_eq_getElem (by omega)
    have h1 := hf j f hj
    rw [ho, hk] at h1
    have hone' : (cs'.drop j).take 1 = [cs'[j]'(by omega)] := by
      rw [List.drop_eq_getElem_cons (by omega)]
      rfl
    rw [hone'] at h1
    have hys : ys[j]? = some (ys[j]'(by omega)) := List.getElem?_eq_getElem (by omega)
    refine ⟨_, _, ?_, h1.trans hys⟩
    rw [← Go.Deep.add_add, hcell, hv]
end
theorem add_form {a : Addr} {w : World} {k : Nat} {v : Value} (h0 : w.cell? a = some v) : a = ⟨a.block, a.off, none⟩ ∧ a.add k = ⟨a.block, a.off + k, none⟩ := by
  have := World.cell?_spot h0
  obtain ⟨b, off, spot⟩ := a
  simp at this
  subst this
  exact ⟨rfl, Go.WideShapes.add_plain ..⟩
theorem str_len {s : ByteArray} (h : s.size ≤ maxLen) : s.data.toList.length ≤ 9223372036854775807 := by
  have : s.data.toList.length = s.size := Array.length_toList
  unfold maxLen at h; omega
theorem str_data (s : ByteArray) : s = str s.data.toList := (str_of s).symm
end Go.Proofs.YtdlolkogifigpaaDoor.Op3
namespace Go.Proofs.YtdlolkogifigpaaDoor
open Go.ChangeShapes Go.WideShapes Go.ChangeAt Go.RowKit Go.Lib Go.Mor Go.Deep Go.Joins
open Go.Sh (RelT RelV TV PV SCalls Env MSim objB objR objX Low)
open Go.ChangeMaps (open_string shut_string)
open Go.Proofs.YtdlolkogifigpaaDoor.Op3

def envAll (w : World) : Env := ⟨fun k _ => k < w.heap.size, fun _ => 0, fun _ => none, fun _ => 0⟩
theorem objB_nil (d : Nat) : objB [] d = none := by simp [objB]
theorem objR_nil (d : Nat) : objR [] d = none := by simp [objR]
theorem globN {w : World} {a0 a1 : Addr} (h : Glob w a0 a1) : GlobN a0 a1 w.heap.size w := by
  obtain ⟨c0, t0, h0⟩ := h.b0
  obtain ⟨c1, t1, h1⟩ := h.b1
  refine ⟨h, Nat.le_refl _, heap_lt h0, heap_lt h1, ?_⟩
  have b0 := cell_lt h.e0
  have b1 := cell_lt h.e1
  have b2 := cell_lt (h.tabs.1 0 (by decide))
  have b3 := cell_lt (h.tabs.2 0 (by decide)).1
  simp only at b0 b1 b2 b3
  omega
theorem calls_of_sc {P : Program} {f : Nat} {xs : List TV} {vs : List Value} {w : World} {a0 a1 : Addr} {b : Value} (h : SCalls P (gl a0 a1 w.heap.size) f xs [] (.pv (.v b)) []) (hG : Glob w a0 a1) (hl : xs.length = vs.length)
    (hr : ∀ (j : Nat) x v, xs[j]? = some x → vs[j]? = some v → RelT w (envAll w) (objR []) x v) : Calls P f vs.toArray w fun e w' => e = .returned b ∧ Below w.heap.size w w' := by
  have hX : ∀ d k, ¬ objX (envAll w) [] d k := by
    rintro d k (⟨cs, h1, _⟩ | ⟨q, cap, h1, _⟩)
    · rw [objB_nil] at h1; cases h1
    · rw [objR_nil] at h1; cases h1
  refine (h.2 w (envAll w) vs (globN hG) ?_ (fun d k hd => absurd hd (hX d k)) hl hr).mono ?_
  · refine ⟨fun d cs hd => ?_, fun d e W n hd => ?_, fun d d' cs cs' hd => ?_, fun d d' cs q k cap hd => ?_, fun d d' q q' k cap cap' hd => ?_, fun k o hk => hk, ⟨rfl, rfl, rfl, Nat.le_refl _, fun _ _ _ => rfl⟩, fun k o u hk hu => ⟨hk, hu⟩, fun k o hk => .inl hk, ?_⟩
    · rw [objB_nil] at hd; cases hd
    · rw [objR_nil] at hd; cases hd
    · rw [objB_nil] at hd; cases hd
    · rw [objB_nil] at hd; cases hd
    · rw [objR_nil] at hd; cases hd
    · have hold : ∀ d, ¬ (Go.Sh.start w (envAll w) [] 0).old d := fun d h => by have h1 : 1000 ≤ d ∧ d < 1000 + 0 := h; omega
      constructor <;> (intros; first | (exfalso; apply hold; assumption) | rfl)
  · rintro e w' ⟨v, E', rfl, hm, hv, _⟩
    obtain rfl := Go.Sh.val_rel (y := b) hv rfl
    exact ⟨rfl, hm.low.os, hm.low.tape, hm.low.output, hm.low.size, fun k hk => hm.low.block k hk (fun d => hX d k)⟩
section
variable {H : Type} {enc : TypeId × Value → H}
theorem relV_v {w : World} {K : Nat → Nat → Prop} (x : Value) : RelV w K (.v x) x := .v x
theorem open_ones {W : World} {base : Nat} {spare : Nat → Bool} {held : Bool} {fuel : Nat} {c : Value} {y : DataW H × List MemPlace} (h : DataW.trod enc Tryd.prog W base spare held fuel 60 [c] = some y) :
    ∃ l : List R1, (∀ r ∈ l, r.ok) ∧ l.length ≤ 9223372036854775807 ∧ RelV W (envAll W).K (.sl 3 (l.map R1.row)) c := by
  rcases open_fields Tryd.underlying60 Tryd.underlying100 (by kernel_rfl) (by kernel_rfl) h with h0 | ⟨a, len, cap, hcs, hl, hm, hi⟩
  · obtain rfl : c = .slice none 0 0 := by simpa using h0
    exact ⟨[], by simp, by simp, .sl 3 [] 0 0 0 none (fun _ _ => undef) (by simp) (by simp) (by simp) (by simp) (by simp) (by simp)⟩
  · obtain rfl : c = .slice (some a) len cap := by simpa using hcs
    have key : ∀ i, i < len → ∃ r : R1, r.ok ∧ a = ⟨a.block, a.off, none⟩ ∧ W.cell? ⟨a.block, a.off + i * 3, none⟩ = some (.int .i64 r.k) ∧ W.cell? ⟨a.block, a.off + i * 3 + 1, none⟩ = some (.int .i64 r.n) ∧ W.cell? ⟨a.block, a.off + i * 3 + 2, none⟩ = some (.string (str r.s)) := by
      intro i hlt
      obtain ⟨n0, hf0⟩ := hi 0 (by omega)
      obtain ⟨v, y, hc0, _⟩ := hf0 0 _ rfl
      have ha : a = ⟨a.block, a.off, none⟩ := (add_form (k := 0) (by simpa [Addr.add] using hc0)).1
      have hadd : ∀ k, a.add k = ⟨a.block, a.off + k, none⟩ := fun k => (add_form (k := k) (by simpa [Addr.add] using hc0)).2
      obtain ⟨n, hf⟩ := hi i hlt
      obtain ⟨v0, y0, c0, t0⟩ := hf 0 _ rfl
      obtain ⟨v1, y1, c1, t1⟩ := hf 1 _ rfl
      obtain ⟨v2, y2, c2, t2⟩ := hf 2 _ rfl
      obtain ⟨z0, e0, _, w0⟩ := DataW.trod_int Tryd.underlying3 t0
      obtain ⟨z1, e1, _, w1⟩ := DataW.trod_int Tryd.underlying3 t1
      obtain ⟨z2, e2, _, w2⟩ := DataW.trod_string Tryd.underlying9 t2
      simp at e0 e1 e2
      subst e0 e1 e2
      rw [hadd] at c0 c1 c2
      refine ⟨⟨z0, z1, z2.data.toList⟩, ⟨bounds_i64 w0, bounds_i64 w1, ?_⟩, ha, c0, c1, ?_⟩
      · exact str_len w2
      · rw [str_of]; exact c2
    obtain ⟨l, hlen, hq⟩ := list_of key
    refine ⟨l, fun r hr => ?_, by unfold maxLen at hm; omega, ?_⟩
    · obtain ⟨i, hi⟩ := List.getElem?_of_mem hr
      exact (hq i r hi).1
    · have hL : (l.map R1.row).length = len := by simp [hlen]
      rw [← hL]
      have cell : ∀ (i j : Nat) cs q, (l.map R1.row)[i]? = some cs → cs[j]? = some q → ∃ u, q = .v u ∧ W.cell? ⟨a.block, a.off + i * 3 + j, none⟩ = some u ∧ Go.Sh.one u := by
        intro i j cs q h1 h2
        rw [List.getElem?_map, Option.map_eq_some_iff] at h1
        obtain ⟨r, hr, rfl⟩ := h1
        obtain ⟨_, _, c0, c1, c2⟩ := hq i r hr
        match j with
        | 0 => simp [R1.row] at h2; subst h2; exact ⟨_, rfl, c0, rfl⟩
        | 1 => simp [R1.row] at h2; subst h2; exact ⟨_, rfl, c1, rfl⟩
        | 2 => simp [R1.row] at h2; subst h2; exact ⟨_, rfl, c2, rfl⟩
        | j + 3 => simp [R1.row] at h2
      refine .sl 3 (l.map R1.row) a.block a.off cap (some a) (fun i j => (W.cell? ⟨a.block, a.off + i * 3 + j, none⟩).getD undef) (fun hne => ?_) (by omega) hm (fun cs hcs => ?_) (fun i j cs q h1 h2 => ?_) (fun i j cs q h1 h2 => ?_)
      · obtain ⟨r, hr⟩ : ∃ r, l[0]? = some r := by
          cases l with
          | nil => exact absurd rfl hne
          | cons r q => exact ⟨r, rfl⟩
        rw [(hq 0 r hr).2.1]
      · obtain ⟨r, _, rfl⟩ := List.mem_map.1 hcs; rfl
      · obtain ⟨u, _, hu, ho⟩ := cell i j cs q h1 h2
        rw [hu]; exact ⟨cell_lt (a := ⟨a.block, a.off + i * 3 + j, none⟩) hu, rfl, ho⟩
      · obtain ⟨u, rfl, hu, ho⟩ := cell i j cs q h1 h2
        rw [hu]; exact .v u
set_option maxRecDepth 100000 in
theorem open_raw3 {W : World} {b0 base : Nat} {spare : Nat → Bool} {held : Bool} {v : Value} {d : DataW H} {p : List MemPlace} (hok : Value.okWide Tryd.prog W .any b0 62 v) (h : DataW.Trod enc Tryd.prog W base spare held 62 v d p) :
    ∃ x : RawV, x.ok ∧ ∀ r, RelT W (envAll W) r x.tv v := by
  obtain ⟨c0, c1, c2, c3, y0, y1, y2, y3, m, rfl, _, _, hy0, hy1, hy2, hy3⟩ := open_agg4 Tryd.underlying62 (by kernel_rfl) (by kernel_rfl) hok h
  obtain ⟨z0, e0, _, w0⟩ := DataW.trod_int Tryd.underlying3 hy0
  obtain ⟨z1, e1, _, w1⟩ := DataW.trod_int Tryd.underlying3 hy1
  obtain ⟨z2, e2, _, w2⟩ := DataW.trod_string Tryd.underlying9 hy2
  simp at e0 e1 e2
  subst e0 e1 e2
  obtain ⟨l, hl, hlen, hr⟩ := open_ones hy3
  refine ⟨⟨z0, z1, z2.data.toList, l⟩, ⟨bounds_i64 w0, bounds_i64 w1, ?_, hl, hlen⟩, fun r => ?_⟩
  · exact str_len w2
  · unfold RawV.tv
    refine .agg _ [_, _, _, c3] rfl (fun j q u hq hu => ?_) (fun u hu => ?_)
    · match j with
      | 0 => simp at hq hu; subst hq; subst hu; exact .pv (.v _)
      | 1 => simp at hq hu; subst hq; subst hu; exact .pv (.v _)
      | 2 => simp at hq hu; subst hq; subst hu; rw [str_of]; exact .pv (.v _)
      | 3 => simp at hq hu; subst hq; subst hu; exact .pv hr
      | j + 4 => simp at hq
    · simp at hu
      rcases hu with rfl | rfl | rfl | rfl
      · rfl
      · rfl
      · rfl
      · cases hr; rfl
end
end Go.Proofs.YtdlolkogifigpaaDoor
end

section
/- The statements' ValOf. No statement of the program is proved here. -/
namespace Go.Proofs.YtdlolkogifigpaaDoor
open Go Go.RowKit Go.Mor Go.Sh Go.Sh.Cd1
set_option maxRecDepth 100000
set_option maxHeartbeats 8000000
def oneL (l : List R1) : List V := (l.take 12).map fun r => valOne (pickI r.k 5) r.n r.s
def valOf (x : RawV) : V :=
  if pickI x.k 7 < 5 then
    if 3 ≤ (valOne (pickI x.k 7) x.n x.s).k ∧ pickI (x.k.tdiv 7) 4 = 0 then .mk (valOne (pickI x.k 7) x.n x.s).k (-1 - pickI x.n 20) (valOne (pickI x.k 7) x.n x.s).s [] else valOne (pickI x.k 7) x.n x.s
  else .mk 5 0 [] (oneL x.l)
theorem tdiv64 {c : Int} (h : I64 c) : I64 (c.tdiv 7) := by
  have h1 := Int.natAbs_tdiv c 7
  have h2 : c.natAbs / 7 ≤ c.natAbs := Nat.div_le_self _ _
  have h3 : (c.tdiv 7).natAbs ≤ c.natAbs / 7 := by rw [h1]; exact Nat.le_refl _
  unfold I64 at *
  omega
theorem valOf_small (g : Sh.Glob) (x : RawV) (hx : x.ok) (hk5 : pickI x.k 7 < 5) : SCalls Tryd.prog g 27 [x.tv] [] (nv (valOf x)) [] := by
  refine call_of0 hmix tf_morainelaw03_ValOf rfl ?_
  obtain ⟨hk, hn, hs, hl, hlen⟩ := hx
  have hV := valOne_ok g (pickI x.k 7) 0 x.n x.s hn hs
  unfold valOf RawV.tv
  rw [if_pos hk5]
  have d5 := decide_T hk5
  have hP := pickI_ok g x.k 7 hk (by decide)
  generalize pickI x.k 7 = k at hV hk5 d5 hP ⊢
  obtain ⟨v, hv⟩ : ∃ v, v = valOne k x.n x.s := ⟨_, rfl⟩
  have hvl : v.l = [] := by rw [hv]; exact valOne_l _ _ _
  rw [← hv] at hV ⊢
  unfold nv at hV
  have ht := tdiv64 hk
  have wq : IntKind.i64.wrap (x.k.tdiv 7) = x.k.tdiv 7 := wrap64 ht.1 ht.2
  have hp20 := pickI_lt (n := 20) (by decide) hn
  have w20 : IntKind.i64.wrap (-1 - pickI x.n 20) = -1 - pickI x.n 20 := wrap64 (by omega) (by omega)
  simp only [vcA, Nat.reduceLT, Int.reduceEq, Int.reduceAdd, Int.reduceSub, Nat.reduceBEq, Nat.reduceEqDiff, reduceCtorEq, Nat.reduceAdd, Nat.reduceSub, Nat.reduceMul, Nat.reduceLeDiff, Int.reduceToNat, Int.reduceLT, Int.reduceLE, Int.reduceNeg, reduceIte, I, S]
  (with_reducible apply v_call); (· simp only [vcA, Nat.reduceLT, Int.reduceEq, Int.reduceAdd, Int.reduceSub, Nat.reduceBEq, Nat.reduceEqDiff, reduceCtorEq, Nat.reduceAdd, Nat.reduceSub, Nat.reduceMul, Nat.reduceLeDiff, Int.reduceToNat, Int.reduceLT, Int.reduceLE, Int.reduceNeg, reduceIte, I, S]; with_reducible rfl); (· exact hP); (· first | rfl | (simp only [moOk, nbeq, nble, List.length_nil, beq_self_eq_true, Bool.true_and, Bool.and_true, Bool.and_eq_true, decide_eq_true_eq]; omega)); (· simp only [vcA, Nat.reduceLT, Int.reduceEq, Int.reduceAdd, Int.reduceSub, Nat.reduceBEq, Nat.reduceEqDiff, reduceCtorEq, Nat.reduceAdd, Nat.reduceSub, Nat.reduceMul, Nat.reduceLeDiff, Int.reduceToNat, Int.reduceLT, Int.reduceLE, Int.reduceNeg, reduceIte, I, S]; with_reducible rfl)
  simp only [vcA, Nat.reduceLT, Int.reduceEq, Int.reduceAdd, Int.reduceSub, Nat.reduceBEq, Nat.reduceEqDiff, reduceCtorEq, Nat.reduceAdd, Nat.reduceSub, Nat.reduceMul, Nat.reduceLeDiff, Int.reduceToNat, Int.reduceLT, Int.reduceLE, Int.reduceNeg, reduceIte, I, S, hk5]
  (with_reducible apply v_call); (· simp only [vcA, Nat.reduceLT, Int.reduceEq, Int.reduceAdd, Int.reduceSub, Nat.reduceBEq, Nat.reduceEqDiff, reduceCtorEq, Nat.reduceAdd, Nat.reduceSub, Nat.reduceMul, Nat.reduceLeDiff, Int.reduceToNat, Int.reduceLT, Int.reduceLE, Int.reduceNeg, reduceIte, I, S]; with_reducible rfl); (· exact hV); (· first | rfl | (simp only [moOk, nbeq, nble, List.length_nil, beq_self_eq_true, Bool.true_and, Bool.and_true, Bool.and_eq_true, decide_eq_true_eq]; omega)); (· simp only [vcA, Nat.reduceLT, Int.reduceEq, Int.reduceAdd, Int.reduceSub, Nat.reduceBEq, Nat.reduceEqDiff, reduceCtorEq, Nat.reduceAdd, Nat.reduceSub, Nat.reduceMul, Nat.reduceLeDiff, Int.reduceToNat, Int.reduceLT, Int.reduceLE, Int.reduceNeg, reduceIte, I, S]; with_reducible rfl)
  simp only [vcA, Nat.reduceLT, Int.reduceEq, Int.reduceAdd, Int.reduceSub, Nat.reduceBEq, Nat.reduceEqDiff, reduceCtorEq, Nat.reduceAdd, Nat.reduceSub, Nat.reduceMul, Nat.reduceLeDiff, Int.reduceToNat, Int.reduceLT, Int.reduceLE, Int.reduceNeg, reduceIte, I, S, wq]
  refine ⟨fun h3 => ?_, fun h3 => by rw [if_neg (fun h => h3 h.1)]; rfl⟩
  (with_reducible apply v_call); (· simp only [vcA, Nat.reduceLT, Int.reduceEq, Int.reduceAdd, Int.reduceSub, Nat.reduceBEq, Nat.reduceEqDiff, reduceCtorEq, Nat.reduceAdd, Nat.reduceSub, Nat.reduceMul, Nat.reduceLeDiff, Int.reduceToNat, Int.reduceLT, Int.reduceLE, Int.reduceNeg, reduceIte, I, S]; with_reducible rfl); (· exact pickI_ok g (x.k.tdiv 7) 4 ht (by decide)); (· first | rfl | (simp only [moOk, nbeq, nble, List.length_nil, beq_self_eq_true, Bool.true_and, Bool.and_true, Bool.and_eq_true, decide_eq_true_eq]; omega)); (· simp only [vcA, Nat.reduceLT, Int.reduceEq, Int.reduceAdd, Int.reduceSub, Nat.reduceBEq, Nat.reduceEqDiff, reduceCtorEq, Nat.reduceAdd, Nat.reduceSub, Nat.reduceMul, Nat.reduceLeDiff, Int.reduceToNat, Int.reduceLT, Int.reduceLE, Int.reduceNeg, reduceIte, I, S]; with_reducible rfl)
  simp only [vcA, Nat.reduceLT, Int.reduceEq, Int.reduceAdd, Int.reduceSub, Nat.reduceBEq, Nat.reduceEqDiff, reduceCtorEq, Nat.reduceAdd, Nat.reduceSub, Nat.reduceMul, Nat.reduceLeDiff, Int.reduceToNat, Int.reduceLT, Int.reduceLE, Int.reduceNeg, reduceIte, I, S]
  refine ⟨fun hz => ?_, fun hz => by rw [if_neg (fun h => hz h.2)]; rfl⟩
  rw [if_pos ⟨h3, hz⟩]
  (with_reducible apply v_call); (· simp only [vcA, Nat.reduceLT, Int.reduceEq, Int.reduceAdd, Int.reduceSub, Nat.reduceBEq, Nat.reduceEqDiff, reduceCtorEq, Nat.reduceAdd, Nat.reduceSub, Nat.reduceMul, Nat.reduceLeDiff, Int.reduceToNat, Int.reduceLT, Int.reduceLE, Int.reduceNeg, reduceIte, I, S]; with_reducible rfl); (· exact pickI_ok g x.n 20 hn (by decide)); (· first | rfl | (simp only [moOk, nbeq, nble, List.length_nil, beq_self_eq_true, Bool.true_and, Bool.and_true, Bool.and_eq_true, decide_eq_true_eq]; omega)); (· simp only [vcA, Nat.reduceLT, Int.reduceEq, Int.reduceAdd, Int.reduceSub, Nat.reduceBEq, Nat.reduceEqDiff, reduceCtorEq, Nat.reduceAdd, Nat.reduceSub, Nat.reduceMul, Nat.reduceLeDiff, Int.reduceToNat, Int.reduceLT, Int.reduceLE, Int.reduceNeg, reduceIte, I, S]; with_reducible rfl)
  simp only [vcA, Nat.reduceLT, Int.reduceEq, Int.reduceAdd, Int.reduceSub, Nat.reduceBEq, Nat.reduceEqDiff, reduceCtorEq, Nat.reduceAdd, Nat.reduceSub, Nat.reduceMul, Nat.reduceLeDiff, Int.reduceToNat, Int.reduceLT, Int.reduceLE, Int.reduceNeg, reduceIte, I, S, w20]
  rfl
end Go.Proofs.YtdlolkogifigpaaDoor
end

section
/- Comparing values: the program's way, the document's way. No statement of the program is proved here. -/
namespace Go.Proofs.YtdlolkogifigpaaDoor
open Go Go.RowKit Go.Mor Go.Sh Go.Sh.Cd1
set_option maxRecDepth 100000
set_option maxHeartbeats 2000000
theorem Vk (k n : Int) (s : List UInt8) (l : List V) : (V.mk k n s l).k = k := rfl
theorem Vn (k n : Int) (s : List UInt8) (l : List V) : (V.mk k n s l).n = n := rfl
theorem Vs (k n : Int) (s : List UInt8) (l : List V) : (V.mk k n s l).s = s := rfl
theorem Vl (k n : Int) (s : List UInt8) (l : List V) : (V.mk k n s l).l = l := rfl
theorem rowsGet (l : List V) (k : Nat) : (V.rows l)[k]? = (l[k]?).map V.row := by rw [rows_eq, List.getElem?_map]
theorem rowsLen (l : List V) : (V.rows l).length = l.length := by rw [rows_eq, List.length_map]
theorem row4 (y : V) : V.row y = [.v (.int .i64 y.k), .v (.int .i64 y.n), .v (.string (str y.s)), .sl 4 (V.rows y.l)] := by cases y; exact V.row_mk _ _ _ _
def thenI (c d : Int) : Int := if c = 0 then d else c
def ordS (a b : List UInt8) : Int := if Op.bytesLess a b then -1 else if a = b then 0 else 1
mutual
def cmpV : V → V → Int
  | .mk k n s l, y => thenI (ordI k y.k) (thenI (ordI n y.n) (thenI (ordS s y.s) (cmpL l y.l)))
def cmpL : List V → List V → Int
  | [], [] => 0
  | [], _ :: _ => -1
  | _ :: _, [] => 1
  | x :: l, y :: l' => thenI (cmpV x y) (cmpL l l')
end
theorem cmpV_eq (x y : V) : cmpV x y = thenI (ordI x.k y.k) (thenI (ordI x.n y.n) (thenI (ordS x.s y.s) (cmpL x.l y.l))) := by
  cases x; simp only [cmpV, V.k, V.n, V.s, V.l]
theorem cmpL_drop {l l' : List V} {i : Nat} {x y : V} (hx : l[i]? = some x) (hy : l'[i]? = some y) : cmpL (l.drop i) (l'.drop i) = thenI (cmpV x y) (cmpL (l.drop (i + 1)) (l'.drop (i + 1))) := by
  obtain ⟨h1, rfl⟩ := List.getElem?_eq_some_iff.1 hx
  obtain ⟨h2, rfl⟩ := List.getElem?_eq_some_iff.1 hy
  rw [List.drop_eq_getElem_cons h1, List.drop_eq_getElem_cons h2, cmpL]
theorem cmpL_end {l l' : List V} {i : Nat} (h : i = min l.length l'.length) : cmpL (l.drop i) (l'.drop i) = ordI l.length l'.length := by
  unfold ordI
  rcases Nat.lt_trichotomy l.length l'.length with h1 | h1 | h1
  · rw [List.drop_eq_nil_of_le (by omega : l.length ≤ i)]
    obtain ⟨y, r, hy⟩ : ∃ y r, l'.drop i = y :: r := ⟨_, _, List.drop_eq_getElem_cons (by omega)⟩
    rw [hy, cmpL, if_pos (by omega)]
  · rw [List.drop_eq_nil_of_le (by omega : l.length ≤ i), List.drop_eq_nil_of_le (by omega : l'.length ≤ i), cmpL, if_neg (by omega), if_neg (by omega)]
  · rw [List.drop_eq_nil_of_le (by omega : l'.length ≤ i)]
    obtain ⟨y, r, hy⟩ : ∃ y r, l.drop i = y :: r := ⟨_, _, List.drop_eq_getElem_cons (by omega)⟩
    rw [hy, cmpL, if_neg (by omega), if_pos (by omega)]
theorem nanI_ok (g : Sh.Glob) (a : Int) : SCalls Tryd.prog g 92 [I a] [] (.pv (.v (.bool false))) [] := by
  refine call_of0 hmix tf_cmp_isNaN_int_ rfl ?_
  simp only [vcA, Nat.reduceLT, Int.reduceEq, Int.reduceAdd, Int.reduceSub, Nat.reduceBEq, Nat.reduceEqDiff, reduceCtorEq, Nat.reduceAdd, Nat.reduceSub, Nat.reduceMul, Nat.reduceLeDiff, Int.reduceToNat, Int.reduceLT, Int.reduceLE, Int.reduceNeg, reduceIte, I, S, tv, nv, tyT, RawV.tv, R1.row, rowsGet, rowsLen, row4, Vk, Vn, Vs, Vl]
theorem nanS_ok (g : Sh.Glob) (a : ByteArray) : SCalls Tryd.prog g 93 [S a] [] (.pv (.v (.bool false))) [] := by
  refine call_of0 hmix tf_cmp_isNaN_string_ rfl ?_
  simp only [vcA, Nat.reduceLT, Int.reduceEq, Int.reduceAdd, Int.reduceSub, Nat.reduceBEq, Nat.reduceEqDiff, reduceCtorEq, Nat.reduceAdd, Nat.reduceSub, Nat.reduceMul, Nat.reduceLeDiff, Int.reduceToNat, Int.reduceLT, Int.reduceLE, Int.reduceNeg, reduceIte, I, S, tv, nv, tyT, RawV.tv, R1.row, rowsGet, rowsLen, row4, Vk, Vn, Vs, Vl]
theorem cmpI_ok (g : Sh.Glob) (a b : Int) : SCalls Tryd.prog g 62 [I a, I b] [] (I (ordI a b)) [] := by
  refine call_of0 hmix tf_cmp_Compare_int_ rfl ?_
  simp only [vcA, Nat.reduceLT, Int.reduceEq, Int.reduceAdd, Int.reduceSub, Nat.reduceBEq, Nat.reduceEqDiff, reduceCtorEq, Nat.reduceAdd, Nat.reduceSub, Nat.reduceMul, Nat.reduceLeDiff, Int.reduceToNat, Int.reduceLT, Int.reduceLE, Int.reduceNeg, reduceIte, I, S, tv, nv, tyT, RawV.tv, R1.row, rowsGet, rowsLen, row4, Vk, Vn, Vs, Vl]
  (with_reducible apply v_call); (· simp only [vcA, Nat.reduceLT, Int.reduceEq, Int.reduceAdd, Int.reduceSub, Nat.reduceBEq, Nat.reduceEqDiff, reduceCtorEq, Nat.reduceAdd, Nat.reduceSub, Nat.reduceMul, Nat.reduceLeDiff, Int.reduceToNat, Int.reduceLT, Int.reduceLE, Int.reduceNeg, reduceIte, I, S, tv, nv, tyT, RawV.tv, R1.row, rowsGet, rowsLen, row4, Vk, Vn, Vs, Vl]; with_reducible rfl); (· exact nanI_ok g _); (· first | rfl | (simp only [moOk, nbeq, nble, List.length_nil, beq_self_eq_true, Bool.true_and, Bool.and_true, Bool.and_eq_true, decide_eq_true_eq]; omega)); (· simp only [vcA, Nat.reduceLT, Int.reduceEq, Int.reduceAdd, Int.reduceSub, Nat.reduceBEq, Nat.reduceEqDiff, reduceCtorEq, Nat.reduceAdd, Nat.reduceSub, Nat.reduceMul, Nat.reduceLeDiff, Int.reduceToNat, Int.reduceLT, Int.reduceLE, Int.reduceNeg, reduceIte, I, S, tv, nv, tyT, RawV.tv, R1.row, rowsGet, rowsLen, row4, Vk, Vn, Vs, Vl]; with_reducible rfl)
  simp only [vcA, Nat.reduceLT, Int.reduceEq, Int.reduceAdd, Int.reduceSub, Nat.reduceBEq, Nat.reduceEqDiff, reduceCtorEq, Nat.reduceAdd, Nat.reduceSub, Nat.reduceMul, Nat.reduceLeDiff, Int.reduceToNat, Int.reduceLT, Int.reduceLE, Int.reduceNeg, reduceIte, I, S, tv, nv, tyT, RawV.tv, R1.row, rowsGet, rowsLen, row4, Vk, Vn, Vs, Vl]
  (with_reducible apply v_call); (· simp only [vcA, Nat.reduceLT, Int.reduceEq, Int.reduceAdd, Int.reduceSub, Nat.reduceBEq, Nat.reduceEqDiff, reduceCtorEq, Nat.reduceAdd, Nat.reduceSub, Nat.reduceMul, Nat.reduceLeDiff, Int.reduceToNat, Int.reduceLT, Int.reduceLE, Int.reduceNeg, reduceIte, I, S, tv, nv, tyT, RawV.tv, R1.row, rowsGet, rowsLen, row4, Vk, Vn, Vs, Vl]; with_reducible rfl); (· exact nanI_ok g _); (· first | rfl | (simp only [moOk, nbeq, nble, List.length_nil, beq_self_eq_true, Bool.true_and, Bool.and_true, Bool.and_eq_true, decide_eq_true_eq]; omega)); (· simp only [vcA, Nat.reduceLT, Int.reduceEq, Int.reduceAdd, Int.reduceSub, Nat.reduceBEq, Nat.reduceEqDiff, reduceCtorEq, Nat.reduceAdd, Nat.reduceSub, Nat.reduceMul, Nat.reduceLeDiff, Int.reduceToNat, Int.reduceLT, Int.reduceLE, Int.reduceNeg, reduceIte, I, S, tv, nv, tyT, RawV.tv, R1.row, rowsGet, rowsLen, row4, Vk, Vn, Vs, Vl]; with_reducible rfl)
  simp only [vcA, Nat.reduceLT, Int.reduceEq, Int.reduceAdd, Int.reduceSub, Nat.reduceBEq, Nat.reduceEqDiff, reduceCtorEq, Nat.reduceAdd, Nat.reduceSub, Nat.reduceMul, Nat.reduceLeDiff, Int.reduceToNat, Int.reduceLT, Int.reduceLE, Int.reduceNeg, reduceIte, I, S, tv, nv, tyT, RawV.tv, R1.row, rowsGet, rowsLen, row4, Vk, Vn, Vs, Vl]
  unfold ordI
  refine ⟨fun h => by rw [if_pos h], fun h => ⟨fun h' => by rw [if_neg h, if_pos h'], fun h' => by rw [if_neg h, if_neg h']⟩⟩
theorem cmpS_ok (g : Sh.Glob) (a b : List UInt8) : SCalls Tryd.prog g 63 [S (str a), S (str b)] [] (I (ordS a b)) [] := by
  refine call_of0 hmix tf_cmp_Compare_string_ rfl ?_
  simp only [vcA, Nat.reduceLT, Int.reduceEq, Int.reduceAdd, Int.reduceSub, Nat.reduceBEq, Nat.reduceEqDiff, reduceCtorEq, Nat.reduceAdd, Nat.reduceSub, Nat.reduceMul, Nat.reduceLeDiff, Int.reduceToNat, Int.reduceLT, Int.reduceLE, Int.reduceNeg, reduceIte, I, S, tv, nv, tyT, RawV.tv, R1.row, rowsGet, rowsLen, row4, Vk, Vn, Vs, Vl]
  (with_reducible apply v_call); (· simp only [vcA, Nat.reduceLT, Int.reduceEq, Int.reduceAdd, Int.reduceSub, Nat.reduceBEq, Nat.reduceEqDiff, reduceCtorEq, Nat.reduceAdd, Nat.reduceSub, Nat.reduceMul, Nat.reduceLeDiff, Int.reduceToNat, Int.reduceLT, Int.reduceLE, Int.reduceNeg, reduceIte, I, S, tv, nv, tyT, RawV.tv, R1.row, rowsGet, rowsLen, row4, Vk, Vn, Vs, Vl]; with_reducible rfl); (· exact nanS_ok g _); (· first | rfl | (simp only [moOk, nbeq, nble, List.length_nil, beq_self_eq_true, Bool.true_and, Bool.and_true, Bool.and_eq_true, decide_eq_true_eq]; omega)); (· simp only [vcA, Nat.reduceLT, Int.reduceEq, Int.reduceAdd, Int.reduceSub, Nat.reduceBEq, Nat.reduceEqDiff, reduceCtorEq, Nat.reduceAdd, Nat.reduceSub, Nat.reduceMul, Nat.reduceLeDiff, Int.reduceToNat, Int.reduceLT, Int.reduceLE, Int.reduceNeg, reduceIte, I, S, tv, nv, tyT, RawV.tv, R1.row, rowsGet, rowsLen, row4, Vk, Vn, Vs, Vl]; with_reducible rfl)
  simp only [vcA, Nat.reduceLT, Int.reduceEq, Int.reduceAdd, Int.reduceSub, Nat.reduceBEq, Nat.reduceEqDiff, reduceCtorEq, Nat.reduceAdd, Nat.reduceSub, Nat.reduceMul, Nat.reduceLeDiff, Int.reduceToNat, Int.reduceLT, Int.reduceLE, Int.reduceNeg, reduceIte, I, S, tv, nv, tyT, RawV.tv, R1.row, rowsGet, rowsLen, row4, Vk, Vn, Vs, Vl]
  (with_reducible apply v_call); (· simp only [vcA, Nat.reduceLT, Int.reduceEq, Int.reduceAdd, Int.reduceSub, Nat.reduceBEq, Nat.reduceEqDiff, reduceCtorEq, Nat.reduceAdd, Nat.reduceSub, Nat.reduceMul, Nat.reduceLeDiff, Int.reduceToNat, Int.reduceLT, Int.reduceLE, Int.reduceNeg, reduceIte, I, S, tv, nv, tyT, RawV.tv, R1.row, rowsGet, rowsLen, row4, Vk, Vn, Vs, Vl]; with_reducible rfl); (· exact nanS_ok g _); (· first | rfl | (simp only [moOk, nbeq, nble, List.length_nil, beq_self_eq_true, Bool.true_and, Bool.and_true, Bool.and_eq_true, decide_eq_true_eq]; omega)); (· simp only [vcA, Nat.reduceLT, Int.reduceEq, Int.reduceAdd, Int.reduceSub, Nat.reduceBEq, Nat.reduceEqDiff, reduceCtorEq, Nat.reduceAdd, Nat.reduceSub, Nat.reduceMul, Nat.reduceLeDiff, Int.reduceToNat, Int.reduceLT, Int.reduceLE, Int.reduceNeg, reduceIte, I, S, tv, nv, tyT, RawV.tv, R1.row, rowsGet, rowsLen, row4, Vk, Vn, Vs, Vl]; with_reducible rfl)
  simp only [vcA, Nat.reduceLT, Int.reduceEq, Int.reduceAdd, Int.reduceSub, Nat.reduceBEq, Nat.reduceEqDiff, reduceCtorEq, Nat.reduceAdd, Nat.reduceSub, Nat.reduceMul, Nat.reduceLeDiff, Int.reduceToNat, Int.reduceLT, Int.reduceLE, Int.reduceNeg, reduceIte, I, S, tv, nv, tyT, RawV.tv, R1.row, rowsGet, rowsLen, row4, Vk, Vn, Vs, Vl]
  unfold ordS
  cases hb : Op.bytesLess a b
  · by_cases he : a = b
    · subst he; simp [boolW]
    · simp [boolW, he]
  · simp [boolW]
inductive VSmall : V → Prop where
  | mk {k n : Int} {s : List UInt8} {l : List V} (h : l.length ≤ maxLen) (hs : ∀ y ∈ l, VSmall y) : VSmall (.mk k n s l)
theorem VSmall.len {x : V} (h : VSmall x) : x.l.length ≤ maxLen := by cases h; assumption
theorem VSmall.sub {x y : V} (h : VSmall x) (hy : y ∈ x.l) : VSmall y := by cases h with | mk h hs => exact hs y hy
theorem byItems_ok (g : Sh.Glob) (l l' : List V) (hl : l.length ≤ maxLen) (H : ∀ (i : Nat) x y, l[i]? = some x → l'[i]? = some y → SCalls Tryd.prog g 32 [tv x, tv y] [] (I (cmpV x y)) []) :
    SCalls Tryd.prog g 64 [.pv (.sl 4 (V.rows l)), .pv (.sl 4 (V.rows l')), .pv (.v (.func (.func 32) #[] #[]))] [] (I (cmpL l l')) [] := by
  refine call_of0 hmix tf_val_byItems_api_Val_ rfl ?_
  simp only [vcA, Nat.reduceLT, Int.reduceEq, Int.reduceAdd, Int.reduceSub, Nat.reduceBEq, Nat.reduceEqDiff, reduceCtorEq, Nat.reduceAdd, Nat.reduceSub, Nat.reduceMul, Nat.reduceLeDiff, Int.reduceToNat, Int.reduceLT, Int.reduceLE, Int.reduceNeg, reduceIte, I, S, tv, nv, tyT, RawV.tv, R1.row, rowsGet, rowsLen, row4, Vk, Vn, Vs, Vl]
  refine v_loop (σ := { i : Nat // i ≤ min l.length l'.length ∧ cmpL l l' = cmpL (l.drop i) (l'.drop i) }) (fun i => ⟨[(0, .pv (.sl 4 (V.rows l))), (1, .pv (.sl 4 (V.rows l'))), (2, .pv (.v (.func (.func 32) #[] #[]))), (13, I (min (l.length : Int) (l'.length : Int))), (14, I (i.1 : Int))], [], [], []⟩) (fun i => min l.length l'.length - i.1) ⟨0, Nat.zero_le _, rfl⟩ (lw_eq rfl) ?_
  rintro ⟨i, hi, hc⟩
  simp only [vcA, Nat.reduceLT, Int.reduceEq, Int.reduceAdd, Int.reduceSub, Nat.reduceBEq, Nat.reduceEqDiff, reduceCtorEq, Nat.reduceAdd, Nat.reduceSub, Nat.reduceMul, Nat.reduceLeDiff, Int.reduceToNat, Int.reduceLT, Int.reduceLE, Int.reduceNeg, reduceIte, I, S, tv, nv, tyT, RawV.tv, R1.row, rowsGet, rowsLen, row4, Vk, Vn, Vs, Vl]
  have hm : maxLen = 9223372036854775807 := rfl
  refine ⟨fun hlt => ?_, fun hge => ?_⟩
  · refine ⟨by omega, fun x hx => ⟨by omega, fun y hy => ?_⟩⟩
    (with_reducible apply v_callv); (· simp only [vcA, Nat.reduceLT, Int.reduceEq, Int.reduceAdd, Int.reduceSub, Nat.reduceBEq, Nat.reduceEqDiff, reduceCtorEq, Nat.reduceAdd, Nat.reduceSub, Nat.reduceMul, Nat.reduceLeDiff, Int.reduceToNat, Int.reduceLT, Int.reduceLE, Int.reduceNeg, reduceIte, I, S, tv, nv, tyT, RawV.tv, R1.row, rowsGet, rowsLen, row4, Vk, Vn, Vs, Vl]; with_reducible rfl); (· exact H i x y hx hy); (· rfl); (· simp only [vcA, Nat.reduceLT, Int.reduceEq, Int.reduceAdd, Int.reduceSub, Nat.reduceBEq, Nat.reduceEqDiff, reduceCtorEq, Nat.reduceAdd, Nat.reduceSub, Nat.reduceMul, Nat.reduceLeDiff, Int.reduceToNat, Int.reduceLT, Int.reduceLE, Int.reduceNeg, reduceIte, I, S, tv, nv, tyT, RawV.tv, R1.row, rowsGet, rowsLen, row4, Vk, Vn, Vs, Vl]; with_reducible rfl)
    have hd := cmpL_drop hx hy
    rw [← hc] at hd
    unfold thenI at hd
    simp only [vcA, Nat.reduceLT, Int.reduceEq, Int.reduceAdd, Int.reduceSub, Nat.reduceBEq, Nat.reduceEqDiff, reduceCtorEq, Nat.reduceAdd, Nat.reduceSub, Nat.reduceMul, Nat.reduceLeDiff, Int.reduceToNat, Int.reduceLT, Int.reduceLE, Int.reduceNeg, reduceIte, I, S, tv, nv, tyT, RawV.tv, R1.row, rowsGet, rowsLen, row4, Vk, Vn, Vs, Vl]
    refine ⟨fun h0 => ?_, fun h0 => ?_⟩
    · rw [if_pos h0] at hd
      have w1 : IntKind.i64.wrap ((i : Int) + 1) = (i : Int) + 1 := wrap64 (by omega) (by omega)
      refine loopK_of ⟨i + 1, by omega, hd⟩ (by show _ - (i + 1) < _ - i; omega) ?_
      apply lw_of <;> simp [leL, lk, sv, Nat.beq, I, S, ES.kill, has, drp, nilT, w1]
    · rw [if_neg h0] at hd
      rw [hd]
  · (with_reducible apply v_call); (· simp only [vcA, Nat.reduceLT, Int.reduceEq, Int.reduceAdd, Int.reduceSub, Nat.reduceBEq, Nat.reduceEqDiff, reduceCtorEq, Nat.reduceAdd, Nat.reduceSub, Nat.reduceMul, Nat.reduceLeDiff, Int.reduceToNat, Int.reduceLT, Int.reduceLE, Int.reduceNeg, reduceIte, I, S, tv, nv, tyT, RawV.tv, R1.row, rowsGet, rowsLen, row4, Vk, Vn, Vs, Vl]; with_reducible rfl); (· exact cmpI_ok g _ _); (· first | rfl | (simp only [moOk, nbeq, nble, List.length_nil, beq_self_eq_true, Bool.true_and, Bool.and_true, Bool.and_eq_true, decide_eq_true_eq]; omega)); (· simp only [vcA, Nat.reduceLT, Int.reduceEq, Int.reduceAdd, Int.reduceSub, Nat.reduceBEq, Nat.reduceEqDiff, reduceCtorEq, Nat.reduceAdd, Nat.reduceSub, Nat.reduceMul, Nat.reduceLeDiff, Int.reduceToNat, Int.reduceLT, Int.reduceLE, Int.reduceNeg, reduceIte, I, S, tv, nv, tyT, RawV.tv, R1.row, rowsGet, rowsLen, row4, Vk, Vn, Vs, Vl]; with_reducible rfl)
    simp only [vcA, Nat.reduceLT, Int.reduceEq, Int.reduceAdd, Int.reduceSub, Nat.reduceBEq, Nat.reduceEqDiff, reduceCtorEq, Nat.reduceAdd, Nat.reduceSub, Nat.reduceMul, Nat.reduceLeDiff, Int.reduceToNat, Int.reduceLT, Int.reduceLE, Int.reduceNeg, reduceIte, I, S, tv, nv, tyT, RawV.tv, R1.row, rowsGet, rowsLen, row4, Vk, Vn, Vs, Vl]
    rw [hc, cmpL_end (by omega)]
theorem compare_n (g : Sh.Glob) : ∀ (n : Nat) (x y : V), SizeOf.sizeOf x ≤ n → VSmall x → SCalls Tryd.prog g 32 [tv x, tv y] [] (I (cmpV x y)) []
  | 0, x, y, h, _ => by cases x; simp at h
  | n + 1, x, y, h, hx => by
    have HB := byItems_ok g x.l y.l hx.len (fun i a b ha hb => compare_n g n a b (by
      have hm := List.mem_of_getElem? ha
      have := List.sizeOf_lt_of_mem hm
      cases x; simp [V.l] at h this ⊢; omega) (hx.sub (List.mem_of_getElem? ha)))
    refine call_of0 hmix tf_val_Compare rfl ?_
    rw [cmpV_eq]
    simp only [vcA, Nat.reduceLT, Int.reduceEq, Int.reduceAdd, Int.reduceSub, Nat.reduceBEq, Nat.reduceEqDiff, reduceCtorEq, Nat.reduceAdd, Nat.reduceSub, Nat.reduceMul, Nat.reduceLeDiff, Int.reduceToNat, Int.reduceLT, Int.reduceLE, Int.reduceNeg, reduceIte, I, S, tv, nv, tyT, RawV.tv, R1.row, rowsGet, rowsLen, row4, Vk, Vn, Vs, Vl]
    (with_reducible apply v_call); (· simp only [vcA, Nat.reduceLT, Int.reduceEq, Int.reduceAdd, Int.reduceSub, Nat.reduceBEq, Nat.reduceEqDiff, reduceCtorEq, Nat.reduceAdd, Nat.reduceSub, Nat.reduceMul, Nat.reduceLeDiff, Int.reduceToNat, Int.reduceLT, Int.reduceLE, Int.reduceNeg, reduceIte, I, S, tv, nv, tyT, RawV.tv, R1.row, rowsGet, rowsLen, row4, Vk, Vn, Vs, Vl]; with_reducible rfl); (· exact cmpI_ok g _ _); (· first | rfl | (simp only [moOk, nbeq, nble, List.length_nil, beq_self_eq_true, Bool.true_and, Bool.and_true, Bool.and_eq_true, decide_eq_true_eq]; omega)); (· simp only [vcA, Nat.reduceLT, Int.reduceEq, Int.reduceAdd, Int.reduceSub, Nat.reduceBEq, Nat.reduceEqDiff, reduceCtorEq, Nat.reduceAdd, Nat.reduceSub, Nat.reduceMul, Nat.reduceLeDiff, Int.reduceToNat, Int.reduceLT, Int.reduceLE, Int.reduceNeg, reduceIte, I, S, tv, nv, tyT, RawV.tv, R1.row, rowsGet, rowsLen, row4, Vk, Vn, Vs, Vl]; with_reducible rfl)
    simp only [vcA, Nat.reduceLT, Int.reduceEq, Int.reduceAdd, Int.reduceSub, Nat.reduceBEq, Nat.reduceEqDiff, reduceCtorEq, Nat.reduceAdd, Nat.reduceSub, Nat.reduceMul, Nat.reduceLeDiff, Int.reduceToNat, Int.reduceLT, Int.reduceLE, Int.reduceNeg, reduceIte, I, S, tv, nv, tyT, RawV.tv, R1.row, rowsGet, rowsLen, row4, Vk, Vn, Vs, Vl]
    refine ⟨fun h1 => ?_, fun h1 => by rw [thenI, if_neg h1]⟩
    rw [thenI, if_pos h1]
    (with_reducible apply v_call); (· simp only [vcA, Nat.reduceLT, Int.reduceEq, Int.reduceAdd, Int.reduceSub, Nat.reduceBEq, Nat.reduceEqDiff, reduceCtorEq, Nat.reduceAdd, Nat.reduceSub, Nat.reduceMul, Nat.reduceLeDiff, Int.reduceToNat, Int.reduceLT, Int.reduceLE, Int.reduceNeg, reduceIte, I, S, tv, nv, tyT, RawV.tv, R1.row, rowsGet, rowsLen, row4, Vk, Vn, Vs, Vl]; with_reducible rfl); (· exact cmpI_ok g _ _); (· first | rfl | (simp only [moOk, nbeq, nble, List.length_nil, beq_self_eq_true, Bool.true_and, Bool.and_true, Bool.and_eq_true, decide_eq_true_eq]; omega)); (· simp only [vcA, Nat.reduceLT, Int.reduceEq, Int.reduceAdd, Int.reduceSub, Nat.reduceBEq, Nat.reduceEqDiff, reduceCtorEq, Nat.reduceAdd, Nat.reduceSub, Nat.reduceMul, Nat.reduceLeDiff, Int.reduceToNat, Int.reduceLT, Int.reduceLE, Int.reduceNeg, reduceIte, I, S, tv, nv, tyT, RawV.tv, R1.row, rowsGet, rowsLen, row4, Vk, Vn, Vs, Vl]; with_reducible rfl)
    simp only [vcA, Nat.reduceLT, Int.reduceEq, Int.reduceAdd, Int.reduceSub, Nat.reduceBEq, Nat.reduceEqDiff, reduceCtorEq, Nat.reduceAdd, Nat.reduceSub, Nat.reduceMul, Nat.reduceLeDiff, Int.reduceToNat, Int.reduceLT, Int.reduceLE, Int.reduceNeg, reduceIte, I, S, tv, nv, tyT, RawV.tv, R1.row, rowsGet, rowsLen, row4, Vk, Vn, Vs, Vl]
    refine ⟨fun h2 => ?_, fun h2 => by rw [thenI, if_neg h2]⟩
    rw [thenI, if_pos h2]
    (with_reducible apply v_call); (· simp only [vcA, Nat.reduceLT, Int.reduceEq, Int.reduceAdd, Int.reduceSub, Nat.reduceBEq, Nat.reduceEqDiff, reduceCtorEq, Nat.reduceAdd, Nat.reduceSub, Nat.reduceMul, Nat.reduceLeDiff, Int.reduceToNat, Int.reduceLT, Int.reduceLE, Int.reduceNeg, reduceIte, I, S, tv, nv, tyT, RawV.tv, R1.row, rowsGet, rowsLen, row4, Vk, Vn, Vs, Vl]; with_reducible rfl); (· exact cmpS_ok g _ _); (· first | rfl | (simp only [moOk, nbeq, nble, List.length_nil, beq_self_eq_true, Bool.true_and, Bool.and_true, Bool.and_eq_true, decide_eq_true_eq]; omega)); (· simp only [vcA, Nat.reduceLT, Int.reduceEq, Int.reduceAdd, Int.reduceSub, Nat.reduceBEq, Nat.reduceEqDiff, reduceCtorEq, Nat.reduceAdd, Nat.reduceSub, Nat.reduceMul, Nat.reduceLeDiff, Int.reduceToNat, Int.reduceLT, Int.reduceLE, Int.reduceNeg, reduceIte, I, S, tv, nv, tyT, RawV.tv, R1.row, rowsGet, rowsLen, row4, Vk, Vn, Vs, Vl]; with_reducible rfl)
    simp only [vcA, Nat.reduceLT, Int.reduceEq, Int.reduceAdd, Int.reduceSub, Nat.reduceBEq, Nat.reduceEqDiff, reduceCtorEq, Nat.reduceAdd, Nat.reduceSub, Nat.reduceMul, Nat.reduceLeDiff, Int.reduceToNat, Int.reduceLT, Int.reduceLE, Int.reduceNeg, reduceIte, I, S, tv, nv, tyT, RawV.tv, R1.row, rowsGet, rowsLen, row4, Vk, Vn, Vs, Vl]
    refine ⟨fun h3 => ?_, fun h3 => by rw [thenI, if_neg h3]⟩
    rw [thenI, if_pos h3]
    (with_reducible apply v_call); (· simp only [vcA, Nat.reduceLT, Int.reduceEq, Int.reduceAdd, Int.reduceSub, Nat.reduceBEq, Nat.reduceEqDiff, reduceCtorEq, Nat.reduceAdd, Nat.reduceSub, Nat.reduceMul, Nat.reduceLeDiff, Int.reduceToNat, Int.reduceLT, Int.reduceLE, Int.reduceNeg, reduceIte, I, S, tv, nv, tyT, RawV.tv, R1.row, rowsGet, rowsLen, row4, Vk, Vn, Vs, Vl]; with_reducible rfl); (· exact HB); (· first | rfl | (simp only [moOk, nbeq, nble, List.length_nil, beq_self_eq_true, Bool.true_and, Bool.and_true, Bool.and_eq_true, decide_eq_true_eq]; omega)); (· simp only [vcA, Nat.reduceLT, Int.reduceEq, Int.reduceAdd, Int.reduceSub, Nat.reduceBEq, Nat.reduceEqDiff, reduceCtorEq, Nat.reduceAdd, Nat.reduceSub, Nat.reduceMul, Nat.reduceLeDiff, Int.reduceToNat, Int.reduceLT, Int.reduceLE, Int.reduceNeg, reduceIte, I, S, tv, nv, tyT, RawV.tv, R1.row, rowsGet, rowsLen, row4, Vk, Vn, Vs, Vl]; with_reducible rfl)
    simp only [vcA, Nat.reduceLT, Int.reduceEq, Int.reduceAdd, Int.reduceSub, Nat.reduceBEq, Nat.reduceEqDiff, reduceCtorEq, Nat.reduceAdd, Nat.reduceSub, Nat.reduceMul, Nat.reduceLeDiff, Int.reduceToNat, Int.reduceLT, Int.reduceLE, Int.reduceNeg, reduceIte, I, S, tv, nv, tyT, RawV.tv, R1.row, rowsGet, rowsLen, row4, Vk, Vn, Vs, Vl]
theorem compare_ok (g : Sh.Glob) (x y : V) (hx : VSmall x) : SCalls Tryd.prog g 32 [tv x, tv y] [] (I (cmpV x y)) [] := compare_n g _ x y (Nat.le_refl _) hx
theorem same_ok (g : Sh.Glob) (x y : V) (hx : VSmall x) : SCalls Tryd.prog g 33 [tv x, tv y] [] (.pv (.v (.bool (decide (cmpV x y = 0))))) [] := by
  refine call_of0 hmix tf_val_Same rfl ?_
  simp only [vcA, Nat.reduceLT, Int.reduceEq, Int.reduceAdd, Int.reduceSub, Nat.reduceBEq, Nat.reduceEqDiff, reduceCtorEq, Nat.reduceAdd, Nat.reduceSub, Nat.reduceMul, Nat.reduceLeDiff, Int.reduceToNat, Int.reduceLT, Int.reduceLE, Int.reduceNeg, reduceIte, I, S, tv, nv, tyT, RawV.tv, R1.row, rowsGet, rowsLen, row4, Vk, Vn, Vs, Vl]
  (with_reducible apply v_call); (· simp only [vcA, Nat.reduceLT, Int.reduceEq, Int.reduceAdd, Int.reduceSub, Nat.reduceBEq, Nat.reduceEqDiff, reduceCtorEq, Nat.reduceAdd, Nat.reduceSub, Nat.reduceMul, Nat.reduceLeDiff, Int.reduceToNat, Int.reduceLT, Int.reduceLE, Int.reduceNeg, reduceIte, I, S, tv, nv, tyT, RawV.tv, R1.row, rowsGet, rowsLen, row4, Vk, Vn, Vs, Vl]; with_reducible rfl); (· exact compare_ok g x y hx); (· first | rfl | (simp only [moOk, nbeq, nble, List.length_nil, beq_self_eq_true, Bool.true_and, Bool.and_true, Bool.and_eq_true, decide_eq_true_eq]; omega)); (· simp only [vcA, Nat.reduceLT, Int.reduceEq, Int.reduceAdd, Int.reduceSub, Nat.reduceBEq, Nat.reduceEqDiff, reduceCtorEq, Nat.reduceAdd, Nat.reduceSub, Nat.reduceMul, Nat.reduceLeDiff, Int.reduceToNat, Int.reduceLT, Int.reduceLE, Int.reduceNeg, reduceIte, I, S, tv, nv, tyT, RawV.tv, R1.row, rowsGet, rowsLen, row4, Vk, Vn, Vs, Vl]; with_reducible rfl)
  simp only [vcA, Nat.reduceLT, Int.reduceEq, Int.reduceAdd, Int.reduceSub, Nat.reduceBEq, Nat.reduceEqDiff, reduceCtorEq, Nat.reduceAdd, Nat.reduceSub, Nat.reduceMul, Nat.reduceLeDiff, Int.reduceToNat, Int.reduceLT, Int.reduceLE, Int.reduceNeg, reduceIte, I, S, tv, nv, tyT, RawV.tv, R1.row, rowsGet, rowsLen, row4, Vk, Vn, Vs, Vl]
/-- The document's loop over two lists. -/
theorem refLoop (g : Sh.Glob) (x y : V) (hx : VSmall x) (H : ∀ (i : Nat) a b, x.l[i]? = some a → y.l[i]? = some b → SCalls Tryd.prog g 61 [tv a, tv b] [] (I (cmpV a b)) []) (c : Int) :
    swp Tryd.prog g (.loop c_moraineref03_Compare_12) (blockW 0 (thenW (swp Tryd.prog g (.seq (.seq c_moraineref03_Compare_13 (.cond (.tmp 67) (.seq c_moraineref03_Compare_14 .ret) .skip)) (.seq c_moraineref03_Compare_15 .ret)) (Post0 [.tmp 4] (I (thenI c (cmpL x.l y.l))))) (Post0 [.tmp 4] (I (thenI c (cmpL x.l y.l))))))
      ⟨[(2, .ptr 2 0), (3, .ptr 3 0), (5, I c), (6, I 0)], [(2, [I x.k, I x.n, S (str x.s), .pv (.sl 4 (V.rows x.l))]), (3, [I y.k, I y.n, S (str y.s), .pv (.sl 4 (V.rows y.l))])], [], []⟩ := by
  refine v_loop (σ := { p : Nat × Int // p.1 ≤ min x.l.length y.l.length ∧ thenI c (cmpL x.l y.l) = thenI p.2 (cmpL (x.l.drop p.1) (y.l.drop p.1)) })
    (fun p => ⟨[(2, .ptr 2 0), (3, .ptr 3 0), (5, I p.1.2), (6, I (p.1.1 : Int))], [(2, [I x.k, I x.n, S (str x.s), .pv (.sl 4 (V.rows x.l))]), (3, [I y.k, I y.n, S (str y.s), .pv (.sl 4 (V.rows y.l))])], [], []⟩)
    (fun p => min x.l.length y.l.length - p.1.1) ⟨(0, c), Nat.zero_le _, rfl⟩ (lw_eq rfl) ?_
  rintro ⟨⟨i, d⟩, hi, hc⟩
  have hm : maxLen = 9223372036854775807 := rfl
  have hl := hx.len
  simp only at hi hc
  simp only [vcA, Nat.reduceLT, Int.reduceEq, Int.reduceAdd, Int.reduceSub, Nat.reduceBEq, Nat.reduceEqDiff, reduceCtorEq, Nat.reduceAdd, Nat.reduceSub, Nat.reduceMul, Nat.reduceLeDiff, Int.reduceToNat, Int.reduceLT, Int.reduceLE, Int.reduceNeg, reduceIte, I, S, tv, nv, tyT, RawV.tv, R1.row, rowsGet, rowsLen, row4, Vk, Vn, Vs, Vl]
  refine ⟨fun h0 => ⟨fun h1 => ⟨fun h2 => ⟨by omega, fun a ha => ⟨by omega, fun b hb => ?_⟩⟩, fun h2 => ⟨fun _ => ?_, fun h => absurd h0 h⟩⟩, fun h1 => ⟨fun _ => ?_, fun h => absurd h0 h⟩⟩, fun h0 => ⟨fun h => absurd h h0, fun _ => ?_⟩⟩
  · (with_reducible apply v_call); (· simp only [vcA, Nat.reduceLT, Int.reduceEq, Int.reduceAdd, Int.reduceSub, Nat.reduceBEq, Nat.reduceEqDiff, reduceCtorEq, Nat.reduceAdd, Nat.reduceSub, Nat.reduceMul, Nat.reduceLeDiff, Int.reduceToNat, Int.reduceLT, Int.reduceLE, Int.reduceNeg, reduceIte, I, S, tv, nv, tyT, RawV.tv, R1.row, rowsGet, rowsLen, row4, Vk, Vn, Vs, Vl]; with_reducible rfl); (· exact H i a b ha hb); (· first | rfl | (simp only [moOk, nbeq, nble, List.length_nil, beq_self_eq_true, Bool.true_and, Bool.and_true, Bool.and_eq_true, decide_eq_true_eq]; omega)); (· simp only [vcA, Nat.reduceLT, Int.reduceEq, Int.reduceAdd, Int.reduceSub, Nat.reduceBEq, Nat.reduceEqDiff, reduceCtorEq, Nat.reduceAdd, Nat.reduceSub, Nat.reduceMul, Nat.reduceLeDiff, Int.reduceToNat, Int.reduceLT, Int.reduceLE, Int.reduceNeg, reduceIte, I, S, tv, nv, tyT, RawV.tv, R1.row, rowsGet, rowsLen, row4, Vk, Vn, Vs, Vl]; with_reducible rfl)
    simp only [vcA, Nat.reduceLT, Int.reduceEq, Int.reduceAdd, Int.reduceSub, Nat.reduceBEq, Nat.reduceEqDiff, reduceCtorEq, Nat.reduceAdd, Nat.reduceSub, Nat.reduceMul, Nat.reduceLeDiff, Int.reduceToNat, Int.reduceLT, Int.reduceLE, Int.reduceNeg, reduceIte, I, S, tv, nv, tyT, RawV.tv, R1.row, rowsGet, rowsLen, row4, Vk, Vn, Vs, Vl]
    have w1 : IntKind.i64.wrap ((i : Int) + 1) = (i : Int) + 1 := wrap64 (by omega) (by omega)
    refine loopK_of ⟨(i + 1, cmpV a b), by show i + 1 ≤ _; omega, ?_⟩ (by show _ - (i + 1) < _ - i; omega) ?_
    · show _ = thenI (cmpV a b) (cmpL (x.l.drop (i + 1)) (y.l.drop (i + 1)))
      rw [hc, h0, cmpL_drop ha hb]; simp [thenI]
    apply lw_of <;> simp [leL, lk, sv, Nat.beq, I, S, ES.kill, has, drp, nilT, w1]
  · (with_reducible apply v_call); (· simp only [vcA, Nat.reduceLT, Int.reduceEq, Int.reduceAdd, Int.reduceSub, Nat.reduceBEq, Nat.reduceEqDiff, reduceCtorEq, Nat.reduceAdd, Nat.reduceSub, Nat.reduceMul, Nat.reduceLeDiff, Int.reduceToNat, Int.reduceLT, Int.reduceLE, Int.reduceNeg, reduceIte, I, S, tv, nv, tyT, RawV.tv, R1.row, rowsGet, rowsLen, row4, Vk, Vn, Vs, Vl]; with_reducible rfl); (· exact order_ok g _ _); (· first | rfl | (simp only [moOk, nbeq, nble, List.length_nil, beq_self_eq_true, Bool.true_and, Bool.and_true, Bool.and_eq_true, decide_eq_true_eq]; omega)); (· simp only [vcA, Nat.reduceLT, Int.reduceEq, Int.reduceAdd, Int.reduceSub, Nat.reduceBEq, Nat.reduceEqDiff, reduceCtorEq, Nat.reduceAdd, Nat.reduceSub, Nat.reduceMul, Nat.reduceLeDiff, Int.reduceToNat, Int.reduceLT, Int.reduceLE, Int.reduceNeg, reduceIte, I, S, tv, nv, tyT, RawV.tv, R1.row, rowsGet, rowsLen, row4, Vk, Vn, Vs, Vl]; with_reducible rfl)
    simp only [vcA, Nat.reduceLT, Int.reduceEq, Int.reduceAdd, Int.reduceSub, Nat.reduceBEq, Nat.reduceEqDiff, reduceCtorEq, Nat.reduceAdd, Nat.reduceSub, Nat.reduceMul, Nat.reduceLeDiff, Int.reduceToNat, Int.reduceLT, Int.reduceLE, Int.reduceNeg, reduceIte, I, S, tv, nv, tyT, RawV.tv, R1.row, rowsGet, rowsLen, row4, Vk, Vn, Vs, Vl]
    rw [hc, h0, thenI, if_pos rfl, cmpL_end (by omega)]
  · (with_reducible apply v_call); (· simp only [vcA, Nat.reduceLT, Int.reduceEq, Int.reduceAdd, Int.reduceSub, Nat.reduceBEq, Nat.reduceEqDiff, reduceCtorEq, Nat.reduceAdd, Nat.reduceSub, Nat.reduceMul, Nat.reduceLeDiff, Int.reduceToNat, Int.reduceLT, Int.reduceLE, Int.reduceNeg, reduceIte, I, S, tv, nv, tyT, RawV.tv, R1.row, rowsGet, rowsLen, row4, Vk, Vn, Vs, Vl]; with_reducible rfl); (· exact order_ok g _ _); (· first | rfl | (simp only [moOk, nbeq, nble, List.length_nil, beq_self_eq_true, Bool.true_and, Bool.and_true, Bool.and_eq_true, decide_eq_true_eq]; omega)); (· simp only [vcA, Nat.reduceLT, Int.reduceEq, Int.reduceAdd, Int.reduceSub, Nat.reduceBEq, Nat.reduceEqDiff, reduceCtorEq, Nat.reduceAdd, Nat.reduceSub, Nat.reduceMul, Nat.reduceLeDiff, Int.reduceToNat, Int.reduceLT, Int.reduceLE, Int.reduceNeg, reduceIte, I, S, tv, nv, tyT, RawV.tv, R1.row, rowsGet, rowsLen, row4, Vk, Vn, Vs, Vl]; with_reducible rfl)
    simp only [vcA, Nat.reduceLT, Int.reduceEq, Int.reduceAdd, Int.reduceSub, Nat.reduceBEq, Nat.reduceEqDiff, reduceCtorEq, Nat.reduceAdd, Nat.reduceSub, Nat.reduceMul, Nat.reduceLeDiff, Int.reduceToNat, Int.reduceLT, Int.reduceLE, Int.reduceNeg, reduceIte, I, S, tv, nv, tyT, RawV.tv, R1.row, rowsGet, rowsLen, row4, Vk, Vn, Vs, Vl]
    rw [hc, h0, thenI, if_pos rfl, cmpL_end (by omega)]
  · rw [hc, thenI, if_neg h0]
theorem refCompare_n (g : Sh.Glob) : ∀ (n : Nat) (x y : V), SizeOf.sizeOf x ≤ n → VSmall x → SCalls Tryd.prog g 61 [tv x, tv y] [] (I (cmpV x y)) []
  | 0, x, y, h, _ => by cases x; simp at h
  | n + 1, x, y, h, hx => by
    have H : ∀ (i : Nat) a b, x.l[i]? = some a → y.l[i]? = some b → SCalls Tryd.prog g 61 [tv a, tv b] [] (I (cmpV a b)) [] := fun i a b ha hb => refCompare_n g n a b (by
      have hm := List.mem_of_getElem? ha
      have := List.sizeOf_lt_of_mem hm
      cases x; simp [V.l] at h this ⊢; omega) (hx.sub (List.mem_of_getElem? ha))
    have HL := refLoop g x y hx H
    refine call_of0 hmix tf_moraineref03_Compare rfl ?_
    rw [cmpV_eq]
    by_cases h1 : ordI x.k y.k = 0
    · rw [h1, thenI, if_pos rfl]
      simp only [vcA, Nat.reduceLT, Int.reduceEq, Int.reduceAdd, Int.reduceSub, Nat.reduceBEq, Nat.reduceEqDiff, reduceCtorEq, Nat.reduceAdd, Nat.reduceSub, Nat.reduceMul, Nat.reduceLeDiff, Int.reduceToNat, Int.reduceLT, Int.reduceLE, Int.reduceNeg, reduceIte, I, S, tv, nv, tyT, RawV.tv, R1.row, rowsGet, rowsLen, row4, Vk, Vn, Vs, Vl]
      (with_reducible apply v_call); (· simp only [vcA, Nat.reduceLT, Int.reduceEq, Int.reduceAdd, Int.reduceSub, Nat.reduceBEq, Nat.reduceEqDiff, reduceCtorEq, Nat.reduceAdd, Nat.reduceSub, Nat.reduceMul, Nat.reduceLeDiff, Int.reduceToNat, Int.reduceLT, Int.reduceLE, Int.reduceNeg, reduceIte, I, S, tv, nv, tyT, RawV.tv, R1.row, rowsGet, rowsLen, row4, Vk, Vn, Vs, Vl]; with_reducible rfl); (· exact order_ok g _ _); (· first | rfl | (simp only [moOk, nbeq, nble, List.length_nil, beq_self_eq_true, Bool.true_and, Bool.and_true, Bool.and_eq_true, decide_eq_true_eq]; omega)); (· simp only [vcA, Nat.reduceLT, Int.reduceEq, Int.reduceAdd, Int.reduceSub, Nat.reduceBEq, Nat.reduceEqDiff, reduceCtorEq, Nat.reduceAdd, Nat.reduceSub, Nat.reduceMul, Nat.reduceLeDiff, Int.reduceToNat, Int.reduceLT, Int.reduceLE, Int.reduceNeg, reduceIte, I, S, tv, nv, tyT, RawV.tv, R1.row, rowsGet, rowsLen, row4, Vk, Vn, Vs, Vl]; with_reducible rfl)
      simp only [vcA, Nat.reduceLT, Int.reduceEq, Int.reduceAdd, Int.reduceSub, Nat.reduceBEq, Nat.reduceEqDiff, reduceCtorEq, Nat.reduceAdd, Nat.reduceSub, Nat.reduceMul, Nat.reduceLeDiff, Int.reduceToNat, Int.reduceLT, Int.reduceLE, Int.reduceNeg, reduceIte, I, S, tv, nv, tyT, RawV.tv, R1.row, rowsGet, rowsLen, row4, Vk, Vn, Vs, Vl, h1]
      (with_reducible apply v_call); (· simp only [vcA, Nat.reduceLT, Int.reduceEq, Int.reduceAdd, Int.reduceSub, Nat.reduceBEq, Nat.reduceEqDiff, reduceCtorEq, Nat.reduceAdd, Nat.reduceSub, Nat.reduceMul, Nat.reduceLeDiff, Int.reduceToNat, Int.reduceLT, Int.reduceLE, Int.reduceNeg, reduceIte, I, S, tv, nv, tyT, RawV.tv, R1.row, rowsGet, rowsLen, row4, Vk, Vn, Vs, Vl]; with_reducible rfl); (· exact order_ok g _ _); (· first | rfl | (simp only [moOk, nbeq, nble, List.length_nil, beq_self_eq_true, Bool.true_and, Bool.and_true, Bool.and_eq_true, decide_eq_true_eq]; omega)); (· simp only [vcA, Nat.reduceLT, Int.reduceEq, Int.reduceAdd, Int.reduceSub, Nat.reduceBEq, Nat.reduceEqDiff, reduceCtorEq, Nat.reduceAdd, Nat.reduceSub, Nat.reduceMul, Nat.reduceLeDiff, Int.reduceToNat, Int.reduceLT, Int.reduceLE, Int.reduceNeg, reduceIte, I, S, tv, nv, tyT, RawV.tv, R1.row, rowsGet, rowsLen, row4, Vk, Vn, Vs, Vl]; with_reducible rfl)
      by_cases h2 : ordI x.n y.n = 0
      · rw [h2, thenI, if_pos rfl]
        cases hb : Op.bytesLess x.s y.s
        · by_cases he : x.s = y.s
          · have e : ordS x.s y.s = 0 := by rw [ordS, hb]; simp [he]
            have he' : (x.s == y.s) = true := by simp [he]
            rw [e]
            simp only [vcA, Nat.reduceLT, Int.reduceEq, Int.reduceAdd, Int.reduceSub, Nat.reduceBEq, Nat.reduceEqDiff, reduceCtorEq, Nat.reduceAdd, Nat.reduceSub, Nat.reduceMul, Nat.reduceLeDiff, Int.reduceToNat, Int.reduceLT, Int.reduceLE, Int.reduceNeg, reduceIte, I, S, tv, nv, tyT, RawV.tv, R1.row, rowsGet, rowsLen, row4, Vk, Vn, Vs, Vl, h2, hb, he']
            exact HL 0
          · have e : ordS x.s y.s = 1 := by simp [ordS, hb, he]
            have he' : (x.s == y.s) = false := by simp [he]
            rw [e]
            simp only [vcA, Nat.reduceLT, Int.reduceEq, Int.reduceAdd, Int.reduceSub, Nat.reduceBEq, Nat.reduceEqDiff, reduceCtorEq, Nat.reduceAdd, Nat.reduceSub, Nat.reduceMul, Nat.reduceLeDiff, Int.reduceToNat, Int.reduceLT, Int.reduceLE, Int.reduceNeg, reduceIte, I, S, tv, nv, tyT, RawV.tv, R1.row, rowsGet, rowsLen, row4, Vk, Vn, Vs, Vl, h2, hb, he']
            exact HL 1
        · have e : ordS x.s y.s = -1 := by simp [ordS, hb]
          rw [e]
          simp only [vcA, Nat.reduceLT, Int.reduceEq, Int.reduceAdd, Int.reduceSub, Nat.reduceBEq, Nat.reduceEqDiff, reduceCtorEq, Nat.reduceAdd, Nat.reduceSub, Nat.reduceMul, Nat.reduceLeDiff, Int.reduceToNat, Int.reduceLT, Int.reduceLE, Int.reduceNeg, reduceIte, I, S, tv, nv, tyT, RawV.tv, R1.row, rowsGet, rowsLen, row4, Vk, Vn, Vs, Vl, h2, hb]
          exact HL (-1)
      · rw [show thenI (ordI x.n y.n) (thenI (ordS x.s y.s) (cmpL x.l y.l)) = thenI (ordI x.n y.n) (cmpL x.l y.l) by simp [thenI, h2]]
        simp only [vcA, Nat.reduceLT, Int.reduceEq, Int.reduceAdd, Int.reduceSub, Nat.reduceBEq, Nat.reduceEqDiff, reduceCtorEq, Nat.reduceAdd, Nat.reduceSub, Nat.reduceMul, Nat.reduceLeDiff, Int.reduceToNat, Int.reduceLT, Int.reduceLE, Int.reduceNeg, reduceIte, I, S, tv, nv, tyT, RawV.tv, R1.row, rowsGet, rowsLen, row4, Vk, Vn, Vs, Vl, h2]
        exact HL _
    · rw [show thenI (ordI x.k y.k) (thenI (ordI x.n y.n) (thenI (ordS x.s y.s) (cmpL x.l y.l))) = thenI (ordI x.k y.k) (cmpL x.l y.l) by simp [thenI, h1]]
      simp only [vcA, Nat.reduceLT, Int.reduceEq, Int.reduceAdd, Int.reduceSub, Nat.reduceBEq, Nat.reduceEqDiff, reduceCtorEq, Nat.reduceAdd, Nat.reduceSub, Nat.reduceMul, Nat.reduceLeDiff, Int.reduceToNat, Int.reduceLT, Int.reduceLE, Int.reduceNeg, reduceIte, I, S, tv, nv, tyT, RawV.tv, R1.row, rowsGet, rowsLen, row4, Vk, Vn, Vs, Vl]
      (with_reducible apply v_call); (· simp only [vcA, Nat.reduceLT, Int.reduceEq, Int.reduceAdd, Int.reduceSub, Nat.reduceBEq, Nat.reduceEqDiff, reduceCtorEq, Nat.reduceAdd, Nat.reduceSub, Nat.reduceMul, Nat.reduceLeDiff, Int.reduceToNat, Int.reduceLT, Int.reduceLE, Int.reduceNeg, reduceIte, I, S, tv, nv, tyT, RawV.tv, R1.row, rowsGet, rowsLen, row4, Vk, Vn, Vs, Vl]; with_reducible rfl); (· exact order_ok g _ _); (· first | rfl | (simp only [moOk, nbeq, nble, List.length_nil, beq_self_eq_true, Bool.true_and, Bool.and_true, Bool.and_eq_true, decide_eq_true_eq]; omega)); (· simp only [vcA, Nat.reduceLT, Int.reduceEq, Int.reduceAdd, Int.reduceSub, Nat.reduceBEq, Nat.reduceEqDiff, reduceCtorEq, Nat.reduceAdd, Nat.reduceSub, Nat.reduceMul, Nat.reduceLeDiff, Int.reduceToNat, Int.reduceLT, Int.reduceLE, Int.reduceNeg, reduceIte, I, S, tv, nv, tyT, RawV.tv, R1.row, rowsGet, rowsLen, row4, Vk, Vn, Vs, Vl]; with_reducible rfl)
      simp only [vcA, Nat.reduceLT, Int.reduceEq, Int.reduceAdd, Int.reduceSub, Nat.reduceBEq, Nat.reduceEqDiff, reduceCtorEq, Nat.reduceAdd, Nat.reduceSub, Nat.reduceMul, Nat.reduceLeDiff, Int.reduceToNat, Int.reduceLT, Int.reduceLE, Int.reduceNeg, reduceIte, I, S, tv, nv, tyT, RawV.tv, R1.row, rowsGet, rowsLen, row4, Vk, Vn, Vs, Vl, h1]
      exact HL _
theorem refCompare_ok (g : Sh.Glob) (x y : V) (hx : VSmall x) : SCalls Tryd.prog g 61 [tv x, tv y] [] (I (cmpV x y)) [] := refCompare_n g _ x y (Nat.le_refl _) hx
theorem refSame_ok (g : Sh.Glob) (x y : V) (hx : VSmall x) : SCalls Tryd.prog g 30 [tv x, tv y] [] (.pv (.v (.bool (decide (cmpV x y = 0))))) [] := by
  refine call_of0 hmix tf_moraineref03_Same rfl ?_
  simp only [vcA, Nat.reduceLT, Int.reduceEq, Int.reduceAdd, Int.reduceSub, Nat.reduceBEq, Nat.reduceEqDiff, reduceCtorEq, Nat.reduceAdd, Nat.reduceSub, Nat.reduceMul, Nat.reduceLeDiff, Int.reduceToNat, Int.reduceLT, Int.reduceLE, Int.reduceNeg, reduceIte, I, S, tv, nv, tyT, RawV.tv, R1.row, rowsGet, rowsLen, row4, Vk, Vn, Vs, Vl]
  (with_reducible apply v_call); (· simp only [vcA, Nat.reduceLT, Int.reduceEq, Int.reduceAdd, Int.reduceSub, Nat.reduceBEq, Nat.reduceEqDiff, reduceCtorEq, Nat.reduceAdd, Nat.reduceSub, Nat.reduceMul, Nat.reduceLeDiff, Int.reduceToNat, Int.reduceLT, Int.reduceLE, Int.reduceNeg, reduceIte, I, S, tv, nv, tyT, RawV.tv, R1.row, rowsGet, rowsLen, row4, Vk, Vn, Vs, Vl]; with_reducible rfl); (· exact refCompare_ok g x y hx); (· first | rfl | (simp only [moOk, nbeq, nble, List.length_nil, beq_self_eq_true, Bool.true_and, Bool.and_true, Bool.and_eq_true, decide_eq_true_eq]; omega)); (· simp only [vcA, Nat.reduceLT, Int.reduceEq, Int.reduceAdd, Int.reduceSub, Nat.reduceBEq, Nat.reduceEqDiff, reduceCtorEq, Nat.reduceAdd, Nat.reduceSub, Nat.reduceMul, Nat.reduceLeDiff, Int.reduceToNat, Int.reduceLT, Int.reduceLE, Int.reduceNeg, reduceIte, I, S, tv, nv, tyT, RawV.tv, R1.row, rowsGet, rowsLen, row4, Vk, Vn, Vs, Vl]; with_reducible rfl)
  simp only [vcA, Nat.reduceLT, Int.reduceEq, Int.reduceAdd, Int.reduceSub, Nat.reduceBEq, Nat.reduceEqDiff, reduceCtorEq, Nat.reduceAdd, Nat.reduceSub, Nat.reduceMul, Nat.reduceLeDiff, Int.reduceToNat, Int.reduceLT, Int.reduceLE, Int.reduceNeg, reduceIte, I, S, tv, nv, tyT, RawV.tv, R1.row, rowsGet, rowsLen, row4, Vk, Vn, Vs, Vl]
end Go.Proofs.YtdlolkogifigpaaDoor
end
