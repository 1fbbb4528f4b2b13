/- The document's Sign, and IsText. No statement of the program is proved here. -/
import Derived.Test.YtdlolkogifigpaaDoorSy3
set_option linter.unusedSimpArgs false
set_option linter.unusedVariables false
namespace Go.Proofs.YtdlolkogifigpaaDoor
open Go Go.RowKit Go.Mor Go.Sh Go.Sh.Cd1
set_option maxRecDepth 100000
set_option maxHeartbeats 8000000
theorem getD_some {l : List UInt8} {i : Nat} {b : UInt8} (h : l[i]? = some b) : l.getD i 0 = b := by rw [List.getD_eq_getElem?_getD, h]; rfl
theorem signL_eq {l : List UInt8} (h : 0 < l.length) : signL l = signN l.length (l.getD 0 0).toNat (l.getD 1 0).toNat (l.getD 2 0).toNat (l.getD 3 0).toNat := by
  unfold signL
  rw [if_neg (by rintro rfl; simp at h)]
theorem at_ {l : List UInt8} {i : Nat} (h : i < l.length) : ∃ b, l[i]? = some b := ⟨_, List.getElem?_eq_getElem h⟩
theorem sign_none (g : Sh.Glob) (l : List UInt8) (h : l.length = 0) : SCalls Tryd.prog g 99 [S (str l)] [] (I 0) [] := by
  refine call_of0 hmix tf_moraineref03_Sign rfl ?_
  have d1 := decide_T (p := ((l.length : Int) = 0)) (by omega)
  repeat (first | (with_reducible apply w_unr) | (with_reducible apply w_assoc) | (with_reducible apply w_skip) | (with_reducible apply w_ret) | (with_reducible apply w_retE) | (with_reducible apply w_skipE) | (with_reducible apply w_exit) | (with_reducible apply w_exitE) | (with_reducible apply w_block) | (with_reducible apply w_blockE) | ((with_reducible apply w_reg); · simp only [shA, eff, Int.reduceEq, Int.reduceAdd, Int.reduceSub, Nat.reduceBEq, Nat.reduceEqDiff, reduceCtorEq, Nat.reduceAdd, Nat.reduceSub, Nat.reduceMul, Nat.reduceLeDiff, Int.reduceToNat, Int.reduceLT, Int.reduceLE, Int.reduceNeg, d1]; with_reducible rfl) | ((with_reducible apply w_regE); · simp only [shA, eff, Int.reduceEq, Int.reduceAdd, Int.reduceSub, Nat.reduceBEq, Nat.reduceEqDiff, reduceCtorEq, Nat.reduceAdd, Nat.reduceSub, Nat.reduceMul, Nat.reduceLeDiff, Int.reduceToNat, Int.reduceLT, Int.reduceLE, Int.reduceNeg, d1]; with_reducible rfl) | ((with_reducible apply w_condT); · simp only [shA, eff, Int.reduceEq, Int.reduceAdd, Int.reduceSub, Nat.reduceBEq, Nat.reduceEqDiff, reduceCtorEq, Nat.reduceAdd, Nat.reduceSub, Nat.reduceMul, Nat.reduceLeDiff, Int.reduceToNat, Int.reduceLT, Int.reduceLE, Int.reduceNeg, d1]) | ((with_reducible apply w_condF); · simp only [shA, eff, Int.reduceEq, Int.reduceAdd, Int.reduceSub, Nat.reduceBEq, Nat.reduceEqDiff, reduceCtorEq, Nat.reduceAdd, Nat.reduceSub, Nat.reduceMul, Nat.reduceLeDiff, Int.reduceToNat, Int.reduceLT, Int.reduceLE, Int.reduceNeg, d1]) | ((with_reducible apply w_condTE); · simp only [shA, eff, Int.reduceEq, Int.reduceAdd, Int.reduceSub, Nat.reduceBEq, Nat.reduceEqDiff, reduceCtorEq, Nat.reduceAdd, Nat.reduceSub, Nat.reduceMul, Nat.reduceLeDiff, Int.reduceToNat, Int.reduceLT, Int.reduceLE, Int.reduceNeg, d1]) | ((with_reducible apply w_condFE); · simp only [shA, eff, Int.reduceEq, Int.reduceAdd, Int.reduceSub, Nat.reduceBEq, Nat.reduceEqDiff, reduceCtorEq, Nat.reduceAdd, Nat.reduceSub, Nat.reduceMul, Nat.reduceLeDiff, Int.reduceToNat, Int.reduceLT, Int.reduceLE, Int.reduceNeg, d1]) | (with_reducible apply q_then) | (with_reducible apply q_blockN) | (with_reducible apply q_blockR) | (with_reducible apply q_thenR) | (with_reducible apply q_thenX) | (with_reducible apply q_blockX) | ((with_reducible apply q_blockY); · rfl))
  simp [Post0, ansW, resT, SRes.get, ES.fs, ES.kill, has, drp, seqO, nbeq, lk, I, S, TV.ids3, TV.ids2, TV.ids1, TV.ids0, TV.ren3, TV.ren2, TV.ren1, TV.ren0, F_moraineref03_Sign]
theorem sign_ok (g : Sh.Glob) (l : List UInt8) : SCalls Tryd.prog g 99 [S (str l)] [] (I (signL l)) [] := by
  rcases Nat.eq_zero_or_pos l.length with h0 | h0
  · obtain rfl := List.eq_nil_of_length_eq_zero h0
    exact sign_none g [] rfl
  obtain ⟨b0, e0⟩ := at_ h0
  have hb0 := u8_lt b0
  rw [signL_eq h0, getD_some e0]
  generalize hB1 : (l.getD 1 0).toNat = B1
  generalize hB2 : (l.getD 2 0).toNat = B2
  generalize hB3 : (l.getD 3 0).toNat = B3
  have tb1 : ∀ b1, l[1]? = some b1 → b1.toNat = B1 := fun b h => by rw [← hB1, getD_some h]
  have tb2 : ∀ b1, l[2]? = some b1 → b1.toNat = B2 := fun b h => by rw [← hB2, getD_some h]
  have tb3 : ∀ b1, l[3]? = some b1 → b1.toNat = B3 := fun b h => by rw [← hB3, getD_some h]
  have val : ∀ {r : Nat}, signN l.length b0.toNat B1 B2 B3 = r → SCalls Tryd.prog g 99 [S (str l)] [] (I (r : Int)) [] → SCalls Tryd.prog g 99 [S (str l)] [] (I (signN l.length b0.toNat B1 B2 B3 : Nat)) [] := fun h1 h2 => by rw [h1]; exact h2
  by_cases ca : b0.toNat < 128
  · exact val (r := 1) (by unfold signN; (repeat' split) <;> omega) (sign_a g l b0 h0 e0 ca)
  by_cases cb : b0.toNat ≤ 193
  · exact val (r := 0) (by unfold signN; (repeat' split) <;> omega) (sign_b g l b0 h0 e0 ⟨by omega, cb⟩)
  by_cases cz : 245 ≤ b0.toNat
  · exact val (r := 0) (by unfold signN; (repeat' split) <;> omega) (sign_z g l b0 h0 e0 cz)
  by_cases cc : b0.toNat ≤ 223
  · by_cases hs : l.length < 2
    · exact val (r := 0) (by unfold signN; (repeat' split) <;> omega) (sign_cs g l b0 h0 e0 ⟨by omega, cc⟩ hs)
    obtain ⟨b1, e1⟩ := at_ (l := l) (i := 1) (by omega)
    have q1 := tb1 b1 e1
    by_cases k1 : (b1.toNat : Int) < 128
    · exact val (r := 0) (by unfold signN; (repeat' split) <;> omega) (sign_ct g l b0 h0 e0 ⟨by omega, cc⟩ 0 (by omega) (tail2_lo g l 128 191 b1 e1 k1))
    by_cases k2 : 191 < (b1.toNat : Int)
    · exact val (r := 0) (by unfold signN; (repeat' split) <;> omega) (sign_ct g l b0 h0 e0 ⟨by omega, cc⟩ 0 (by omega) (tail2_hi g l 128 191 b1 e1 k1 k2))
    exact val (r := 2) (by unfold signN; (repeat' split) <;> omega) (sign_ct g l b0 h0 e0 ⟨by omega, cc⟩ 2 (by omega) (tail2_ok g l 128 191 b1 e1 k1 k2))
  by_cases cd : b0.toNat = 224
  · by_cases hs : l.length < 3
    · exact val (r := 0) (by unfold signN; (repeat' split) <;> omega) (sign_ds g l b0 h0 e0 cd hs)
    obtain ⟨b1, e1⟩ := at_ (l := l) (i := 1) (by omega)
    have q1 := tb1 b1 e1
    by_cases k1 : (b1.toNat : Int) < 160
    · exact val (r := 0) (by unfold signN; (repeat' split) <;> omega) (sign_dt g l b0 h0 e0 cd 0 (by omega) (tail3_lo g l 160 191 b1 e1 k1))
    by_cases k2 : 191 < (b1.toNat : Int)
    · exact val (r := 0) (by unfold signN; (repeat' split) <;> omega) (sign_dt g l b0 h0 e0 cd 0 (by omega) (tail3_hi g l 160 191 b1 e1 k1 k2))
    obtain ⟨b2, e2⟩ := at_ (l := l) (i := 2) (by omega)
    have q2 := tb2 b2 e2
    by_cases k3 : b2.toNat < 128
    · exact val (r := 0) (by unfold signN; (repeat' split) <;> omega) (sign_dt g l b0 h0 e0 cd 0 (by omega) (tail3_lo2 g l 160 191 b1 e1 k1 k2 b2 e2 k3))
    by_cases k4 : 191 < b2.toNat
    · exact val (r := 0) (by unfold signN; (repeat' split) <;> omega) (sign_dt g l b0 h0 e0 cd 0 (by omega) (tail3_hi2 g l 160 191 b1 e1 k1 k2 b2 e2 k4))
    exact val (r := 3) (by unfold signN; (repeat' split) <;> omega) (sign_dt g l b0 h0 e0 cd 3 (by omega) (tail3_ok g l 160 191 b1 e1 k1 k2 b2 e2 (by omega) (by omega)))
  by_cases cf : b0.toNat = 237
  · by_cases hs : l.length < 3
    · exact val (r := 0) (by unfold signN; (repeat' split) <;> omega) (sign_fs g l b0 h0 e0 cf hs)
    obtain ⟨b1, e1⟩ := at_ (l := l) (i := 1) (by omega)
    have q1 := tb1 b1 e1
    by_cases k1 : (b1.toNat : Int) < 128
    · exact val (r := 0) (by unfold signN; (repeat' split) <;> omega) (sign_ft g l b0 h0 e0 cf 0 (by omega) (tail3_lo g l 128 159 b1 e1 k1))
    by_cases k2 : 159 < (b1.toNat : Int)
    · exact val (r := 0) (by unfold signN; (repeat' split) <;> omega) (sign_ft g l b0 h0 e0 cf 0 (by omega) (tail3_hi g l 128 159 b1 e1 k1 k2))
    obtain ⟨b2, e2⟩ := at_ (l := l) (i := 2) (by omega)
    have q2 := tb2 b2 e2
    by_cases k3 : b2.toNat < 128
    · exact val (r := 0) (by unfold signN; (repeat' split) <;> omega) (sign_ft g l b0 h0 e0 cf 0 (by omega) (tail3_lo2 g l 128 159 b1 e1 k1 k2 b2 e2 k3))
    by_cases k4 : 191 < b2.toNat
    · exact val (r := 0) (by unfold signN; (repeat' split) <;> omega) (sign_ft g l b0 h0 e0 cf 0 (by omega) (tail3_hi2 g l 128 159 b1 e1 k1 k2 b2 e2 k4))
    exact val (r := 3) (by unfold signN; (repeat' split) <;> omega) (sign_ft g l b0 h0 e0 cf 3 (by omega) (tail3_ok g l 128 159 b1 e1 k1 k2 b2 e2 (by omega) (by omega)))
  by_cases ce : b0.toNat ≤ 239
  · by_cases hs : l.length < 3
    · exact val (r := 0) (by unfold signN; (repeat' split) <;> omega) (sign_es g l b0 h0 e0 ⟨by omega, ce, cf⟩ hs)
    obtain ⟨b1, e1⟩ := at_ (l := l) (i := 1) (by omega)
    have q1 := tb1 b1 e1
    by_cases k1 : (b1.toNat : Int) < 128
    · exact val (r := 0) (by unfold signN; (repeat' split) <;> omega) (sign_et g l b0 h0 e0 ⟨by omega, ce, cf⟩ 0 (by omega) (tail3_lo g l 128 191 b1 e1 k1))
    by_cases k2 : 191 < (b1.toNat : Int)
    · exact val (r := 0) (by unfold signN; (repeat' split) <;> omega) (sign_et g l b0 h0 e0 ⟨by omega, ce, cf⟩ 0 (by omega) (tail3_hi g l 128 191 b1 e1 k1 k2))
    obtain ⟨b2, e2⟩ := at_ (l := l) (i := 2) (by omega)
    have q2 := tb2 b2 e2
    by_cases k3 : b2.toNat < 128
    · exact val (r := 0) (by unfold signN; (repeat' split) <;> omega) (sign_et g l b0 h0 e0 ⟨by omega, ce, cf⟩ 0 (by omega) (tail3_lo2 g l 128 191 b1 e1 k1 k2 b2 e2 k3))
    by_cases k4 : 191 < b2.toNat
    · exact val (r := 0) (by unfold signN; (repeat' split) <;> omega) (sign_et g l b0 h0 e0 ⟨by omega, ce, cf⟩ 0 (by omega) (tail3_hi2 g l 128 191 b1 e1 k1 k2 b2 e2 k4))
    exact val (r := 3) (by unfold signN; (repeat' split) <;> omega) (sign_et g l b0 h0 e0 ⟨by omega, ce, cf⟩ 3 (by omega) (tail3_ok g l 128 191 b1 e1 k1 k2 b2 e2 (by omega) (by omega)))
  by_cases ci : b0.toNat = 240
  · by_cases hs : l.length < 4
    · exact val (r := 0) (by unfold signN; (repeat' split) <;> omega) (sign_is g l b0 h0 e0 ci hs)
    obtain ⟨b1, e1⟩ := at_ (l := l) (i := 1) (by omega)
    have q1 := tb1 b1 e1
    by_cases k1 : (b1.toNat : Int) < 144
    · exact val (r := 0) (by unfold signN; (repeat' split) <;> omega) (sign_it g l b0 h0 e0 ci 0 (by omega) (tail4_lo g l 144 191 b1 e1 k1))
    by_cases k2 : 191 < (b1.toNat : Int)
    · exact val (r := 0) (by unfold signN; (repeat' split) <;> omega) (sign_it g l b0 h0 e0 ci 0 (by omega) (tail4_hi g l 144 191 b1 e1 k1 k2))
    obtain ⟨b2, e2⟩ := at_ (l := l) (i := 2) (by omega)
    have q2 := tb2 b2 e2
    by_cases k3 : b2.toNat < 128
    · exact val (r := 0) (by unfold signN; (repeat' split) <;> omega) (sign_it g l b0 h0 e0 ci 0 (by omega) (tail4_lo2 g l 144 191 b1 e1 k1 k2 b2 e2 k3))
    by_cases k4 : 191 < b2.toNat
    · exact val (r := 0) (by unfold signN; (repeat' split) <;> omega) (sign_it g l b0 h0 e0 ci 0 (by omega) (tail4_hi2 g l 144 191 b1 e1 k1 k2 b2 e2 k4))
    obtain ⟨b3, e3⟩ := at_ (l := l) (i := 3) (by omega)
    have q3 := tb3 b3 e3
    by_cases k5 : b3.toNat < 128
    · exact val (r := 0) (by unfold signN; (repeat' split) <;> omega) (sign_it g l b0 h0 e0 ci 0 (by omega) (tail4_lo3 g l 144 191 b1 e1 k1 k2 b2 e2 (by omega) (by omega) b3 e3 k5))
    by_cases k6 : 191 < b3.toNat
    · exact val (r := 0) (by unfold signN; (repeat' split) <;> omega) (sign_it g l b0 h0 e0 ci 0 (by omega) (tail4_hi3 g l 144 191 b1 e1 k1 k2 b2 e2 (by omega) (by omega) b3 e3 k6))
    exact val (r := 4) (by unfold signN; (repeat' split) <;> omega) (sign_it g l b0 h0 e0 ci 4 (by omega) (tail4_ok g l 144 191 b1 e1 k1 k2 b2 e2 (by omega) (by omega) b3 e3 (by omega) (by omega)))
  by_cases cj : b0.toNat ≤ 243
  · by_cases hs : l.length < 4
    · exact val (r := 0) (by unfold signN; (repeat' split) <;> omega) (sign_js g l b0 h0 e0 ⟨by omega, cj⟩ hs)
    obtain ⟨b1, e1⟩ := at_ (l := l) (i := 1) (by omega)
    have q1 := tb1 b1 e1
    by_cases k1 : (b1.toNat : Int) < 128
    · exact val (r := 0) (by unfold signN; (repeat' split) <;> omega) (sign_jt g l b0 h0 e0 ⟨by omega, cj⟩ 0 (by omega) (tail4_lo g l 128 191 b1 e1 k1))
    by_cases k2 : 191 < (b1.toNat : Int)
    · exact val (r := 0) (by unfold signN; (repeat' split) <;> omega) (sign_jt g l b0 h0 e0 ⟨by omega, cj⟩ 0 (by omega) (tail4_hi g l 128 191 b1 e1 k1 k2))
    obtain ⟨b2, e2⟩ := at_ (l := l) (i := 2) (by omega)
    have q2 := tb2 b2 e2
    by_cases k3 : b2.toNat < 128
    · exact val (r := 0) (by unfold signN; (repeat' split) <;> omega) (sign_jt g l b0 h0 e0 ⟨by omega, cj⟩ 0 (by omega) (tail4_lo2 g l 128 191 b1 e1 k1 k2 b2 e2 k3))
    by_cases k4 : 191 < b2.toNat
    · exact val (r := 0) (by unfold signN; (repeat' split) <;> omega) (sign_jt g l b0 h0 e0 ⟨by omega, cj⟩ 0 (by omega) (tail4_hi2 g l 128 191 b1 e1 k1 k2 b2 e2 k4))
    obtain ⟨b3, e3⟩ := at_ (l := l) (i := 3) (by omega)
    have q3 := tb3 b3 e3
    by_cases k5 : b3.toNat < 128
    · exact val (r := 0) (by unfold signN; (repeat' split) <;> omega) (sign_jt g l b0 h0 e0 ⟨by omega, cj⟩ 0 (by omega) (tail4_lo3 g l 128 191 b1 e1 k1 k2 b2 e2 (by omega) (by omega) b3 e3 k5))
    by_cases k6 : 191 < b3.toNat
    · exact val (r := 0) (by unfold signN; (repeat' split) <;> omega) (sign_jt g l b0 h0 e0 ⟨by omega, cj⟩ 0 (by omega) (tail4_hi3 g l 128 191 b1 e1 k1 k2 b2 e2 (by omega) (by omega) b3 e3 k6))
    exact val (r := 4) (by unfold signN; (repeat' split) <;> omega) (sign_jt g l b0 h0 e0 ⟨by omega, cj⟩ 4 (by omega) (tail4_ok g l 128 191 b1 e1 k1 k2 b2 e2 (by omega) (by omega) b3 e3 (by omega) (by omega)))
  by_cases ck : b0.toNat = 244
  · by_cases hs : l.length < 4
    · exact val (r := 0) (by unfold signN; (repeat' split) <;> omega) (sign_ks g l b0 h0 e0 ck hs)
    obtain ⟨b1, e1⟩ := at_ (l := l) (i := 1) (by omega)
    have q1 := tb1 b1 e1
    by_cases k1 : (b1.toNat : Int) < 128
    · exact val (r := 0) (by unfold signN; (repeat' split) <;> omega) (sign_kt g l b0 h0 e0 ck 0 (by omega) (tail4_lo g l 128 143 b1 e1 k1))
    by_cases k2 : 143 < (b1.toNat : Int)
    · exact val (r := 0) (by unfold signN; (repeat' split) <;> omega) (sign_kt g l b0 h0 e0 ck 0 (by omega) (tail4_hi g l 128 143 b1 e1 k1 k2))
    obtain ⟨b2, e2⟩ := at_ (l := l) (i := 2) (by omega)
    have q2 := tb2 b2 e2
    by_cases k3 : b2.toNat < 128
    · exact val (r := 0) (by unfold signN; (repeat' split) <;> omega) (sign_kt g l b0 h0 e0 ck 0 (by omega) (tail4_lo2 g l 128 143 b1 e1 k1 k2 b2 e2 k3))
    by_cases k4 : 191 < b2.toNat
    · exact val (r := 0) (by unfold signN; (repeat' split) <;> omega) (sign_kt g l b0 h0 e0 ck 0 (by omega) (tail4_hi2 g l 128 143 b1 e1 k1 k2 b2 e2 k4))
    obtain ⟨b3, e3⟩ := at_ (l := l) (i := 3) (by omega)
    have q3 := tb3 b3 e3
    by_cases k5 : b3.toNat < 128
    · exact val (r := 0) (by unfold signN; (repeat' split) <;> omega) (sign_kt g l b0 h0 e0 ck 0 (by omega) (tail4_lo3 g l 128 143 b1 e1 k1 k2 b2 e2 (by omega) (by omega) b3 e3 k5))
    by_cases k6 : 191 < b3.toNat
    · exact val (r := 0) (by unfold signN; (repeat' split) <;> omega) (sign_kt g l b0 h0 e0 ck 0 (by omega) (tail4_hi3 g l 128 143 b1 e1 k1 k2 b2 e2 (by omega) (by omega) b3 e3 k6))
    exact val (r := 4) (by unfold signN; (repeat' split) <;> omega) (sign_kt g l b0 h0 e0 ck 4 (by omega) (tail4_ok g l 128 143 b1 e1 k1 k2 b2 e2 (by omega) (by omega) b3 e3 (by omega) (by omega)))
  omega
end Go.Proofs.YtdlolkogifigpaaDoor
