/- Merged texts: Zv1 Zv2 PSign Sy1 Zr1 Sn1 Sy5 Sy7 Sy11 Zy2 Zy1 Sv1 Zy4. No statement of the program is proved here. -/
import Derived.Test.YthjphllpkcnehaaGreatDoorM3
import Derived.Lib.TrimUEq
set_option linter.unusedSimpArgs false
set_option linter.unusedVariables false
section
/- Package val's small functions, walked: which values may be, which type they fit. No statement of the program is proved here. -/
namespace Go.Proofs.YthjphllpkcnehaaGreatDoor
open Go Go.RowKit Go.Mor Go.Sh Go.Sh.Cd1
set_option maxRecDepth 100000
set_option maxHeartbeats 4000000
theorem e0 : (⟨#[]⟩ : ByteArray) = str [] := rfl
theorem decode_str (l : List UInt8) (p : Nat) : Utf8.decode (str l) p = Lib.decodeL (l.drop p) := by rw [← Lib.decodeL_drop, str_toList]
def B (b : Bool) : TV := .pv (.v (.bool b))
theorem beqI (a b : Int) : (a == b) = decide (a = b) := by rw [Bool.eq_iff_iff]; simp
theorem plain_ok (g : Sh.Glob) (r : Nat) : SCalls Tryz.prog g 120 [.pv (.v (.int .i32 (r : Int)))] [] (B (plainR r)) [] := by
  refine call_of0 hmix tf_val_plain rfl ?_
  have h1 : decide ((32 : Int) ≤ (r : Int)) = decide (32 ≤ r) := by rw [Bool.eq_iff_iff]; simp; omega
  have h2 : decide ((r : Int) = 127) = (r == 127) := by rw [Bool.eq_iff_iff]; simp; omega
  unfold plainR B
  by_cases h : 32 ≤ r
  · have d1 : (32 : Int) ≤ (r : Int) := by omega
    simp only [vcA, Nat.reduceLT, Int.reduceEq, Int.reduceAdd, Int.reduceSub, Nat.reduceBEq, Nat.reduceEqDiff, reduceCtorEq, Nat.reduceAdd, Nat.reduceSub, Nat.reduceMul, Nat.reduceLeDiff, Int.reduceToNat, Int.reduceLT, Int.reduceLE, Int.reduceNeg, reduceIte, pvC_fgt, pvC_ids, pvC_ren, pvC_len, I, S, tv, nv, tyT, RawV.tv, R1.row, rowsGet, rowsLen, row4, Vk, Vn, Vs, Vl, d1, h2, h]
    rfl
  · have d1 : ¬ (32 : Int) ≤ (r : Int) := by omega
    simp only [vcA, Nat.reduceLT, Int.reduceEq, Int.reduceAdd, Int.reduceSub, Nat.reduceBEq, Nat.reduceEqDiff, reduceCtorEq, Nat.reduceAdd, Nat.reduceSub, Nat.reduceMul, Nat.reduceLeDiff, Int.reduceToNat, Int.reduceLT, Int.reduceLE, Int.reduceNeg, reduceIte, pvC_fgt, pvC_ids, pvC_ren, pvC_len, I, S, tv, nv, tyT, RawV.tv, R1.row, rowsGet, rowsLen, row4, Vk, Vn, Vs, Vl, d1, h]
theorem validString_ok (m : Nat) (l : List UInt8) (hl : l.length ≤ 9223372036854775807) : SCalls Tryz.prog (gl0 m) 119 [S (str l)] [] (B (Lib.validD l)) [] := by
  have := prim0_sound m 119 [S (str l)] [] (B (Lib.validD l)) [] (by simp [prim0, S, B, Nat.beq, str_size', hl, str_toList])
  exact this
theorem rightText_ok0 (m : Nat) (l : List UInt8) (hl : l.length ≤ 9223372036854775807) : SCalls Tryz.prog (gl0 m) 64 [S (str l)] [] (B (rightText l)) [] := by
  refine call_of0 hmix tf_val_rightText rfl ?_
  have HV := validString_ok m l hl
  unfold rightText B at *
  by_cases h60 : (l.length : Int) ≤ 60
  · have d1 : ¬ (60 : Int) < (l.length : Int) := by omega
    have h60' : l.length ≤ 60 := by omega
    simp only [vcA, Nat.reduceLT, Int.reduceEq, Int.reduceAdd, Int.reduceSub, Nat.reduceBEq, Nat.reduceEqDiff, reduceCtorEq, Nat.reduceAdd, Nat.reduceSub, Nat.reduceMul, Nat.reduceLeDiff, Int.reduceToNat, Int.reduceLT, Int.reduceLE, Int.reduceNeg, reduceIte, pvC_fgt, pvC_ids, pvC_ren, pvC_len, I, S, tv, nv, tyT, RawV.tv, R1.row, rowsGet, rowsLen, row4, Vk, Vn, Vs, Vl, d1]
    (with_reducible apply v_call); (· simp only [vcA, Nat.reduceLT, Int.reduceEq, Int.reduceAdd, Int.reduceSub, Nat.reduceBEq, Nat.reduceEqDiff, reduceCtorEq, Nat.reduceAdd, Nat.reduceSub, Nat.reduceMul, Nat.reduceLeDiff, Int.reduceToNat, Int.reduceLT, Int.reduceLE, Int.reduceNeg, reduceIte, pvC_fgt, pvC_ids, pvC_ren, pvC_len, I, S, tv, nv, tyT, RawV.tv, R1.row, rowsGet, rowsLen, row4, Vk, Vn, Vs, Vl]; with_reducible rfl); (· exact HV); (· first | rfl | (simp only [moOk, nbeq, nble, List.length_nil, beq_self_eq_true, Bool.true_and, Bool.and_true, Bool.and_eq_true, decide_eq_true_eq]; omega)); (· simp only [vcA, Nat.reduceLT, Int.reduceEq, Int.reduceAdd, Int.reduceSub, Nat.reduceBEq, Nat.reduceEqDiff, reduceCtorEq, Nat.reduceAdd, Nat.reduceSub, Nat.reduceMul, Nat.reduceLeDiff, Int.reduceToNat, Int.reduceLT, Int.reduceLE, Int.reduceNeg, reduceIte, pvC_fgt, pvC_ids, pvC_ren, pvC_len, I, S, tv, nv, tyT, RawV.tv, R1.row, rowsGet, rowsLen, row4, Vk, Vn, Vs, Vl]; with_reducible rfl)
    cases hv : Lib.validD l
    · simp only [vcA, Nat.reduceLT, Int.reduceEq, Int.reduceAdd, Int.reduceSub, Nat.reduceBEq, Nat.reduceEqDiff, reduceCtorEq, Nat.reduceAdd, Nat.reduceSub, Nat.reduceMul, Nat.reduceLeDiff, Int.reduceToNat, Int.reduceLT, Int.reduceLE, Int.reduceNeg, reduceIte, pvC_fgt, pvC_ids, pvC_ren, pvC_len, I, S, tv, nv, tyT, RawV.tv, R1.row, rowsGet, rowsLen, row4, Vk, Vn, Vs, Vl]
    simp only [vcA, Nat.reduceLT, Int.reduceEq, Int.reduceAdd, Int.reduceSub, Nat.reduceBEq, Nat.reduceEqDiff, reduceCtorEq, Nat.reduceAdd, Nat.reduceSub, Nat.reduceMul, Nat.reduceLeDiff, Int.reduceToNat, Int.reduceLT, Int.reduceLE, Int.reduceNeg, reduceIte, pvC_fgt, pvC_ids, pvC_ren, pvC_len, I, S, tv, nv, tyT, RawV.tv, R1.row, rowsGet, rowsLen, row4, Vk, Vn, Vs, Vl]
    refine v_loop (σ := {p : Nat // p ≤ l.length ∧ plainD l = plainD (l.drop p)}) (fun p => ⟨[(14, .it 14)], [], [], [(14, (str l, p.1))]⟩) (fun p => l.length - p.1) ⟨0, Nat.zero_le _, rfl⟩ (lw_eq rfl) ?_
    rintro ⟨p, hp, hd⟩
    by_cases hlt : p < l.length
    · have hne : l.drop p ≠ [] := by rw [Ne, List.drop_eq_nil_iff]; omega
      rw [plainD_step _ hne] at hd
      have hle := Lib.decodeL_le (l.drop p) hne
      have hw := Lib.decodeL_width (l.drop p)
      rw [List.length_drop] at hle
      have HP := plain_ok (gl0 m) (Lib.decodeL (l.drop p)).1
      unfold B at HP
      simp only [vcA, Nat.reduceLT, Int.reduceEq, Int.reduceAdd, Int.reduceSub, Nat.reduceBEq, Nat.reduceEqDiff, reduceCtorEq, Nat.reduceAdd, Nat.reduceSub, Nat.reduceMul, Nat.reduceLeDiff, Int.reduceToNat, Int.reduceLT, Int.reduceLE, Int.reduceNeg, reduceIte, pvC_fgt, pvC_ids, pvC_ren, pvC_len, I, S, tv, nv, tyT, RawV.tv, R1.row, rowsGet, rowsLen, row4, Vk, Vn, Vs, Vl, hlt, decode_str]
      (with_reducible apply v_call); (· simp only [vcA, Nat.reduceLT, Int.reduceEq, Int.reduceAdd, Int.reduceSub, Nat.reduceBEq, Nat.reduceEqDiff, reduceCtorEq, Nat.reduceAdd, Nat.reduceSub, Nat.reduceMul, Nat.reduceLeDiff, Int.reduceToNat, Int.reduceLT, Int.reduceLE, Int.reduceNeg, reduceIte, pvC_fgt, pvC_ids, pvC_ren, pvC_len, I, S, tv, nv, tyT, RawV.tv, R1.row, rowsGet, rowsLen, row4, Vk, Vn, Vs, Vl]; with_reducible rfl); (· exact HP); (· first | rfl | (simp only [moOk, nbeq, nble, List.length_nil, beq_self_eq_true, Bool.true_and, Bool.and_true, Bool.and_eq_true, decide_eq_true_eq]; omega)); (· simp only [vcA, Nat.reduceLT, Int.reduceEq, Int.reduceAdd, Int.reduceSub, Nat.reduceBEq, Nat.reduceEqDiff, reduceCtorEq, Nat.reduceAdd, Nat.reduceSub, Nat.reduceMul, Nat.reduceLeDiff, Int.reduceToNat, Int.reduceLT, Int.reduceLE, Int.reduceNeg, reduceIte, pvC_fgt, pvC_ids, pvC_ren, pvC_len, I, S, tv, nv, tyT, RawV.tv, R1.row, rowsGet, rowsLen, row4, Vk, Vn, Vs, Vl]; with_reducible rfl)
      cases hr : plainR (Lib.decodeL (l.drop p)).1
      · rw [hr] at hd
        simp only [vcA, Nat.reduceLT, Int.reduceEq, Int.reduceAdd, Int.reduceSub, Nat.reduceBEq, Nat.reduceEqDiff, reduceCtorEq, Nat.reduceAdd, Nat.reduceSub, Nat.reduceMul, Nat.reduceLeDiff, Int.reduceToNat, Int.reduceLT, Int.reduceLE, Int.reduceNeg, reduceIte, pvC_fgt, pvC_ids, pvC_ren, pvC_len, I, S, tv, nv, tyT, RawV.tv, R1.row, rowsGet, rowsLen, row4, Vk, Vn, Vs, Vl]
        simp [hd]
      · simp only [vcA, Nat.reduceLT, Int.reduceEq, Int.reduceAdd, Int.reduceSub, Nat.reduceBEq, Nat.reduceEqDiff, reduceCtorEq, Nat.reduceAdd, Nat.reduceSub, Nat.reduceMul, Nat.reduceLeDiff, Int.reduceToNat, Int.reduceLT, Int.reduceLE, Int.reduceNeg, reduceIte, pvC_fgt, pvC_ids, pvC_ren, pvC_len, I, S, tv, nv, tyT, RawV.tv, R1.row, rowsGet, rowsLen, row4, Vk, Vn, Vs, Vl]
        rw [hr, Bool.true_and, List.drop_drop] at hd
        refine loopK_of ⟨p + (Lib.decodeL (l.drop p)).2, by omega, hd⟩ (by show l.length - (p + _) < l.length - p; omega) ?_
        apply lw_of <;> simp [leL, lk, sv, Nat.beq, I, S, ES.kill, has, drp, nilT]
    · simp only [vcA, Nat.reduceLT, Int.reduceEq, Int.reduceAdd, Int.reduceSub, Nat.reduceBEq, Nat.reduceEqDiff, reduceCtorEq, Nat.reduceAdd, Nat.reduceSub, Nat.reduceMul, Nat.reduceLeDiff, Int.reduceToNat, Int.reduceLT, Int.reduceLE, Int.reduceNeg, reduceIte, pvC_fgt, pvC_ids, pvC_ren, pvC_len, I, S, tv, nv, tyT, RawV.tv, R1.row, rowsGet, rowsLen, row4, Vk, Vn, Vs, Vl, hlt, h60']
      have hnil : l.drop p = [] := List.drop_eq_nil_of_le (by omega)
      rw [hnil] at hd
      rw [hd]; rfl
  · have d1 : (60 : Int) < (l.length : Int) := by omega
    have h60' : ¬ l.length ≤ 60 := by omega
    simp only [vcA, Nat.reduceLT, Int.reduceEq, Int.reduceAdd, Int.reduceSub, Nat.reduceBEq, Nat.reduceEqDiff, reduceCtorEq, Nat.reduceAdd, Nat.reduceSub, Nat.reduceMul, Nat.reduceLeDiff, Int.reduceToNat, Int.reduceLT, Int.reduceLE, Int.reduceNeg, reduceIte, pvC_fgt, pvC_ids, pvC_ren, pvC_len, I, S, tv, nv, tyT, RawV.tv, R1.row, rowsGet, rowsLen, row4, Vk, Vn, Vs, Vl, d1]
    simp [h60']
theorem bare_ok (g : Sh.Glob) (x : V) : SCalls Tryz.prog g 63 [tv x] [] (B (bare x)) [] := by
  refine call_of0 hmix tf_val_bare rfl ?_
  have h1 : decide ((x.l.length : Int) = 0) = (x.l.length == 0) := by rw [Bool.eq_iff_iff]; simp
  unfold bare B
  cases h : x.s == []
  · simp only [vcA, Nat.reduceLT, Int.reduceEq, Int.reduceAdd, Int.reduceSub, Nat.reduceBEq, Nat.reduceEqDiff, reduceCtorEq, Nat.reduceAdd, Nat.reduceSub, Nat.reduceMul, Nat.reduceLeDiff, Int.reduceToNat, Int.reduceLT, Int.reduceLE, Int.reduceNeg, reduceIte, pvC_fgt, pvC_ids, pvC_ren, pvC_len, I, S, tv, nv, tyT, RawV.tv, R1.row, rowsGet, rowsLen, row4, Vk, Vn, Vs, Vl, e0, h]
  · simp only [vcA, Nat.reduceLT, Int.reduceEq, Int.reduceAdd, Int.reduceSub, Nat.reduceBEq, Nat.reduceEqDiff, reduceCtorEq, Nat.reduceAdd, Nat.reduceSub, Nat.reduceMul, Nat.reduceLeDiff, Int.reduceToNat, Int.reduceLT, Int.reduceLE, Int.reduceNeg, reduceIte, pvC_fgt, pvC_ids, pvC_ren, pvC_len, I, S, tv, nv, tyT, RawV.tv, R1.row, rowsGet, rowsLen, row4, Vk, Vn, Vs, Vl, e0, h, h1]
theorem rightID_ok (g : Sh.Glob) (n : Int) : SCalls Tryz.prog g 65 [I n] [] (B (rightID n)) [] := by
  refine call_of0 hmix tf_val_rightID rfl ?_
  unfold B
  simp only [vcA, Nat.reduceLT, Int.reduceEq, Int.reduceAdd, Int.reduceSub, Nat.reduceBEq, Nat.reduceEqDiff, reduceCtorEq, Nat.reduceAdd, Nat.reduceSub, Nat.reduceMul, Nat.reduceLeDiff, Int.reduceToNat, Int.reduceLT, Int.reduceLE, Int.reduceNeg, reduceIte, pvC_fgt, pvC_ids, pvC_ren, pvC_len, I, S, tv, nv, tyT, RawV.tv, R1.row, rowsGet, rowsLen, row4, Vk, Vn, Vs, Vl]
  unfold rightID
  repeat' (first | (apply And.intro) | (intro _))
  all_goals (first | rfl | (simp; omega) | (simp_all; done) | (simp_all; omega))
theorem right1_mk (k n : Int) (s : List UInt8) (l : List V) : right1 (.mk k n s l) = if k = 0 then bare (.mk k n s l) && n == 0
  else if k = 1 then bare (.mk k n s l) && decide (-1000000000000000 ≤ n) && decide (n ≤ 1000000000000000)
  else if k = 2 then n == 0 && l.length == 0 && rightText s
  else if k = 3 ∨ k = 4 then bare (.mk k n s l) && rightID n
  else false := rfl
theorem right1_ok0 (m : Nat) (x : V) (hs : TextsOk x) (h5 : x.k ≠ 5) : SCalls Tryz.prog (gl0 m) 28 [tv x] [] (B (right1 x)) [] := by
  obtain ⟨k, n, s, l⟩ := x
  have HB := bare_ok (gl0 m) (.mk k n s l)
  have HI := rightID_ok (gl0 m) n
  have HT := rightText_ok0 m s hs
  have hln : decide ((l.length : Int) = 0) = (l.length == 0) := by rw [Bool.eq_iff_iff]; simp
  have k5 : ¬ k = 5 := h5
  clear h5 hs
  rw [right1_mk]
  generalize bare (.mk k n s l) = b at HB ⊢
  refine call_of0 hmix tf_val_Right rfl ?_
  unfold B at *
  by_cases k0 : k = 0
  · subst k0
    have hn0 : decide (n = 0) = (n == 0) := by rw [Bool.eq_iff_iff]; simp
    simp only [vcA, Nat.reduceLT, Int.reduceEq, Int.reduceAdd, Int.reduceSub, Nat.reduceBEq, Nat.reduceEqDiff, reduceCtorEq, Nat.reduceAdd, Nat.reduceSub, Nat.reduceMul, Nat.reduceLeDiff, Int.reduceToNat, Int.reduceLT, Int.reduceLE, Int.reduceNeg, reduceIte, pvC_fgt, pvC_ids, pvC_ren, pvC_len, I, S, tv, nv, tyT, RawV.tv, R1.row, rowsGet, rowsLen, row4, Vk, Vn, Vs, Vl]
    (with_reducible apply v_call); (· simp only [vcA, Nat.reduceLT, Int.reduceEq, Int.reduceAdd, Int.reduceSub, Nat.reduceBEq, Nat.reduceEqDiff, reduceCtorEq, Nat.reduceAdd, Nat.reduceSub, Nat.reduceMul, Nat.reduceLeDiff, Int.reduceToNat, Int.reduceLT, Int.reduceLE, Int.reduceNeg, reduceIte, pvC_fgt, pvC_ids, pvC_ren, pvC_len, I, S, tv, nv, tyT, RawV.tv, R1.row, rowsGet, rowsLen, row4, Vk, Vn, Vs, Vl]; with_reducible rfl); (· exact HB); (· first | rfl | (simp only [moOk, nbeq, nble, List.length_nil, beq_self_eq_true, Bool.true_and, Bool.and_true, Bool.and_eq_true, decide_eq_true_eq]; omega)); (· simp only [vcA, Nat.reduceLT, Int.reduceEq, Int.reduceAdd, Int.reduceSub, Nat.reduceBEq, Nat.reduceEqDiff, reduceCtorEq, Nat.reduceAdd, Nat.reduceSub, Nat.reduceMul, Nat.reduceLeDiff, Int.reduceToNat, Int.reduceLT, Int.reduceLE, Int.reduceNeg, reduceIte, pvC_fgt, pvC_ids, pvC_ren, pvC_len, I, S, tv, nv, tyT, RawV.tv, R1.row, rowsGet, rowsLen, row4, Vk, Vn, Vs, Vl]; with_reducible rfl)
    cases b <;> simp only [vcA, Nat.reduceLT, Int.reduceEq, Int.reduceAdd, Int.reduceSub, Nat.reduceBEq, Nat.reduceEqDiff, reduceCtorEq, Nat.reduceAdd, Nat.reduceSub, Nat.reduceMul, Nat.reduceLeDiff, Int.reduceToNat, Int.reduceLT, Int.reduceLE, Int.reduceNeg, reduceIte, pvC_fgt, pvC_ids, pvC_ren, pvC_len, I, S, tv, nv, tyT, RawV.tv, R1.row, rowsGet, rowsLen, row4, Vk, Vn, Vs, Vl, hn0]
  rw [if_neg k0]
  by_cases k1 : k = 1
  · subst k1
    simp only [vcA, Nat.reduceLT, Int.reduceEq, Int.reduceAdd, Int.reduceSub, Nat.reduceBEq, Nat.reduceEqDiff, reduceCtorEq, Nat.reduceAdd, Nat.reduceSub, Nat.reduceMul, Nat.reduceLeDiff, Int.reduceToNat, Int.reduceLT, Int.reduceLE, Int.reduceNeg, reduceIte, pvC_fgt, pvC_ids, pvC_ren, pvC_len, I, S, tv, nv, tyT, RawV.tv, R1.row, rowsGet, rowsLen, row4, Vk, Vn, Vs, Vl]
    (with_reducible apply v_call); (· simp only [vcA, Nat.reduceLT, Int.reduceEq, Int.reduceAdd, Int.reduceSub, Nat.reduceBEq, Nat.reduceEqDiff, reduceCtorEq, Nat.reduceAdd, Nat.reduceSub, Nat.reduceMul, Nat.reduceLeDiff, Int.reduceToNat, Int.reduceLT, Int.reduceLE, Int.reduceNeg, reduceIte, pvC_fgt, pvC_ids, pvC_ren, pvC_len, I, S, tv, nv, tyT, RawV.tv, R1.row, rowsGet, rowsLen, row4, Vk, Vn, Vs, Vl]; with_reducible rfl); (· exact HB); (· first | rfl | (simp only [moOk, nbeq, nble, List.length_nil, beq_self_eq_true, Bool.true_and, Bool.and_true, Bool.and_eq_true, decide_eq_true_eq]; omega)); (· simp only [vcA, Nat.reduceLT, Int.reduceEq, Int.reduceAdd, Int.reduceSub, Nat.reduceBEq, Nat.reduceEqDiff, reduceCtorEq, Nat.reduceAdd, Nat.reduceSub, Nat.reduceMul, Nat.reduceLeDiff, Int.reduceToNat, Int.reduceLT, Int.reduceLE, Int.reduceNeg, reduceIte, pvC_fgt, pvC_ids, pvC_ren, pvC_len, I, S, tv, nv, tyT, RawV.tv, R1.row, rowsGet, rowsLen, row4, Vk, Vn, Vs, Vl]; with_reducible rfl)
    cases b
    · simp only [vcA, Nat.reduceLT, Int.reduceEq, Int.reduceAdd, Int.reduceSub, Nat.reduceBEq, Nat.reduceEqDiff, reduceCtorEq, Nat.reduceAdd, Nat.reduceSub, Nat.reduceMul, Nat.reduceLeDiff, Int.reduceToNat, Int.reduceLT, Int.reduceLE, Int.reduceNeg, reduceIte, pvC_fgt, pvC_ids, pvC_ren, pvC_len, I, S, tv, nv, tyT, RawV.tv, R1.row, rowsGet, rowsLen, row4, Vk, Vn, Vs, Vl]
    · by_cases q1 : -1000000000000000 ≤ n <;> by_cases q2 : n ≤ 1000000000000000 <;> simp only [vcA, Nat.reduceLT, Int.reduceEq, Int.reduceAdd, Int.reduceSub, Nat.reduceBEq, Nat.reduceEqDiff, reduceCtorEq, Nat.reduceAdd, Nat.reduceSub, Nat.reduceMul, Nat.reduceLeDiff, Int.reduceToNat, Int.reduceLT, Int.reduceLE, Int.reduceNeg, reduceIte, pvC_fgt, pvC_ids, pvC_ren, pvC_len, I, S, tv, nv, tyT, RawV.tv, R1.row, rowsGet, rowsLen, row4, Vk, Vn, Vs, Vl, q1, q2]
  rw [if_neg k1]
  by_cases k2 : k = 2
  · subst k2
    by_cases n0 : n = 0
    · subst n0
      cases hl : l.length == 0
      · simp only [vcA, Nat.reduceLT, Int.reduceEq, Int.reduceAdd, Int.reduceSub, Nat.reduceBEq, Nat.reduceEqDiff, reduceCtorEq, Nat.reduceAdd, Nat.reduceSub, Nat.reduceMul, Nat.reduceLeDiff, Int.reduceToNat, Int.reduceLT, Int.reduceLE, Int.reduceNeg, reduceIte, pvC_fgt, pvC_ids, pvC_ren, pvC_len, I, S, tv, nv, tyT, RawV.tv, R1.row, rowsGet, rowsLen, row4, Vk, Vn, Vs, Vl, hln, hl]
      · simp only [vcA, Nat.reduceLT, Int.reduceEq, Int.reduceAdd, Int.reduceSub, Nat.reduceBEq, Nat.reduceEqDiff, reduceCtorEq, Nat.reduceAdd, Nat.reduceSub, Nat.reduceMul, Nat.reduceLeDiff, Int.reduceToNat, Int.reduceLT, Int.reduceLE, Int.reduceNeg, reduceIte, pvC_fgt, pvC_ids, pvC_ren, pvC_len, I, S, tv, nv, tyT, RawV.tv, R1.row, rowsGet, rowsLen, row4, Vk, Vn, Vs, Vl, hln, hl]
        (with_reducible apply v_call); (· simp only [vcA, Nat.reduceLT, Int.reduceEq, Int.reduceAdd, Int.reduceSub, Nat.reduceBEq, Nat.reduceEqDiff, reduceCtorEq, Nat.reduceAdd, Nat.reduceSub, Nat.reduceMul, Nat.reduceLeDiff, Int.reduceToNat, Int.reduceLT, Int.reduceLE, Int.reduceNeg, reduceIte, pvC_fgt, pvC_ids, pvC_ren, pvC_len, I, S, tv, nv, tyT, RawV.tv, R1.row, rowsGet, rowsLen, row4, Vk, Vn, Vs, Vl]; with_reducible rfl); (· exact HT); (· first | rfl | (simp only [moOk, nbeq, nble, List.length_nil, beq_self_eq_true, Bool.true_and, Bool.and_true, Bool.and_eq_true, decide_eq_true_eq]; omega)); (· simp only [vcA, Nat.reduceLT, Int.reduceEq, Int.reduceAdd, Int.reduceSub, Nat.reduceBEq, Nat.reduceEqDiff, reduceCtorEq, Nat.reduceAdd, Nat.reduceSub, Nat.reduceMul, Nat.reduceLeDiff, Int.reduceToNat, Int.reduceLT, Int.reduceLE, Int.reduceNeg, reduceIte, pvC_fgt, pvC_ids, pvC_ren, pvC_len, I, S, tv, nv, tyT, RawV.tv, R1.row, rowsGet, rowsLen, row4, Vk, Vn, Vs, Vl]; with_reducible rfl)
        simp only [vcA, Nat.reduceLT, Int.reduceEq, Int.reduceAdd, Int.reduceSub, Nat.reduceBEq, Nat.reduceEqDiff, reduceCtorEq, Nat.reduceAdd, Nat.reduceSub, Nat.reduceMul, Nat.reduceLeDiff, Int.reduceToNat, Int.reduceLT, Int.reduceLE, Int.reduceNeg, reduceIte, pvC_fgt, pvC_ids, pvC_ren, pvC_len, I, S, tv, nv, tyT, RawV.tv, R1.row, rowsGet, rowsLen, row4, Vk, Vn, Vs, Vl]
    · have hn0 : (n == 0) = false := by simpa using n0
      simp only [vcA, Nat.reduceLT, Int.reduceEq, Int.reduceAdd, Int.reduceSub, Nat.reduceBEq, Nat.reduceEqDiff, reduceCtorEq, Nat.reduceAdd, Nat.reduceSub, Nat.reduceMul, Nat.reduceLeDiff, Int.reduceToNat, Int.reduceLT, Int.reduceLE, Int.reduceNeg, reduceIte, pvC_fgt, pvC_ids, pvC_ren, pvC_len, I, S, tv, nv, tyT, RawV.tv, R1.row, rowsGet, rowsLen, row4, Vk, Vn, Vs, Vl, n0, hn0]
  rw [if_neg k2]
  by_cases k3 : k = 3
  · subst k3
    simp only [vcA, Nat.reduceLT, Int.reduceEq, Int.reduceAdd, Int.reduceSub, Nat.reduceBEq, Nat.reduceEqDiff, reduceCtorEq, Nat.reduceAdd, Nat.reduceSub, Nat.reduceMul, Nat.reduceLeDiff, Int.reduceToNat, Int.reduceLT, Int.reduceLE, Int.reduceNeg, reduceIte, pvC_fgt, pvC_ids, pvC_ren, pvC_len, I, S, tv, nv, tyT, RawV.tv, R1.row, rowsGet, rowsLen, row4, Vk, Vn, Vs, Vl]
    (with_reducible apply v_call); (· simp only [vcA, Nat.reduceLT, Int.reduceEq, Int.reduceAdd, Int.reduceSub, Nat.reduceBEq, Nat.reduceEqDiff, reduceCtorEq, Nat.reduceAdd, Nat.reduceSub, Nat.reduceMul, Nat.reduceLeDiff, Int.reduceToNat, Int.reduceLT, Int.reduceLE, Int.reduceNeg, reduceIte, pvC_fgt, pvC_ids, pvC_ren, pvC_len, I, S, tv, nv, tyT, RawV.tv, R1.row, rowsGet, rowsLen, row4, Vk, Vn, Vs, Vl]; with_reducible rfl); (· exact HB); (· first | rfl | (simp only [moOk, nbeq, nble, List.length_nil, beq_self_eq_true, Bool.true_and, Bool.and_true, Bool.and_eq_true, decide_eq_true_eq]; omega)); (· simp only [vcA, Nat.reduceLT, Int.reduceEq, Int.reduceAdd, Int.reduceSub, Nat.reduceBEq, Nat.reduceEqDiff, reduceCtorEq, Nat.reduceAdd, Nat.reduceSub, Nat.reduceMul, Nat.reduceLeDiff, Int.reduceToNat, Int.reduceLT, Int.reduceLE, Int.reduceNeg, reduceIte, pvC_fgt, pvC_ids, pvC_ren, pvC_len, I, S, tv, nv, tyT, RawV.tv, R1.row, rowsGet, rowsLen, row4, Vk, Vn, Vs, Vl]; with_reducible rfl)
    cases b
    · simp only [vcA, Nat.reduceLT, Int.reduceEq, Int.reduceAdd, Int.reduceSub, Nat.reduceBEq, Nat.reduceEqDiff, reduceCtorEq, Nat.reduceAdd, Nat.reduceSub, Nat.reduceMul, Nat.reduceLeDiff, Int.reduceToNat, Int.reduceLT, Int.reduceLE, Int.reduceNeg, reduceIte, pvC_fgt, pvC_ids, pvC_ren, pvC_len, I, S, tv, nv, tyT, RawV.tv, R1.row, rowsGet, rowsLen, row4, Vk, Vn, Vs, Vl]
    · simp only [vcA, Nat.reduceLT, Int.reduceEq, Int.reduceAdd, Int.reduceSub, Nat.reduceBEq, Nat.reduceEqDiff, reduceCtorEq, Nat.reduceAdd, Nat.reduceSub, Nat.reduceMul, Nat.reduceLeDiff, Int.reduceToNat, Int.reduceLT, Int.reduceLE, Int.reduceNeg, reduceIte, pvC_fgt, pvC_ids, pvC_ren, pvC_len, I, S, tv, nv, tyT, RawV.tv, R1.row, rowsGet, rowsLen, row4, Vk, Vn, Vs, Vl]
      (with_reducible apply v_call); (· simp only [vcA, Nat.reduceLT, Int.reduceEq, Int.reduceAdd, Int.reduceSub, Nat.reduceBEq, Nat.reduceEqDiff, reduceCtorEq, Nat.reduceAdd, Nat.reduceSub, Nat.reduceMul, Nat.reduceLeDiff, Int.reduceToNat, Int.reduceLT, Int.reduceLE, Int.reduceNeg, reduceIte, pvC_fgt, pvC_ids, pvC_ren, pvC_len, I, S, tv, nv, tyT, RawV.tv, R1.row, rowsGet, rowsLen, row4, Vk, Vn, Vs, Vl]; with_reducible rfl); (· exact HI); (· first | rfl | (simp only [moOk, nbeq, nble, List.length_nil, beq_self_eq_true, Bool.true_and, Bool.and_true, Bool.and_eq_true, decide_eq_true_eq]; omega)); (· simp only [vcA, Nat.reduceLT, Int.reduceEq, Int.reduceAdd, Int.reduceSub, Nat.reduceBEq, Nat.reduceEqDiff, reduceCtorEq, Nat.reduceAdd, Nat.reduceSub, Nat.reduceMul, Nat.reduceLeDiff, Int.reduceToNat, Int.reduceLT, Int.reduceLE, Int.reduceNeg, reduceIte, pvC_fgt, pvC_ids, pvC_ren, pvC_len, I, S, tv, nv, tyT, RawV.tv, R1.row, rowsGet, rowsLen, row4, Vk, Vn, Vs, Vl]; with_reducible rfl)
      simp only [vcA, Nat.reduceLT, Int.reduceEq, Int.reduceAdd, Int.reduceSub, Nat.reduceBEq, Nat.reduceEqDiff, reduceCtorEq, Nat.reduceAdd, Nat.reduceSub, Nat.reduceMul, Nat.reduceLeDiff, Int.reduceToNat, Int.reduceLT, Int.reduceLE, Int.reduceNeg, reduceIte, pvC_fgt, pvC_ids, pvC_ren, pvC_len, I, S, tv, nv, tyT, RawV.tv, R1.row, rowsGet, rowsLen, row4, Vk, Vn, Vs, Vl]
  by_cases k4 : k = 4
  · subst k4
    simp only [vcA, Nat.reduceLT, Int.reduceEq, Int.reduceAdd, Int.reduceSub, Nat.reduceBEq, Nat.reduceEqDiff, reduceCtorEq, Nat.reduceAdd, Nat.reduceSub, Nat.reduceMul, Nat.reduceLeDiff, Int.reduceToNat, Int.reduceLT, Int.reduceLE, Int.reduceNeg, reduceIte, pvC_fgt, pvC_ids, pvC_ren, pvC_len, I, S, tv, nv, tyT, RawV.tv, R1.row, rowsGet, rowsLen, row4, Vk, Vn, Vs, Vl]
    (with_reducible apply v_call); (· simp only [vcA, Nat.reduceLT, Int.reduceEq, Int.reduceAdd, Int.reduceSub, Nat.reduceBEq, Nat.reduceEqDiff, reduceCtorEq, Nat.reduceAdd, Nat.reduceSub, Nat.reduceMul, Nat.reduceLeDiff, Int.reduceToNat, Int.reduceLT, Int.reduceLE, Int.reduceNeg, reduceIte, pvC_fgt, pvC_ids, pvC_ren, pvC_len, I, S, tv, nv, tyT, RawV.tv, R1.row, rowsGet, rowsLen, row4, Vk, Vn, Vs, Vl]; with_reducible rfl); (· exact HB); (· first | rfl | (simp only [moOk, nbeq, nble, List.length_nil, beq_self_eq_true, Bool.true_and, Bool.and_true, Bool.and_eq_true, decide_eq_true_eq]; omega)); (· simp only [vcA, Nat.reduceLT, Int.reduceEq, Int.reduceAdd, Int.reduceSub, Nat.reduceBEq, Nat.reduceEqDiff, reduceCtorEq, Nat.reduceAdd, Nat.reduceSub, Nat.reduceMul, Nat.reduceLeDiff, Int.reduceToNat, Int.reduceLT, Int.reduceLE, Int.reduceNeg, reduceIte, pvC_fgt, pvC_ids, pvC_ren, pvC_len, I, S, tv, nv, tyT, RawV.tv, R1.row, rowsGet, rowsLen, row4, Vk, Vn, Vs, Vl]; with_reducible rfl)
    cases b
    · simp only [vcA, Nat.reduceLT, Int.reduceEq, Int.reduceAdd, Int.reduceSub, Nat.reduceBEq, Nat.reduceEqDiff, reduceCtorEq, Nat.reduceAdd, Nat.reduceSub, Nat.reduceMul, Nat.reduceLeDiff, Int.reduceToNat, Int.reduceLT, Int.reduceLE, Int.reduceNeg, reduceIte, pvC_fgt, pvC_ids, pvC_ren, pvC_len, I, S, tv, nv, tyT, RawV.tv, R1.row, rowsGet, rowsLen, row4, Vk, Vn, Vs, Vl]
    · simp only [vcA, Nat.reduceLT, Int.reduceEq, Int.reduceAdd, Int.reduceSub, Nat.reduceBEq, Nat.reduceEqDiff, reduceCtorEq, Nat.reduceAdd, Nat.reduceSub, Nat.reduceMul, Nat.reduceLeDiff, Int.reduceToNat, Int.reduceLT, Int.reduceLE, Int.reduceNeg, reduceIte, pvC_fgt, pvC_ids, pvC_ren, pvC_len, I, S, tv, nv, tyT, RawV.tv, R1.row, rowsGet, rowsLen, row4, Vk, Vn, Vs, Vl]
      (with_reducible apply v_call); (· simp only [vcA, Nat.reduceLT, Int.reduceEq, Int.reduceAdd, Int.reduceSub, Nat.reduceBEq, Nat.reduceEqDiff, reduceCtorEq, Nat.reduceAdd, Nat.reduceSub, Nat.reduceMul, Nat.reduceLeDiff, Int.reduceToNat, Int.reduceLT, Int.reduceLE, Int.reduceNeg, reduceIte, pvC_fgt, pvC_ids, pvC_ren, pvC_len, I, S, tv, nv, tyT, RawV.tv, R1.row, rowsGet, rowsLen, row4, Vk, Vn, Vs, Vl]; with_reducible rfl); (· exact HI); (· first | rfl | (simp only [moOk, nbeq, nble, List.length_nil, beq_self_eq_true, Bool.true_and, Bool.and_true, Bool.and_eq_true, decide_eq_true_eq]; omega)); (· simp only [vcA, Nat.reduceLT, Int.reduceEq, Int.reduceAdd, Int.reduceSub, Nat.reduceBEq, Nat.reduceEqDiff, reduceCtorEq, Nat.reduceAdd, Nat.reduceSub, Nat.reduceMul, Nat.reduceLeDiff, Int.reduceToNat, Int.reduceLT, Int.reduceLE, Int.reduceNeg, reduceIte, pvC_fgt, pvC_ids, pvC_ren, pvC_len, I, S, tv, nv, tyT, RawV.tv, R1.row, rowsGet, rowsLen, row4, Vk, Vn, Vs, Vl]; with_reducible rfl)
      simp only [vcA, Nat.reduceLT, Int.reduceEq, Int.reduceAdd, Int.reduceSub, Nat.reduceBEq, Nat.reduceEqDiff, reduceCtorEq, Nat.reduceAdd, Nat.reduceSub, Nat.reduceMul, Nat.reduceLeDiff, Int.reduceToNat, Int.reduceLT, Int.reduceLE, Int.reduceNeg, reduceIte, pvC_fgt, pvC_ids, pvC_ren, pvC_len, I, S, tv, nv, tyT, RawV.tv, R1.row, rowsGet, rowsLen, row4, Vk, Vn, Vs, Vl]
  simp only [vcA, Nat.reduceLT, Int.reduceEq, Int.reduceAdd, Int.reduceSub, Nat.reduceBEq, Nat.reduceEqDiff, reduceCtorEq, Nat.reduceAdd, Nat.reduceSub, Nat.reduceMul, Nat.reduceLeDiff, Int.reduceToNat, Int.reduceLT, Int.reduceLE, Int.reduceNeg, reduceIte, pvC_fgt, pvC_ids, pvC_ren, pvC_len, I, S, tv, nv, tyT, RawV.tv, R1.row, rowsGet, rowsLen, row4, Vk, Vn, Vs, Vl, k0, k1, k2, k3, k4, k5]
end Go.Proofs.YthjphllpkcnehaaGreatDoor
end

section
/- Package val's functions, walked: Right, Fits, Zero. No statement of the program is proved here. -/
namespace Go.Proofs.YthjphllpkcnehaaGreatDoor
open Go Go.RowKit Go.Mor Go.Sh Go.Sh.Cd1
set_option maxRecDepth 100000
set_option maxHeartbeats 4000000
theorem noItem_ok0 (m : Nat) (x : V) (hs : TextsOk x) : SCalls Tryz.prog (gl0 m) 67 [tv x] [] (B (noItem x)) [] := by
  refine call_of0 hmix tf_val_noItem rfl ?_
  unfold noItem B
  by_cases k5 : x.k = 5
  · have h : (x.k == 5) = true := by simp [k5]
    have d : decide (x.k = 5) = true := by simp [k5]
    simp only [vcA, Nat.reduceLT, Int.reduceEq, Int.reduceAdd, Int.reduceSub, Nat.reduceBEq, Nat.reduceEqDiff, reduceCtorEq, Nat.reduceAdd, Nat.reduceSub, Nat.reduceMul, Nat.reduceLeDiff, Int.reduceToNat, Int.reduceLT, Int.reduceLE, Int.reduceNeg, reduceIte, pvC_fgt, pvC_ids, pvC_ren, pvC_len, I, S, tv, nv, tyT, RawV.tv, R1.row, rowsGet, rowsLen, row4, Vk, Vn, Vs, Vl, d, h]
    rfl
  · have HR := right1_ok0 m x hs k5
    have h : (x.k == 5) = false := by simpa using k5
    unfold B at HR
    simp only [vcA, Nat.reduceLT, Int.reduceEq, Int.reduceAdd, Int.reduceSub, Nat.reduceBEq, Nat.reduceEqDiff, reduceCtorEq, Nat.reduceAdd, Nat.reduceSub, Nat.reduceMul, Nat.reduceLeDiff, Int.reduceToNat, Int.reduceLT, Int.reduceLE, Int.reduceNeg, reduceIte, pvC_fgt, pvC_ids, pvC_ren, pvC_len, I, S, tv, nv, tyT, RawV.tv, R1.row, rowsGet, rowsLen, row4, Vk, Vn, Vs, Vl, k5, h]
    (with_reducible apply v_call); (· simp only [vcA, Nat.reduceLT, Int.reduceEq, Int.reduceAdd, Int.reduceSub, Nat.reduceBEq, Nat.reduceEqDiff, reduceCtorEq, Nat.reduceAdd, Nat.reduceSub, Nat.reduceMul, Nat.reduceLeDiff, Int.reduceToNat, Int.reduceLT, Int.reduceLE, Int.reduceNeg, reduceIte, pvC_fgt, pvC_ids, pvC_ren, pvC_len, I, S, tv, nv, tyT, RawV.tv, R1.row, rowsGet, rowsLen, row4, Vk, Vn, Vs, Vl]; with_reducible rfl); (· exact HR); (· first | rfl | (simp only [moOk, nbeq, nble, List.length_nil, beq_self_eq_true, Bool.true_and, Bool.and_true, Bool.and_eq_true, decide_eq_true_eq]; omega)); (· simp only [vcA, Nat.reduceLT, Int.reduceEq, Int.reduceAdd, Int.reduceSub, Nat.reduceBEq, Nat.reduceEqDiff, reduceCtorEq, Nat.reduceAdd, Nat.reduceSub, Nat.reduceMul, Nat.reduceLeDiff, Int.reduceToNat, Int.reduceLT, Int.reduceLE, Int.reduceNeg, reduceIte, pvC_fgt, pvC_ids, pvC_ren, pvC_len, I, S, tv, nv, tyT, RawV.tv, R1.row, rowsGet, rowsLen, row4, Vk, Vn, Vs, Vl]; with_reducible rfl)
    simp only [vcA, Nat.reduceLT, Int.reduceEq, Int.reduceAdd, Int.reduceSub, Nat.reduceBEq, Nat.reduceEqDiff, reduceCtorEq, Nat.reduceAdd, Nat.reduceSub, Nat.reduceMul, Nat.reduceLeDiff, Int.reduceToNat, Int.reduceLT, Int.reduceLE, Int.reduceNeg, reduceIte, pvC_fgt, pvC_ids, pvC_ren, pvC_len, I, S, tv, nv, tyT, RawV.tv, R1.row, rowsGet, rowsLen, row4, Vk, Vn, Vs, Vl]
theorem firstAt_drop {α : Type} (p : α → Bool) : ∀ (l : List α) (i : Nat), (∀ j x, j < i → l[j]? = some x → p x = false) → ∀ x, l[i]? = some x → p x = true → firstAt p l = i
  | [], i, _, x, hx, _ => by simp at hx
  | a :: l, 0, _, x, hx, hp => by simp at hx; subst hx; simp [firstAt, List.findIdx?_cons, hp]
  | a :: l, i + 1, h, x, hx, hp => by
    have h0 := h 0 a (by omega) rfl
    have := firstAt_drop p l i (fun j y hj hy => h (j + 1) y (by omega) (by simpa using hy)) x (by simpa using hx) hp
    unfold firstAt at this ⊢
    rw [List.findIdx?_cons, h0]
    cases hf : l.findIdx? p with
    | none => rw [hf] at this; simp only at this; omega
    | some q => rw [hf] at this; simp only at this ⊢; simp; omega
theorem firstAt_none {α : Type} (p : α → Bool) (l : List α) (h : ∀ x ∈ l, p x = false) : firstAt p l = -1 := by
  have : l.findIdx? p = none := List.findIdx?_eq_none_iff.2 h
  unfold firstAt; rw [this]
theorem firstAt_any {α : Type} (p : α → Bool) (l : List α) : decide (0 ≤ firstAt p l) = l.any p := by
  rw [Bool.eq_iff_iff, decide_eq_true_eq, List.any_eq_true]
  constructor
  · intro h
    by_cases hn : ∀ x ∈ l, p x = false
    · rw [firstAt_none p l hn] at h; omega
    · obtain ⟨x, hx⟩ := Classical.not_forall.1 hn
      obtain ⟨hx, hp⟩ := Classical.not_imp.1 hx
      exact ⟨x, hx, by simpa using hp⟩
  · rintro ⟨x, hx, hp⟩
    unfold firstAt
    cases hf : l.findIdx? p with
    | none => rw [List.findIdx?_eq_none_iff.1 hf x hx] at hp; cases hp
    | some i => simp
/-- slices.IndexFunc over values, by noItem. -/
theorem indexNo_ok (m : Nat) (l : List V) (hl : l.length ≤ maxLen) (hs : ∀ x ∈ l, TextsOk x) : SCalls Tryz.prog (gl0 m) 121 [.pv (.sl 4 (V.rows l)), .pv (.v (.func (.func 67) #[] #[]))] [] (I (firstAt noItem l)) [] := by
  refine call_of0 hmix tf_slices_IndexFunc___api_Val_api_Val_ rfl ?_
  have hm : maxLen = 9223372036854775807 := rfl
  simp only [vcA, Nat.reduceLT, Int.reduceEq, Int.reduceAdd, Int.reduceSub, Nat.reduceBEq, Nat.reduceEqDiff, reduceCtorEq, Nat.reduceAdd, Nat.reduceSub, Nat.reduceMul, Nat.reduceLeDiff, Int.reduceToNat, Int.reduceLT, Int.reduceLE, Int.reduceNeg, reduceIte, pvC_fgt, pvC_ids, pvC_ren, pvC_len, I, S, tv, nv, tyT, RawV.tv, R1.row, rowsGet, rowsLen, row4, Vk, Vn, Vs, Vl]
  refine v_loop (σ := {i : Nat // i ≤ l.length ∧ ∀ j x, j < i → l[j]? = some x → noItem x = false}) (fun i => ⟨[(0, .pv (.sl 4 (V.rows l))), (1, .pv (.v (.func (.func 67) #[] #[]))), (7, I (l.length : Int)), (8, I (i.1 : Int))], [], [], []⟩) (fun i => l.length - i.1) ⟨0, Nat.zero_le _, fun j x hj => by omega⟩ (lw_eq (by simp [I])) ?_
  rintro ⟨i, hi, hno⟩
  by_cases hlt : i < l.length
  · have d1 : (i : Int) < (l.length : Int) := by omega
    obtain ⟨x, ex⟩ : ∃ x, l[i]? = some x := ⟨_, List.getElem?_eq_getElem hlt⟩
    have HN := noItem_ok0 m x (hs x (List.mem_of_getElem? ex))
    have w1 : IntKind.i64.wrap ((i : Int) + 1) = ((i + 1 : Nat) : Int) := by rw [wrap64 (by omega) (by omega)]; omega
    unfold tv B at HN
    simp only [vcA, Nat.reduceLT, Int.reduceEq, Int.reduceAdd, Int.reduceSub, Nat.reduceBEq, Nat.reduceEqDiff, reduceCtorEq, Nat.reduceAdd, Nat.reduceSub, Nat.reduceMul, Nat.reduceLeDiff, Int.reduceToNat, Int.reduceLT, Int.reduceLE, Int.reduceNeg, reduceIte, pvC_fgt, pvC_ids, pvC_ren, pvC_len, I, S, tv, nv, tyT, RawV.tv, R1.row, rowsGet, rowsLen, row4, Vk, Vn, Vs, Vl, d1, ex]
    (with_reducible apply v_callv); (· simp only [vcA, Nat.reduceLT, Int.reduceEq, Int.reduceAdd, Int.reduceSub, Nat.reduceBEq, Nat.reduceEqDiff, reduceCtorEq, Nat.reduceAdd, Nat.reduceSub, Nat.reduceMul, Nat.reduceLeDiff, Int.reduceToNat, Int.reduceLT, Int.reduceLE, Int.reduceNeg, reduceIte, pvC_fgt, pvC_ids, pvC_ren, pvC_len, I, S, tv, nv, tyT, RawV.tv, R1.row, rowsGet, rowsLen, row4, Vk, Vn, Vs, Vl]; with_reducible rfl); (· exact HN); (· rfl); (· simp only [vcA, Nat.reduceLT, Int.reduceEq, Int.reduceAdd, Int.reduceSub, Nat.reduceBEq, Nat.reduceEqDiff, reduceCtorEq, Nat.reduceAdd, Nat.reduceSub, Nat.reduceMul, Nat.reduceLeDiff, Int.reduceToNat, Int.reduceLT, Int.reduceLE, Int.reduceNeg, reduceIte, pvC_fgt, pvC_ids, pvC_ren, pvC_len, I, S, tv, nv, tyT, RawV.tv, R1.row, rowsGet, rowsLen, row4, Vk, Vn, Vs, Vl]; with_reducible rfl)
    cases hp : noItem x
    · simp only [vcA, Nat.reduceLT, Int.reduceEq, Int.reduceAdd, Int.reduceSub, Nat.reduceBEq, Nat.reduceEqDiff, reduceCtorEq, Nat.reduceAdd, Nat.reduceSub, Nat.reduceMul, Nat.reduceLeDiff, Int.reduceToNat, Int.reduceLT, Int.reduceLE, Int.reduceNeg, reduceIte, pvC_fgt, pvC_ids, pvC_ren, pvC_len, I, S, tv, nv, tyT, RawV.tv, R1.row, rowsGet, rowsLen, row4, Vk, Vn, Vs, Vl, w1]
      refine loopK_of ⟨i + 1, by omega, fun j y hj hy => ?_⟩ (by show l.length - (i + 1) < l.length - i; omega) ?_
      · by_cases hji : j = i
        · subst hji; rw [ex] at hy; cases hy; exact hp
        · exact hno j y (by omega) hy
      · apply lw_of <;> simp [leL, lk, sv, Nat.beq, I, S, ES.kill, has, drp, nilT]
    · simp only [vcA, Nat.reduceLT, Int.reduceEq, Int.reduceAdd, Int.reduceSub, Nat.reduceBEq, Nat.reduceEqDiff, reduceCtorEq, Nat.reduceAdd, Nat.reduceSub, Nat.reduceMul, Nat.reduceLeDiff, Int.reduceToNat, Int.reduceLT, Int.reduceLE, Int.reduceNeg, reduceIte, pvC_fgt, pvC_ids, pvC_ren, pvC_len, I, S, tv, nv, tyT, RawV.tv, R1.row, rowsGet, rowsLen, row4, Vk, Vn, Vs, Vl]
      rw [firstAt_drop noItem l i hno x ex hp]
  · have d1 : ¬ (i : Int) < (l.length : Int) := by omega
    simp only [vcA, Nat.reduceLT, Int.reduceEq, Int.reduceAdd, Int.reduceSub, Nat.reduceBEq, Nat.reduceEqDiff, reduceCtorEq, Nat.reduceAdd, Nat.reduceSub, Nat.reduceMul, Nat.reduceLeDiff, Int.reduceToNat, Int.reduceLT, Int.reduceLE, Int.reduceNeg, reduceIte, pvC_fgt, pvC_ids, pvC_ren, pvC_len, I, S, tv, nv, tyT, RawV.tv, R1.row, rowsGet, rowsLen, row4, Vk, Vn, Vs, Vl, d1]
    rw [firstAt_none noItem l (fun x hx => by
      obtain ⟨j, hj⟩ := List.getElem?_of_mem hx
      exact hno j x (by have := (List.getElem?_eq_some_iff.1 hj).1; omega) hj)]
theorem containsNo_ok (m : Nat) (l : List V) (hl : l.length ≤ maxLen) (hs : ∀ x ∈ l, TextsOk x) : SCalls Tryz.prog (gl0 m) 66 [.pv (.sl 4 (V.rows l)), .pv (.v (.func (.func 67) #[] #[]))] [] (B (l.any noItem)) [] := by
  refine call_of0 hmix tf_slices_ContainsFunc___api_Val_api_Val_ rfl ?_
  have HI := indexNo_ok m l hl hs
  rw [← firstAt_any]
  unfold B
  simp only [vcA, Nat.reduceLT, Int.reduceEq, Int.reduceAdd, Int.reduceSub, Nat.reduceBEq, Nat.reduceEqDiff, reduceCtorEq, Nat.reduceAdd, Nat.reduceSub, Nat.reduceMul, Nat.reduceLeDiff, Int.reduceToNat, Int.reduceLT, Int.reduceLE, Int.reduceNeg, reduceIte, pvC_fgt, pvC_ids, pvC_ren, pvC_len, I, S, tv, nv, tyT, RawV.tv, R1.row, rowsGet, rowsLen, row4, Vk, Vn, Vs, Vl]
  (with_reducible apply v_call); (· simp only [vcA, Nat.reduceLT, Int.reduceEq, Int.reduceAdd, Int.reduceSub, Nat.reduceBEq, Nat.reduceEqDiff, reduceCtorEq, Nat.reduceAdd, Nat.reduceSub, Nat.reduceMul, Nat.reduceLeDiff, Int.reduceToNat, Int.reduceLT, Int.reduceLE, Int.reduceNeg, reduceIte, pvC_fgt, pvC_ids, pvC_ren, pvC_len, I, S, tv, nv, tyT, RawV.tv, R1.row, rowsGet, rowsLen, row4, Vk, Vn, Vs, Vl]; with_reducible rfl); (· exact HI); (· first | rfl | (simp only [moOk, nbeq, nble, List.length_nil, beq_self_eq_true, Bool.true_and, Bool.and_true, Bool.and_eq_true, decide_eq_true_eq]; omega)); (· simp only [vcA, Nat.reduceLT, Int.reduceEq, Int.reduceAdd, Int.reduceSub, Nat.reduceBEq, Nat.reduceEqDiff, reduceCtorEq, Nat.reduceAdd, Nat.reduceSub, Nat.reduceMul, Nat.reduceLeDiff, Int.reduceToNat, Int.reduceLT, Int.reduceLE, Int.reduceNeg, reduceIte, pvC_fgt, pvC_ids, pvC_ren, pvC_len, I, S, tv, nv, tyT, RawV.tv, R1.row, rowsGet, rowsLen, row4, Vk, Vn, Vs, Vl]; with_reducible rfl)
  simp only [vcA, Nat.reduceLT, Int.reduceEq, Int.reduceAdd, Int.reduceSub, Nat.reduceBEq, Nat.reduceEqDiff, reduceCtorEq, Nat.reduceAdd, Nat.reduceSub, Nat.reduceMul, Nat.reduceLeDiff, Int.reduceToNat, Int.reduceLT, Int.reduceLE, Int.reduceNeg, reduceIte, pvC_fgt, pvC_ids, pvC_ren, pvC_len, I, S, tv, nv, tyT, RawV.tv, R1.row, rowsGet, rowsLen, row4, Vk, Vn, Vs, Vl]
theorem rightV_ok0 (m : Nat) (x : V) (hx : VOk x) : SCalls Tryz.prog (gl0 m) 28 [tv x] [] (B (rightV x)) [] := by
  unfold rightV
  by_cases k5 : x.k = 5
  · rw [if_pos k5]
    obtain ⟨k, n, s, l⟩ := x
    simp only [Vk] at k5
    subst k5
    simp only [Vn, Vs, Vl]
    refine call_of0 hmix tf_val_Right rfl ?_
    unfold B
    by_cases n0 : n = 0
    · subst n0
      cases hs : s == []
      · simp only [vcA, Nat.reduceLT, Int.reduceEq, Int.reduceAdd, Int.reduceSub, Nat.reduceBEq, Nat.reduceEqDiff, reduceCtorEq, Nat.reduceAdd, Nat.reduceSub, Nat.reduceMul, Nat.reduceLeDiff, Int.reduceToNat, Int.reduceLT, Int.reduceLE, Int.reduceNeg, reduceIte, pvC_fgt, pvC_ids, pvC_ren, pvC_len, I, S, tv, nv, tyT, RawV.tv, R1.row, rowsGet, rowsLen, row4, Vk, Vn, Vs, Vl, e0, hs]
      · by_cases h12 : l.length ≤ 12
        · have d1 : (l.length : Int) ≤ 12 := by omega
          have HC := containsNo_ok m l (by unfold maxLen; omega) (fun y hy => hx.2 y hy)
          unfold B at HC
          simp only [vcA, Nat.reduceLT, Int.reduceEq, Int.reduceAdd, Int.reduceSub, Nat.reduceBEq, Nat.reduceEqDiff, reduceCtorEq, Nat.reduceAdd, Nat.reduceSub, Nat.reduceMul, Nat.reduceLeDiff, Int.reduceToNat, Int.reduceLT, Int.reduceLE, Int.reduceNeg, reduceIte, pvC_fgt, pvC_ids, pvC_ren, pvC_len, I, S, tv, nv, tyT, RawV.tv, R1.row, rowsGet, rowsLen, row4, Vk, Vn, Vs, Vl, e0, hs, d1, h12]
          (with_reducible apply v_call); (· simp only [vcA, Nat.reduceLT, Int.reduceEq, Int.reduceAdd, Int.reduceSub, Nat.reduceBEq, Nat.reduceEqDiff, reduceCtorEq, Nat.reduceAdd, Nat.reduceSub, Nat.reduceMul, Nat.reduceLeDiff, Int.reduceToNat, Int.reduceLT, Int.reduceLE, Int.reduceNeg, reduceIte, pvC_fgt, pvC_ids, pvC_ren, pvC_len, I, S, tv, nv, tyT, RawV.tv, R1.row, rowsGet, rowsLen, row4, Vk, Vn, Vs, Vl]; with_reducible rfl); (· exact HC); (· first | rfl | (simp only [moOk, nbeq, nble, List.length_nil, beq_self_eq_true, Bool.true_and, Bool.and_true, Bool.and_eq_true, decide_eq_true_eq]; omega)); (· simp only [vcA, Nat.reduceLT, Int.reduceEq, Int.reduceAdd, Int.reduceSub, Nat.reduceBEq, Nat.reduceEqDiff, reduceCtorEq, Nat.reduceAdd, Nat.reduceSub, Nat.reduceMul, Nat.reduceLeDiff, Int.reduceToNat, Int.reduceLT, Int.reduceLE, Int.reduceNeg, reduceIte, pvC_fgt, pvC_ids, pvC_ren, pvC_len, I, S, tv, nv, tyT, RawV.tv, R1.row, rowsGet, rowsLen, row4, Vk, Vn, Vs, Vl]; with_reducible rfl)
          simp only [vcA, Nat.reduceLT, Int.reduceEq, Int.reduceAdd, Int.reduceSub, Nat.reduceBEq, Nat.reduceEqDiff, reduceCtorEq, Nat.reduceAdd, Nat.reduceSub, Nat.reduceMul, Nat.reduceLeDiff, Int.reduceToNat, Int.reduceLT, Int.reduceLE, Int.reduceNeg, reduceIte, pvC_fgt, pvC_ids, pvC_ren, pvC_len, I, S, tv, nv, tyT, RawV.tv, R1.row, rowsGet, rowsLen, row4, Vk, Vn, Vs, Vl]
        · have d1 : ¬ (l.length : Int) ≤ 12 := by omega
          simp only [vcA, Nat.reduceLT, Int.reduceEq, Int.reduceAdd, Int.reduceSub, Nat.reduceBEq, Nat.reduceEqDiff, reduceCtorEq, Nat.reduceAdd, Nat.reduceSub, Nat.reduceMul, Nat.reduceLeDiff, Int.reduceToNat, Int.reduceLT, Int.reduceLE, Int.reduceNeg, reduceIte, pvC_fgt, pvC_ids, pvC_ren, pvC_len, I, S, tv, nv, tyT, RawV.tv, R1.row, rowsGet, rowsLen, row4, Vk, Vn, Vs, Vl, e0, hs, d1, h12]
    · have hn0 : (n == 0) = false := by simpa using n0
      simp only [vcA, Nat.reduceLT, Int.reduceEq, Int.reduceAdd, Int.reduceSub, Nat.reduceBEq, Nat.reduceEqDiff, reduceCtorEq, Nat.reduceAdd, Nat.reduceSub, Nat.reduceMul, Nat.reduceLeDiff, Int.reduceToNat, Int.reduceLT, Int.reduceLE, Int.reduceNeg, reduceIte, pvC_fgt, pvC_ids, pvC_ren, pvC_len, I, S, tv, nv, tyT, RawV.tv, R1.row, rowsGet, rowsLen, row4, Vk, Vn, Vs, Vl, n0, hn0]
  · rw [if_neg k5]
    exact right1_ok0 m x hx.1 k5
theorem rightType_ok (g : Sh.Glob) (t : Ty) : SCalls Tryz.prog g 74 [tyT t] [] (B (rightType t)) [] := by
  refine call_of0 hmix tf_val_rightType rfl ?_
  obtain ⟨k, o⟩ := t
  unfold B
  simp only [vcA, Nat.reduceLT, Int.reduceEq, Int.reduceAdd, Int.reduceSub, Nat.reduceBEq, Nat.reduceEqDiff, reduceCtorEq, Nat.reduceAdd, Nat.reduceSub, Nat.reduceMul, Nat.reduceLeDiff, Int.reduceToNat, Int.reduceLT, Int.reduceLE, Int.reduceNeg, reduceIte, pvC_fgt, pvC_ids, pvC_ren, pvC_len, I, S, tv, nv, tyT, RawV.tv, R1.row, rowsGet, rowsLen, row4, Vk, Vn, Vs, Vl]
  unfold rightType
  repeat' (first | (apply And.intro) | (intro _))
  all_goals (first | (simp_all; done) | (simp_all; omega))
theorem ofKind_ok (g : Sh.Glob) (x : V) (k : Int) : SCalls Tryz.prog g 75 [tv x, I k] [] (B (ofKind x k)) [] := by
  refine call_of0 hmix tf_val_ofKind rfl ?_
  unfold B
  simp only [vcA, Nat.reduceLT, Int.reduceEq, Int.reduceAdd, Int.reduceSub, Nat.reduceBEq, Nat.reduceEqDiff, reduceCtorEq, Nat.reduceAdd, Nat.reduceSub, Nat.reduceMul, Nat.reduceLeDiff, Int.reduceToNat, Int.reduceLT, Int.reduceLE, Int.reduceNeg, reduceIte, pvC_fgt, pvC_ids, pvC_ren, pvC_len, I, S, tv, nv, tyT, RawV.tv, R1.row, rowsGet, rowsLen, row4, Vk, Vn, Vs, Vl]
  unfold ofKind
  repeat' (first | (apply And.intro) | (intro _))
  all_goals (first | (simp_all; done) | (simp only [Option.some.injEq, TV.pv.injEq, PV.v.injEq, Value.bool.injEq]; rw [Bool.eq_iff_iff]; simp_all; done) | (simp only [Option.some.injEq, TV.pv.injEq, PV.v.injEq, Value.bool.injEq]; rw [Bool.eq_iff_iff]; simp_all; omega))
theorem zero_ok (g : Sh.Glob) (t : Ty) : SCalls Tryz.prog g 38 [tyT t] [] (nv (zeroV t)) [] := by
  refine call_of0 hmix tf_val_Zero rfl ?_
  have HR := rightType_ok g t
  unfold B at HR
  obtain ⟨k, o⟩ := t
  generalize hr : rightType ⟨k, o⟩ = r at HR
  have key : zeroV ⟨k, o⟩ = if !r || k == 3 || k == 4 then V.nil else .mk k 0 [] [] := by rw [← hr]; rfl
  rw [key]
  simp only [vcA, Nat.reduceLT, Int.reduceEq, Int.reduceAdd, Int.reduceSub, Nat.reduceBEq, Nat.reduceEqDiff, reduceCtorEq, Nat.reduceAdd, Nat.reduceSub, Nat.reduceMul, Nat.reduceLeDiff, Int.reduceToNat, Int.reduceLT, Int.reduceLE, Int.reduceNeg, reduceIte, pvC_fgt, pvC_ids, pvC_ren, pvC_len, I, S, tv, nv, tyT, RawV.tv, R1.row, rowsGet, rowsLen, row4, Vk, Vn, Vs, Vl]
  (with_reducible apply v_call); (· simp only [vcA, Nat.reduceLT, Int.reduceEq, Int.reduceAdd, Int.reduceSub, Nat.reduceBEq, Nat.reduceEqDiff, reduceCtorEq, Nat.reduceAdd, Nat.reduceSub, Nat.reduceMul, Nat.reduceLeDiff, Int.reduceToNat, Int.reduceLT, Int.reduceLE, Int.reduceNeg, reduceIte, pvC_fgt, pvC_ids, pvC_ren, pvC_len, I, S, tv, nv, tyT, RawV.tv, R1.row, rowsGet, rowsLen, row4, Vk, Vn, Vs, Vl]; with_reducible rfl); (· exact HR); (· first | rfl | (simp only [moOk, nbeq, nble, List.length_nil, beq_self_eq_true, Bool.true_and, Bool.and_true, Bool.and_eq_true, decide_eq_true_eq]; omega)); (· simp only [vcA, Nat.reduceLT, Int.reduceEq, Int.reduceAdd, Int.reduceSub, Nat.reduceBEq, Nat.reduceEqDiff, reduceCtorEq, Nat.reduceAdd, Nat.reduceSub, Nat.reduceMul, Nat.reduceLeDiff, Int.reduceToNat, Int.reduceLT, Int.reduceLE, Int.reduceNeg, reduceIte, pvC_fgt, pvC_ids, pvC_ren, pvC_len, I, S, tv, nv, tyT, RawV.tv, R1.row, rowsGet, rowsLen, row4, Vk, Vn, Vs, Vl]; with_reducible rfl)
  cases r
  · simp only [vcA, Nat.reduceLT, Int.reduceEq, Int.reduceAdd, Int.reduceSub, Nat.reduceBEq, Nat.reduceEqDiff, reduceCtorEq, Nat.reduceAdd, Nat.reduceSub, Nat.reduceMul, Nat.reduceLeDiff, Int.reduceToNat, Int.reduceLT, Int.reduceLE, Int.reduceNeg, reduceIte, pvC_fgt, pvC_ids, pvC_ren, pvC_len, I, S, tv, nv, tyT, RawV.tv, R1.row, rowsGet, rowsLen, row4, Vk, Vn, Vs, Vl]
    rfl
  · simp only [vcA, Nat.reduceLT, Int.reduceEq, Int.reduceAdd, Int.reduceSub, Nat.reduceBEq, Nat.reduceEqDiff, reduceCtorEq, Nat.reduceAdd, Nat.reduceSub, Nat.reduceMul, Nat.reduceLeDiff, Int.reduceToNat, Int.reduceLT, Int.reduceLE, Int.reduceNeg, reduceIte, pvC_fgt, pvC_ids, pvC_ren, pvC_len, I, S, tv, nv, tyT, RawV.tv, R1.row, rowsGet, rowsLen, row4, Vk, Vn, Vs, Vl]
    repeat' (first | (apply And.intro) | (intro _))
    all_goals (first | (simp_all [V.nil, V.k, V.n, V.s, e0]; done) | rfl)
/-- What Fits asks of each item. -/
theorem fits1_ok (g : Sh.Glob) (x : V) (t : Ty) : SCalls Tryz.prog g 76 [tv x, .ptr 1000 0] [.box [I t.k, I t.o]] (B (!ofKind x t.o)) [.box [I t.k, I t.o]] := by
  refine call_of hmix tf_val_Fits_1 rfl rfl rfl ?_
  have HK := ofKind_ok g x t.o
  unfold B at *
  simp only [vcA, Nat.reduceLT, Int.reduceEq, Int.reduceAdd, Int.reduceSub, Nat.reduceBEq, Nat.reduceEqDiff, reduceCtorEq, Nat.reduceAdd, Nat.reduceSub, Nat.reduceMul, Nat.reduceLeDiff, Int.reduceToNat, Int.reduceLT, Int.reduceLE, Int.reduceNeg, reduceIte, pvC_fgt, pvC_ids, pvC_ren, pvC_len, I, S, tv, nv, tyT, RawV.tv, R1.row, rowsGet, rowsLen, row4, Vk, Vn, Vs, Vl]
  (with_reducible apply v_call); (· simp only [vcA, Nat.reduceLT, Int.reduceEq, Int.reduceAdd, Int.reduceSub, Nat.reduceBEq, Nat.reduceEqDiff, reduceCtorEq, Nat.reduceAdd, Nat.reduceSub, Nat.reduceMul, Nat.reduceLeDiff, Int.reduceToNat, Int.reduceLT, Int.reduceLE, Int.reduceNeg, reduceIte, pvC_fgt, pvC_ids, pvC_ren, pvC_len, I, S, tv, nv, tyT, RawV.tv, R1.row, rowsGet, rowsLen, row4, Vk, Vn, Vs, Vl]; with_reducible rfl); (· exact HK); (· first | rfl | (simp only [moOk, nbeq, nble, List.length_nil, beq_self_eq_true, Bool.true_and, Bool.and_true, Bool.and_eq_true, decide_eq_true_eq]; omega)); (· simp only [vcA, Nat.reduceLT, Int.reduceEq, Int.reduceAdd, Int.reduceSub, Nat.reduceBEq, Nat.reduceEqDiff, reduceCtorEq, Nat.reduceAdd, Nat.reduceSub, Nat.reduceMul, Nat.reduceLeDiff, Int.reduceToNat, Int.reduceLT, Int.reduceLE, Int.reduceNeg, reduceIte, pvC_fgt, pvC_ids, pvC_ren, pvC_len, I, S, tv, nv, tyT, RawV.tv, R1.row, rowsGet, rowsLen, row4, Vk, Vn, Vs, Vl]; with_reducible rfl)
  simp only [vcA, Nat.reduceLT, Int.reduceEq, Int.reduceAdd, Int.reduceSub, Nat.reduceBEq, Nat.reduceEqDiff, reduceCtorEq, Nat.reduceAdd, Nat.reduceSub, Nat.reduceMul, Nat.reduceLeDiff, Int.reduceToNat, Int.reduceLT, Int.reduceLE, Int.reduceNeg, reduceIte, pvC_fgt, pvC_ids, pvC_ren, pvC_len, I, S, tv, nv, tyT, RawV.tv, R1.row, rowsGet, rowsLen, row4, Vk, Vn, Vs, Vl]
theorem indexFits_ok (g : Sh.Glob) (l : List V) (t : Ty) (hl : l.length ≤ maxLen) : SCalls Tryz.prog g 121 [.pv (.sl 4 (V.rows l)), .fn (.func 76) [] [.ptr 1000 0]] [.box [I t.k, I t.o]] (I (firstAt (fun y => !ofKind y t.o) l)) [.box [I t.k, I t.o]] := by
  refine call_of hmix tf_slices_IndexFunc___api_Val_api_Val_ rfl rfl rfl ?_
  have hm : maxLen = 9223372036854775807 := rfl
  simp only [vcA, Nat.reduceLT, Int.reduceEq, Int.reduceAdd, Int.reduceSub, Nat.reduceBEq, Nat.reduceEqDiff, reduceCtorEq, Nat.reduceAdd, Nat.reduceSub, Nat.reduceMul, Nat.reduceLeDiff, Int.reduceToNat, Int.reduceLT, Int.reduceLE, Int.reduceNeg, reduceIte, pvC_fgt, pvC_ids, pvC_ren, pvC_len, I, S, tv, nv, tyT, RawV.tv, R1.row, rowsGet, rowsLen, row4, Vk, Vn, Vs, Vl]
  refine v_loop (σ := {i : Nat // i ≤ l.length ∧ ∀ j x, j < i → l[j]? = some x → (!ofKind x t.o) = false}) (fun i => ⟨[(0, .pv (.sl 4 (V.rows l))), (1, .fn (.func 76) [] [.ptr 1000 0]), (7, I (l.length : Int)), (8, I (i.1 : Int))], [(1000, [I t.k, I t.o])], [], []⟩) (fun i => l.length - i.1) ⟨0, Nat.zero_le _, fun j x hj => by omega⟩ (lw_eq (by simp [I])) ?_
  rintro ⟨i, hi, hno⟩
  by_cases hlt : i < l.length
  · have d1 : (i : Int) < (l.length : Int) := by omega
    obtain ⟨x, ex⟩ : ∃ x, l[i]? = some x := ⟨_, List.getElem?_eq_getElem hlt⟩
    have HN := fits1_ok g x t
    have w1 : IntKind.i64.wrap ((i : Int) + 1) = ((i + 1 : Nat) : Int) := by rw [wrap64 (by omega) (by omega)]; omega
    unfold tv B at HN
    simp only [vcA, Nat.reduceLT, Int.reduceEq, Int.reduceAdd, Int.reduceSub, Nat.reduceBEq, Nat.reduceEqDiff, reduceCtorEq, Nat.reduceAdd, Nat.reduceSub, Nat.reduceMul, Nat.reduceLeDiff, Int.reduceToNat, Int.reduceLT, Int.reduceLE, Int.reduceNeg, reduceIte, pvC_fgt, pvC_ids, pvC_ren, pvC_len, I, S, tv, nv, tyT, RawV.tv, R1.row, rowsGet, rowsLen, row4, Vk, Vn, Vs, Vl, d1, ex]
    (with_reducible apply v_callv); (· simp only [vcA, Nat.reduceLT, Int.reduceEq, Int.reduceAdd, Int.reduceSub, Nat.reduceBEq, Nat.reduceEqDiff, reduceCtorEq, Nat.reduceAdd, Nat.reduceSub, Nat.reduceMul, Nat.reduceLeDiff, Int.reduceToNat, Int.reduceLT, Int.reduceLE, Int.reduceNeg, reduceIte, pvC_fgt, pvC_ids, pvC_ren, pvC_len, I, S, tv, nv, tyT, RawV.tv, R1.row, rowsGet, rowsLen, row4, Vk, Vn, Vs, Vl]; with_reducible rfl); (· exact HN); (· rfl); (· simp only [vcA, Nat.reduceLT, Int.reduceEq, Int.reduceAdd, Int.reduceSub, Nat.reduceBEq, Nat.reduceEqDiff, reduceCtorEq, Nat.reduceAdd, Nat.reduceSub, Nat.reduceMul, Nat.reduceLeDiff, Int.reduceToNat, Int.reduceLT, Int.reduceLE, Int.reduceNeg, reduceIte, pvC_fgt, pvC_ids, pvC_ren, pvC_len, I, S, tv, nv, tyT, RawV.tv, R1.row, rowsGet, rowsLen, row4, Vk, Vn, Vs, Vl]; with_reducible rfl)
    cases hp : ofKind x t.o
    · simp only [vcA, Nat.reduceLT, Int.reduceEq, Int.reduceAdd, Int.reduceSub, Nat.reduceBEq, Nat.reduceEqDiff, reduceCtorEq, Nat.reduceAdd, Nat.reduceSub, Nat.reduceMul, Nat.reduceLeDiff, Int.reduceToNat, Int.reduceLT, Int.reduceLE, Int.reduceNeg, reduceIte, pvC_fgt, pvC_ids, pvC_ren, pvC_len, I, S, tv, nv, tyT, RawV.tv, R1.row, rowsGet, rowsLen, row4, Vk, Vn, Vs, Vl]
      rw [firstAt_drop (fun y => !ofKind y t.o) l i hno x ex (by simp [hp])]
    · simp only [vcA, Nat.reduceLT, Int.reduceEq, Int.reduceAdd, Int.reduceSub, Nat.reduceBEq, Nat.reduceEqDiff, reduceCtorEq, Nat.reduceAdd, Nat.reduceSub, Nat.reduceMul, Nat.reduceLeDiff, Int.reduceToNat, Int.reduceLT, Int.reduceLE, Int.reduceNeg, reduceIte, pvC_fgt, pvC_ids, pvC_ren, pvC_len, I, S, tv, nv, tyT, RawV.tv, R1.row, rowsGet, rowsLen, row4, Vk, Vn, Vs, Vl, w1]
      refine loopK_of ⟨i + 1, by omega, fun j y hj hy => ?_⟩ (by show l.length - (i + 1) < l.length - i; omega) ?_
      · by_cases hji : j = i
        · subst hji; rw [ex] at hy; cases hy; simp [hp]
        · exact hno j y (by omega) hy
      · apply lw_of <;> simp [leL, lk, sv, Nat.beq, I, S, ES.kill, has, drp, nilT]
  · have d1 : ¬ (i : Int) < (l.length : Int) := by omega
    simp only [vcA, Nat.reduceLT, Int.reduceEq, Int.reduceAdd, Int.reduceSub, Nat.reduceBEq, Nat.reduceEqDiff, reduceCtorEq, Nat.reduceAdd, Nat.reduceSub, Nat.reduceMul, Nat.reduceLeDiff, Int.reduceToNat, Int.reduceLT, Int.reduceLE, Int.reduceNeg, reduceIte, pvC_fgt, pvC_ids, pvC_ren, pvC_len, I, S, tv, nv, tyT, RawV.tv, R1.row, rowsGet, rowsLen, row4, Vk, Vn, Vs, Vl, d1]
    rw [firstAt_none (fun y => !ofKind y t.o) l (fun x hx => by
      obtain ⟨j, hj⟩ := List.getElem?_of_mem hx
      exact hno j x (by have := (List.getElem?_eq_some_iff.1 hj).1; omega) hj)]
theorem containsFits_ok (g : Sh.Glob) (l : List V) (t : Ty) (hl : l.length ≤ maxLen) : SCalls Tryz.prog g 66 [.pv (.sl 4 (V.rows l)), .fn (.func 76) [] [.ptr 1000 0]] [.box [I t.k, I t.o]] (B (l.any fun y => !ofKind y t.o)) [.box [I t.k, I t.o]] := by
  refine call_of hmix tf_slices_ContainsFunc___api_Val_api_Val_ rfl rfl rfl ?_
  have HI := indexFits_ok g l t hl
  rw [← firstAt_any]
  unfold B
  simp only [vcA, Nat.reduceLT, Int.reduceEq, Int.reduceAdd, Int.reduceSub, Nat.reduceBEq, Nat.reduceEqDiff, reduceCtorEq, Nat.reduceAdd, Nat.reduceSub, Nat.reduceMul, Nat.reduceLeDiff, Int.reduceToNat, Int.reduceLT, Int.reduceLE, Int.reduceNeg, reduceIte, pvC_fgt, pvC_ids, pvC_ren, pvC_len, I, S, tv, nv, tyT, RawV.tv, R1.row, rowsGet, rowsLen, row4, Vk, Vn, Vs, Vl]
  (with_reducible apply v_call); (· simp only [vcA, Nat.reduceLT, Int.reduceEq, Int.reduceAdd, Int.reduceSub, Nat.reduceBEq, Nat.reduceEqDiff, reduceCtorEq, Nat.reduceAdd, Nat.reduceSub, Nat.reduceMul, Nat.reduceLeDiff, Int.reduceToNat, Int.reduceLT, Int.reduceLE, Int.reduceNeg, reduceIte, pvC_fgt, pvC_ids, pvC_ren, pvC_len, I, S, tv, nv, tyT, RawV.tv, R1.row, rowsGet, rowsLen, row4, Vk, Vn, Vs, Vl]; with_reducible rfl); (· exact HI); (· first | rfl | (simp only [moOk, nbeq, nble, List.length_nil, beq_self_eq_true, Bool.true_and, Bool.and_true, Bool.and_eq_true, decide_eq_true_eq]; omega)); (· simp only [vcA, Nat.reduceLT, Int.reduceEq, Int.reduceAdd, Int.reduceSub, Nat.reduceBEq, Nat.reduceEqDiff, reduceCtorEq, Nat.reduceAdd, Nat.reduceSub, Nat.reduceMul, Nat.reduceLeDiff, Int.reduceToNat, Int.reduceLT, Int.reduceLE, Int.reduceNeg, reduceIte, pvC_fgt, pvC_ids, pvC_ren, pvC_len, I, S, tv, nv, tyT, RawV.tv, R1.row, rowsGet, rowsLen, row4, Vk, Vn, Vs, Vl]; with_reducible rfl)
  simp only [vcA, Nat.reduceLT, Int.reduceEq, Int.reduceAdd, Int.reduceSub, Nat.reduceBEq, Nat.reduceEqDiff, reduceCtorEq, Nat.reduceAdd, Nat.reduceSub, Nat.reduceMul, Nat.reduceLeDiff, Int.reduceToNat, Int.reduceLT, Int.reduceLE, Int.reduceNeg, reduceIte, pvC_fgt, pvC_ids, pvC_ren, pvC_len, I, S, tv, nv, tyT, RawV.tv, R1.row, rowsGet, rowsLen, row4, Vk, Vn, Vs, Vl]
theorem fits_ok0 (m : Nat) (x : V) (t : Ty) (hx : VOk x) (hl : x.l.length ≤ maxLen) : SCalls Tryz.prog (gl0 m) 36 [tv x, tyT t] [] (B (fitsV x t)) [] := by
  refine call_of0 hmix tf_val_Fits rfl ?_
  have HR := rightV_ok0 m x hx
  have HT := rightType_ok (gl0 m) t
  have HK := ofKind_ok (gl0 m) x t.k
  have HC := containsFits_ok (gl0 m) x.l t hl
  unfold fitsV B at *
  simp only [vcA, Nat.reduceLT, Int.reduceEq, Int.reduceAdd, Int.reduceSub, Nat.reduceBEq, Nat.reduceEqDiff, reduceCtorEq, Nat.reduceAdd, Nat.reduceSub, Nat.reduceMul, Nat.reduceLeDiff, Int.reduceToNat, Int.reduceLT, Int.reduceLE, Int.reduceNeg, reduceIte, pvC_fgt, pvC_ids, pvC_ren, pvC_len, I, S, tv, nv, tyT, RawV.tv, R1.row, rowsGet, rowsLen, row4, Vk, Vn, Vs, Vl]
  (with_reducible apply v_call); (· simp only [vcA, Nat.reduceLT, Int.reduceEq, Int.reduceAdd, Int.reduceSub, Nat.reduceBEq, Nat.reduceEqDiff, reduceCtorEq, Nat.reduceAdd, Nat.reduceSub, Nat.reduceMul, Nat.reduceLeDiff, Int.reduceToNat, Int.reduceLT, Int.reduceLE, Int.reduceNeg, reduceIte, pvC_fgt, pvC_ids, pvC_ren, pvC_len, I, S, tv, nv, tyT, RawV.tv, R1.row, rowsGet, rowsLen, row4, Vk, Vn, Vs, Vl]; with_reducible rfl); (· exact HR); (· first | rfl | (simp only [moOk, nbeq, nble, List.length_nil, beq_self_eq_true, Bool.true_and, Bool.and_true, Bool.and_eq_true, decide_eq_true_eq]; omega)); (· simp only [vcA, Nat.reduceLT, Int.reduceEq, Int.reduceAdd, Int.reduceSub, Nat.reduceBEq, Nat.reduceEqDiff, reduceCtorEq, Nat.reduceAdd, Nat.reduceSub, Nat.reduceMul, Nat.reduceLeDiff, Int.reduceToNat, Int.reduceLT, Int.reduceLE, Int.reduceNeg, reduceIte, pvC_fgt, pvC_ids, pvC_ren, pvC_len, I, S, tv, nv, tyT, RawV.tv, R1.row, rowsGet, rowsLen, row4, Vk, Vn, Vs, Vl]; with_reducible rfl)
  cases rightV x
  · simp only [vcA, Nat.reduceLT, Int.reduceEq, Int.reduceAdd, Int.reduceSub, Nat.reduceBEq, Nat.reduceEqDiff, reduceCtorEq, Nat.reduceAdd, Nat.reduceSub, Nat.reduceMul, Nat.reduceLeDiff, Int.reduceToNat, Int.reduceLT, Int.reduceLE, Int.reduceNeg, reduceIte, pvC_fgt, pvC_ids, pvC_ren, pvC_len, I, S, tv, nv, tyT, RawV.tv, R1.row, rowsGet, rowsLen, row4, Vk, Vn, Vs, Vl]
  simp only [vcA, Nat.reduceLT, Int.reduceEq, Int.reduceAdd, Int.reduceSub, Nat.reduceBEq, Nat.reduceEqDiff, reduceCtorEq, Nat.reduceAdd, Nat.reduceSub, Nat.reduceMul, Nat.reduceLeDiff, Int.reduceToNat, Int.reduceLT, Int.reduceLE, Int.reduceNeg, reduceIte, pvC_fgt, pvC_ids, pvC_ren, pvC_len, I, S, tv, nv, tyT, RawV.tv, R1.row, rowsGet, rowsLen, row4, Vk, Vn, Vs, Vl]
  (with_reducible apply v_call); (· simp only [vcA, Nat.reduceLT, Int.reduceEq, Int.reduceAdd, Int.reduceSub, Nat.reduceBEq, Nat.reduceEqDiff, reduceCtorEq, Nat.reduceAdd, Nat.reduceSub, Nat.reduceMul, Nat.reduceLeDiff, Int.reduceToNat, Int.reduceLT, Int.reduceLE, Int.reduceNeg, reduceIte, pvC_fgt, pvC_ids, pvC_ren, pvC_len, I, S, tv, nv, tyT, RawV.tv, R1.row, rowsGet, rowsLen, row4, Vk, Vn, Vs, Vl]; with_reducible rfl); (· exact HT); (· first | rfl | (simp only [moOk, nbeq, nble, List.length_nil, beq_self_eq_true, Bool.true_and, Bool.and_true, Bool.and_eq_true, decide_eq_true_eq]; omega)); (· simp only [vcA, Nat.reduceLT, Int.reduceEq, Int.reduceAdd, Int.reduceSub, Nat.reduceBEq, Nat.reduceEqDiff, reduceCtorEq, Nat.reduceAdd, Nat.reduceSub, Nat.reduceMul, Nat.reduceLeDiff, Int.reduceToNat, Int.reduceLT, Int.reduceLE, Int.reduceNeg, reduceIte, pvC_fgt, pvC_ids, pvC_ren, pvC_len, I, S, tv, nv, tyT, RawV.tv, R1.row, rowsGet, rowsLen, row4, Vk, Vn, Vs, Vl]; with_reducible rfl)
  cases rightType t
  · simp only [vcA, Nat.reduceLT, Int.reduceEq, Int.reduceAdd, Int.reduceSub, Nat.reduceBEq, Nat.reduceEqDiff, reduceCtorEq, Nat.reduceAdd, Nat.reduceSub, Nat.reduceMul, Nat.reduceLeDiff, Int.reduceToNat, Int.reduceLT, Int.reduceLE, Int.reduceNeg, reduceIte, pvC_fgt, pvC_ids, pvC_ren, pvC_len, I, S, tv, nv, tyT, RawV.tv, R1.row, rowsGet, rowsLen, row4, Vk, Vn, Vs, Vl]
  simp only [vcA, Nat.reduceLT, Int.reduceEq, Int.reduceAdd, Int.reduceSub, Nat.reduceBEq, Nat.reduceEqDiff, reduceCtorEq, Nat.reduceAdd, Nat.reduceSub, Nat.reduceMul, Nat.reduceLeDiff, Int.reduceToNat, Int.reduceLT, Int.reduceLE, Int.reduceNeg, reduceIte, pvC_fgt, pvC_ids, pvC_ren, pvC_len, I, S, tv, nv, tyT, RawV.tv, R1.row, rowsGet, rowsLen, row4, Vk, Vn, Vs, Vl]
  (with_reducible apply v_call); (· simp only [vcA, Nat.reduceLT, Int.reduceEq, Int.reduceAdd, Int.reduceSub, Nat.reduceBEq, Nat.reduceEqDiff, reduceCtorEq, Nat.reduceAdd, Nat.reduceSub, Nat.reduceMul, Nat.reduceLeDiff, Int.reduceToNat, Int.reduceLT, Int.reduceLE, Int.reduceNeg, reduceIte, pvC_fgt, pvC_ids, pvC_ren, pvC_len, I, S, tv, nv, tyT, RawV.tv, R1.row, rowsGet, rowsLen, row4, Vk, Vn, Vs, Vl]; with_reducible rfl); (· exact HK); (· first | rfl | (simp only [moOk, nbeq, nble, List.length_nil, beq_self_eq_true, Bool.true_and, Bool.and_true, Bool.and_eq_true, decide_eq_true_eq]; omega)); (· simp only [vcA, Nat.reduceLT, Int.reduceEq, Int.reduceAdd, Int.reduceSub, Nat.reduceBEq, Nat.reduceEqDiff, reduceCtorEq, Nat.reduceAdd, Nat.reduceSub, Nat.reduceMul, Nat.reduceLeDiff, Int.reduceToNat, Int.reduceLT, Int.reduceLE, Int.reduceNeg, reduceIte, pvC_fgt, pvC_ids, pvC_ren, pvC_len, I, S, tv, nv, tyT, RawV.tv, R1.row, rowsGet, rowsLen, row4, Vk, Vn, Vs, Vl]; with_reducible rfl)
  cases ofKind x t.k
  · simp only [vcA, Nat.reduceLT, Int.reduceEq, Int.reduceAdd, Int.reduceSub, Nat.reduceBEq, Nat.reduceEqDiff, reduceCtorEq, Nat.reduceAdd, Nat.reduceSub, Nat.reduceMul, Nat.reduceLeDiff, Int.reduceToNat, Int.reduceLT, Int.reduceLE, Int.reduceNeg, reduceIte, pvC_fgt, pvC_ids, pvC_ren, pvC_len, I, S, tv, nv, tyT, RawV.tv, R1.row, rowsGet, rowsLen, row4, Vk, Vn, Vs, Vl]
  simp only [vcA, Nat.reduceLT, Int.reduceEq, Int.reduceAdd, Int.reduceSub, Nat.reduceBEq, Nat.reduceEqDiff, reduceCtorEq, Nat.reduceAdd, Nat.reduceSub, Nat.reduceMul, Nat.reduceLeDiff, Int.reduceToNat, Int.reduceLT, Int.reduceLE, Int.reduceNeg, reduceIte, pvC_fgt, pvC_ids, pvC_ren, pvC_len, I, S, tv, nv, tyT, RawV.tv, R1.row, rowsGet, rowsLen, row4, Vk, Vn, Vs, Vl]
  (with_reducible apply v_call); (· simp only [vcA, Nat.reduceLT, Int.reduceEq, Int.reduceAdd, Int.reduceSub, Nat.reduceBEq, Nat.reduceEqDiff, reduceCtorEq, Nat.reduceAdd, Nat.reduceSub, Nat.reduceMul, Nat.reduceLeDiff, Int.reduceToNat, Int.reduceLT, Int.reduceLE, Int.reduceNeg, reduceIte, pvC_fgt, pvC_ids, pvC_ren, pvC_len, I, S, tv, nv, tyT, RawV.tv, R1.row, rowsGet, rowsLen, row4, Vk, Vn, Vs, Vl]; with_reducible rfl); (· exact HC); (· first | rfl | (simp only [moOk, nbeq, nble, List.length_nil, beq_self_eq_true, Bool.true_and, Bool.and_true, Bool.and_eq_true, decide_eq_true_eq]; omega)); (· simp only [vcA, Nat.reduceLT, Int.reduceEq, Int.reduceAdd, Int.reduceSub, Nat.reduceBEq, Nat.reduceEqDiff, reduceCtorEq, Nat.reduceAdd, Nat.reduceSub, Nat.reduceMul, Nat.reduceLeDiff, Int.reduceToNat, Int.reduceLT, Int.reduceLE, Int.reduceNeg, reduceIte, pvC_fgt, pvC_ids, pvC_ren, pvC_len, I, S, tv, nv, tyT, RawV.tv, R1.row, rowsGet, rowsLen, row4, Vk, Vn, Vs, Vl]; with_reducible rfl)
  simp only [vcA, Nat.reduceLT, Int.reduceEq, Int.reduceAdd, Int.reduceSub, Nat.reduceBEq, Nat.reduceEqDiff, reduceCtorEq, Nat.reduceAdd, Nat.reduceSub, Nat.reduceMul, Nat.reduceLeDiff, Int.reduceToNat, Int.reduceLT, Int.reduceLE, Int.reduceNeg, reduceIte, pvC_fgt, pvC_ids, pvC_ren, pvC_len, I, S, tv, nv, tyT, RawV.tv, R1.row, rowsGet, rowsLen, row4, Vk, Vn, Vs, Vl]
end Go.Proofs.YthjphllpkcnehaaGreatDoor
end

section
/- The document's signs of texts, and Go's own decoder: the same. -/
namespace Go.Mor
open Go
set_option maxHeartbeats 4000000

/-- How many bytes the first sign has: of so many bytes, by its first four. -/
def signN (n b0 b1 b2 b3 : Nat) : Nat :=
  if b0 < 128 then 1
  else if 194 ≤ b0 ∧ b0 ≤ 223 then (if n < 2 ∨ b1 < 128 ∨ 191 < b1 then 0 else 2)
  else if 224 ≤ b0 ∧ b0 ≤ 239 then (if n < 3 ∨ b1 < (if b0 = 224 then 160 else 128) ∨ (if b0 = 237 then 159 else 191) < b1 ∨ b2 < 128 ∨ 191 < b2 then 0 else 3)
  else if 240 ≤ b0 ∧ b0 ≤ 244 then (if n < 4 ∨ b1 < (if b0 = 240 then 144 else 128) ∨ (if b0 = 244 then 143 else 191) < b1 ∨ b2 < 128 ∨ 191 < b2 ∨ b3 < 128 ∨ 191 < b3 then 0 else 4)
  else 0
def signL (l : List UInt8) : Nat := if l = [] then 0 else signN l.length (l.getD 0 0).toNat (l.getD 1 0).toNat (l.getD 2 0).toNat (l.getD 3 0).toNat
theorem signN_decode (n b0 b1 b2 b3 : Nat) (h0 : b0 < 256) (h1 : b1 < 256) (h2 : b2 < 256) (h3 : b3 < 256) :
    signN n b0 b1 b2 b3 = if (Lib.decodeN n b0 b1 b2 b3).1 = 65533 ∧ (Lib.decodeN n b0 b1 b2 b3).2 = 1 then 0 else (Lib.decodeN n b0 b1 b2 b3).2 := by
  unfold signN Lib.decodeN
  repeat' split
  all_goals (simp_all <;> omega)
end Go.Mor
end

section
/- Small functions of chapter 3's statements, as plain functions. No statement of the program is proved here. -/
namespace Go.Proofs.YthjphllpkcnehaaGreatDoor
open Go Go.RowKit Go.Mor Go.Sh Go.Sh.Cd1
set_option maxRecDepth 100000
set_option maxHeartbeats 2000000
/-- The rules of walks. -/
theorem shA : (type_of% @Go.Proofs.YthjphllpkcnehaaGreatDoor.I.eq_1) ∧ (type_of% @Go.Proofs.YthjphllpkcnehaaGreatDoor.S.eq_1) ∧ (type_of% @Go.Sh.bFT) ∧ (type_of% @Go.Sh.bTF) ∧ (type_of% @Go.Sh.regE1.eq_1) ∧ (type_of% @Go.Sh.runE.eq_1) ∧ (type_of% @Go.Sh.runE.eq_2) ∧ (type_of% @Go.Sh.ES.fgt.eq_1) ∧ (type_of% @List.map_cons.{0, 0}) ∧ (type_of% @List.map_nil.{0, 0}) ∧ (type_of% @Go.Sh.fgt3.eq_1) ∧ (type_of% @Go.Sh.TV.m3.eq_1) ∧ (type_of% @Go.Sh.TV.m3.eq_2) ∧ (type_of% @Go.Sh.TV.m2.eq_1) ∧ (type_of% @Go.Sh.TV.m2.eq_2) ∧ (type_of% @Go.Sh.TV.m1.eq_1) ∧ (type_of% @Go.Sh.TV.m1.eq_2) ∧ (type_of% @Go.Sh.TV.m0.eq_1) ∧ (type_of% @Go.Sh.TV.m0.eq_2) ∧ (type_of% @Go.Sh.TV.m0.eq_3) ∧ (type_of% @Go.Sh.TV.m0.eq_4) ∧ (type_of% @Go.Sh.TV.m0.eq_5) ∧ (type_of% @Go.Sh.TV.m0.eq_6) ∧ (type_of% @Go.Sh.TV.m0.eq_7) ∧ (type_of% @List.any_cons.{0}) ∧ (type_of% @List.any_nil.{0}) ∧ (type_of% @Bool.or_false) ∧ (type_of% @Bool.false_or) ∧ (type_of% @Go.Sh.drp.eq_1) ∧ (type_of% @Go.Sh.drp.eq_2) ∧ (type_of% @Go.Sh.effG.eq_1) ∧ (type_of% @Go.Sh.effF.eq_1) ∧ (type_of% @Go.Sh.footOk.eq_1) ∧ (type_of% @Go.Sh.SOp.foot.eq_1) ∧ (type_of% @Go.Sh.SOp.foot.eq_2) ∧ (type_of% @Go.Sh.SOp.foot.eq_3) ∧ (type_of% @Go.Sh.eff.eq_1) ∧ (type_of% @Go.Sh.eff.eq_2) ∧ (type_of% @Go.Sh.eff.eq_3) ∧ (type_of% @Go.Sh.eff.eq_4) ∧ (type_of% @Go.Sh.eff.eq_5) ∧ (type_of% @Go.Sh.eff.eq_6) ∧ (type_of% @Go.Sh.eff.eq_7) ∧ (type_of% @Go.Sh.eff.eq_8) ∧ (type_of% @Go.Sh.eff.eq_9) ∧ (type_of% @Go.Sh.eff.eq_10) ∧ (type_of% @Go.Sh.eff.eq_11) ∧ (type_of% @Go.Sh.eff.eq_12) ∧ (type_of% @Go.Sh.eff.eq_13) ∧ (type_of% @Go.Sh.eff.eq_14) ∧ (type_of% @Go.Sh.eff.eq_15) ∧ (type_of% @Go.Sh.eff.eq_16) ∧ (type_of% @Go.Sh.eff.eq_17) ∧ (type_of% @Go.Sh.eff.eq_18) ∧ (type_of% @Go.Sh.eff.eq_19) ∧ (type_of% @Go.Sh.eff.eq_20) ∧ (type_of% @Go.Sh.eff.eq_21) ∧ (type_of% @Go.Sh.eff.eq_22) ∧ (type_of% @Go.Sh.eff.eq_23) ∧ (type_of% @Go.Sh.eff.eq_24) ∧ (type_of% @Go.Sh.eff.eq_25) ∧ (type_of% @Go.Sh.eff.eq_26) ∧ (type_of% @Go.Sh.eff.eq_27) ∧ (type_of% @Go.Sh.eff.eq_28) ∧ (type_of% @Go.Sh.eff.eq_29) ∧ (type_of% @Go.Sh.eff.eq_30) ∧ (type_of% @Go.Sh.eff.eq_31) ∧ (type_of% @Go.Sh.eff.eq_32) ∧ (type_of% @Go.Sh.eff.eq_33) ∧ (type_of% @Go.Sh.eff.eq_34) ∧ (type_of% @Go.Sh.eff.eq_35) ∧ (type_of% @Go.Sh.eff.eq_36) ∧ (type_of% @Go.Sh.eff.eq_37) ∧ (type_of% @Go.Sh.eff.eq_38) ∧ (type_of% @Go.Sh.eff.eq_39) ∧ (type_of% @Go.Sh.eff.eq_40) ∧ (type_of% @Go.Sh.Arg.get.eq_1) ∧ (type_of% @Go.Sh.Arg.get.eq_2) ∧ (type_of% @Go.Sh.ES.fs.eq_1) ∧ (type_of% @Go.Sh.lk.eq_1) ∧ (type_of% @Go.Sh.lk.eq_2) ∧ (type_of% @Option.map_some.{0, 0}) ∧ (type_of% @Option.bind_some.{0, 0}) ∧ (type_of% @Go.Sh.ES.after.eq_1) ∧ (type_of% @Go.Sh.ES.upd.eq_1) ∧ (type_of% @Go.Sh.ES.upd.eq_2) ∧ (type_of% @Go.Sh.ES.upd.eq_3) ∧ (type_of% @Go.Sh.ES.upd.eq_4) ∧ (type_of% @Go.Sh.ES.upd.eq_5) ∧ (type_of% @Go.Sh.ES.upd.eq_6) ∧ (type_of% @Go.Sh.ES.upd.eq_7) ∧ (type_of% @Go.Sh.ES.put.eq_1) ∧ (type_of% @Go.Sh.ES.put.eq_2) ∧ (type_of% @Go.Sh.sv.eq_1) ∧ (type_of% @Go.Sh.sv.eq_2) ∧ (type_of% @Go.Sh.ES.kill.eq_1) ∧ (type_of% @Go.Sh.ES.kill.eq_2) ∧ (type_of% @Go.Sh.has.eq_1) ∧ (type_of% @Go.Sh.has.eq_2) ∧ (type_of% @Go.Sh.nbeq) ∧ (type_of% @Go.Sh.nble) ∧ (type_of% @Go.Sh.nblt) ∧ (type_of% @Go.Sh.TV.val.eq_1) ∧ (type_of% @Go.Sh.TV.val.eq_2) ∧ (type_of% @Go.Sh.TV.val1.eq_1) ∧ (type_of% @Go.Sh.TV.val1.eq_2) ∧ (type_of% @Go.Sh.TV.int.eq_1) ∧ (type_of% @Go.Sh.TV.int.eq_2) ∧ (type_of% @Go.Sh.TV.str.eq_1) ∧ (type_of% @Go.Sh.TV.str.eq_2) ∧ (type_of% @Go.Sh.TV.cells.eq_1) ∧ (type_of% @Go.Sh.TV.cells.eq_2) ∧ (type_of% @Go.Sh.TV.cells.eq_3) ∧ (type_of% @Go.Sh.TV.cells.eq_4) ∧ (type_of% @Go.Sh.TV.cells.eq_5) ∧ (type_of% @Go.Sh.TV.slen.eq_1) ∧ (type_of% @Go.Sh.TV.slen.eq_2) ∧ (type_of% @Go.Sh.TV.slen.eq_3) ∧ (type_of% @Go.Sh.TV.slen.eq_4) ∧ (type_of% @Go.Sh.TV.slen.eq_5) ∧ (type_of% @Go.Sh.TV.toPV.eq_1) ∧ (type_of% @Go.Sh.TV.toPV.eq_2) ∧ (type_of% @Go.Sh.TV.toPV.eq_3) ∧ (type_of% @Go.Sh.TV.pvs.eq_1) ∧ (type_of% @Go.Sh.seqO.eq_1) ∧ (type_of% @Go.Sh.seqO.eq_2) ∧ (type_of% @Go.Sh.bin_lss) ∧ (type_of% @Go.Sh.bin_gtr) ∧ (type_of% @Go.Sh.bin_leq) ∧ (type_of% @Go.Sh.bin_geq) ∧ (type_of% @Go.Sh.bin_eql) ∧ (type_of% @Go.Sh.bin_neq) ∧ (type_of% @Go.Sh.bin_add) ∧ (type_of% @Go.Sh.bin_sub) ∧ (type_of% @Go.Sh.bin_mul) ∧ (type_of% @Go.Sh.sbin_eql) ∧ (type_of% @Go.Sh.sbin_neq) ∧ (type_of% @Go.Sh.sbin_lss) ∧ (type_of% @Go.Sh.sbin_gtr) ∧ (type_of% @Go.Sh.un_neg) ∧ (type_of% @Go.Sh.un_not) ∧ (type_of% @Go.Sh.startE.eq_1) ∧ (type_of% @Go.Sh.numT.eq_1) ∧ (type_of% @Go.Sh.numT.eq_2) ∧ (type_of% @Go.Sh.numB.eq_1) ∧ (type_of% @Go.Sh.numB.eq_2) ∧ (type_of% @Go.Sh.numB.eq_3) ∧ (type_of% @Go.Sh.numR.eq_1) ∧ (type_of% @Go.Sh.numR.eq_2) ∧ (type_of% @Go.Sh.numR.eq_3) ∧ (type_of% @Go.Sh.ansW.eq_1) ∧ (type_of% @Go.Sh.ansW.eq_2) ∧ (type_of% @Go.Sh.resT.eq_1) ∧ (type_of% @Go.Sh.resT.eq_2) ∧ (type_of% @Go.Sh.SRes.get.eq_1) ∧ (type_of% @Go.Sh.SRes.get.eq_2) ∧ (type_of% @List.flatMap_nil.{0, 0}) ∧ (type_of% @List.flatMap_cons.{0, 0}) ∧ (type_of% @List.append_nil.{0}) ∧ (type_of% @List.nil_append.{0}) ∧ (type_of% @Go.Sh.TV.ids3.eq_1) ∧ (type_of% @Go.Sh.TV.ids3.eq_2) ∧ (type_of% @Go.Sh.TV.ids2.eq_1) ∧ (type_of% @Go.Sh.TV.ids2.eq_2) ∧ (type_of% @Go.Sh.TV.ids1.eq_1) ∧ (type_of% @Go.Sh.TV.ids1.eq_2) ∧ (type_of% @Go.Sh.TV.ids0.eq_1) ∧ (type_of% @Go.Sh.TV.ids0.eq_2) ∧ (type_of% @Go.Sh.TV.ids0.eq_3) ∧ (type_of% @Go.Sh.TV.ids0.eq_4) ∧ (type_of% @Go.Sh.TV.ren3.eq_1) ∧ (type_of% @Go.Sh.TV.ren3.eq_2) ∧ (type_of% @Go.Sh.TV.ren2.eq_1) ∧ (type_of% @Go.Sh.TV.ren2.eq_2) ∧ (type_of% @Go.Sh.TV.ren1.eq_1) ∧ (type_of% @Go.Sh.TV.ren1.eq_2) ∧ (type_of% @Go.Sh.TV.ren0.eq_1) ∧ (type_of% @Go.Sh.TV.ren0.eq_2) ∧ (type_of% @Go.Sh.TV.ren0.eq_3) ∧ (type_of% @Go.Sh.TV.ren0.eq_4) ∧ (type_of% @Go.Sh.TV.ren0.eq_5) ∧ (type_of% @Go.Sh.TV.ren0.eq_6) ∧ (type_of% @Go.Sh.bound.eq_1) ∧ (type_of% @Go.Sh.bound.eq_2) ∧ (type_of% @if_true.{1}) ∧ (type_of% @if_false.{1}) ∧ (type_of% @Bool.false_eq_true) ∧ (type_of% @Go.Sh.partsT.eq_1) ∧ (type_of% @Go.Sh.fillT.eq_1) ∧ (type_of% @Go.Sh.fillT.eq_2) ∧ (type_of% @Go.Sh.splice.eq_1) ∧ (type_of% @List.take_zero.{0}) ∧ (type_of% @List.take_succ_cons.{0}) ∧ (type_of% @List.drop_zero.{0}) ∧ (type_of% @List.drop_succ_cons.{0}) ∧ (type_of% @List.length_cons.{0}) ∧ (type_of% @List.length_nil.{0}) ∧ (type_of% @and_self) ∧ (type_of% @and_true) ∧ (type_of% @true_and) ∧ (type_of% @List.cons_append.{0}) ∧ (type_of% @List.getElem?_cons_zero.{0}) ∧ (type_of% @List.getElem?_cons_succ.{0}) ∧ (type_of% @Nat.zero_add) ∧ (type_of% @Bool.not_true) ∧ (type_of% @Bool.not_false) ∧ (type_of% @Go.Value.oneCell'.eq_1) ∧ (type_of% @Go.Value.oneCell'.eq_2) ∧ (type_of% @Go.Value.oneCell'.eq_3) ∧ (type_of% @Go.Mor.str_toList) ∧ (type_of% @Go.Mor.str_size') ∧ (type_of% @Int.toNat_natCast) ∧ (type_of% @decide_true) ∧ (type_of% @decide_false) ∧ (type_of% @beq_self_eq_true.{0}) ∧ (type_of% @Go.Sh.handI.eq_1) ∧ (type_of% @Go.Sh.FS.mo.eq_1) ∧ (type_of% @Go.Sh.MO.ren.eq_1) ∧ (type_of% @Go.Sh.MO.ren.eq_2) ∧ (type_of% @Go.Sh.rhoIn.eq_1) ∧ (type_of% @Go.Sh.pos.eq_1) ∧ (type_of% @Go.Sh.pos.eq_2) ∧ (type_of% @Go.Sh.rhoOut.eq_1) ∧ (type_of% @Go.Sh.outs.eq_1) ∧ (type_of% @Go.Sh.outs.eq_2) ∧ (type_of% @Go.Sh.newId.eq_1) ∧ (type_of% @Go.Sh.dstId.eq_1) ∧ (type_of% @Go.Sh.dstId.eq_2) ∧ (type_of% @Go.Sh.putMem.eq_1) ∧ (type_of% @Go.Sh.putMem.eq_2) ∧ (type_of% @List.lookup.eq_1.{0, 0}) ∧ (type_of% @List.lookup.eq_2.{0, 0}) ∧ (type_of% @Go.Sh.moOk.eq_1) ∧ (type_of% @Go.Sh.moOk.eq_2) ∧ (type_of% @Go.Sh.moOk.eq_3) ∧ (type_of% @Go.Sh.moOk.eq_4) ∧ (type_of% @Nat.le_refl) ∧ (type_of% @Int.natCast_nonneg) :=
  ⟨@Go.Proofs.YthjphllpkcnehaaGreatDoor.I.eq_1, @Go.Proofs.YthjphllpkcnehaaGreatDoor.S.eq_1, @Go.Sh.bFT, @Go.Sh.bTF, @Go.Sh.regE1.eq_1, @Go.Sh.runE.eq_1, @Go.Sh.runE.eq_2, @Go.Sh.ES.fgt.eq_1, @List.map_cons.{0, 0}, @List.map_nil.{0, 0}, @Go.Sh.fgt3.eq_1, @Go.Sh.TV.m3.eq_1, @Go.Sh.TV.m3.eq_2, @Go.Sh.TV.m2.eq_1, @Go.Sh.TV.m2.eq_2, @Go.Sh.TV.m1.eq_1, @Go.Sh.TV.m1.eq_2, @Go.Sh.TV.m0.eq_1, @Go.Sh.TV.m0.eq_2, @Go.Sh.TV.m0.eq_3, @Go.Sh.TV.m0.eq_4, @Go.Sh.TV.m0.eq_5, @Go.Sh.TV.m0.eq_6, @Go.Sh.TV.m0.eq_7, @List.any_cons.{0}, @List.any_nil.{0}, @Bool.or_false, @Bool.false_or, @Go.Sh.drp.eq_1, @Go.Sh.drp.eq_2, @Go.Sh.effG.eq_1, @Go.Sh.effF.eq_1, @Go.Sh.footOk.eq_1, @Go.Sh.SOp.foot.eq_1, @Go.Sh.SOp.foot.eq_2, @Go.Sh.SOp.foot.eq_3, @Go.Sh.eff.eq_1, @Go.Sh.eff.eq_2, @Go.Sh.eff.eq_3, @Go.Sh.eff.eq_4, @Go.Sh.eff.eq_5, @Go.Sh.eff.eq_6, @Go.Sh.eff.eq_7, @Go.Sh.eff.eq_8, @Go.Sh.eff.eq_9, @Go.Sh.eff.eq_10, @Go.Sh.eff.eq_11, @Go.Sh.eff.eq_12, @Go.Sh.eff.eq_13, @Go.Sh.eff.eq_14, @Go.Sh.eff.eq_15, @Go.Sh.eff.eq_16, @Go.Sh.eff.eq_17, @Go.Sh.eff.eq_18, @Go.Sh.eff.eq_19, @Go.Sh.eff.eq_20, @Go.Sh.eff.eq_21, @Go.Sh.eff.eq_22, @Go.Sh.eff.eq_23, @Go.Sh.eff.eq_24, @Go.Sh.eff.eq_25, @Go.Sh.eff.eq_26, @Go.Sh.eff.eq_27, @Go.Sh.eff.eq_28, @Go.Sh.eff.eq_29, @Go.Sh.eff.eq_30, @Go.Sh.eff.eq_31, @Go.Sh.eff.eq_32, @Go.Sh.eff.eq_33, @Go.Sh.eff.eq_34, @Go.Sh.eff.eq_35, @Go.Sh.eff.eq_36, @Go.Sh.eff.eq_37, @Go.Sh.eff.eq_38, @Go.Sh.eff.eq_39, @Go.Sh.eff.eq_40, @Go.Sh.Arg.get.eq_1, @Go.Sh.Arg.get.eq_2, @Go.Sh.ES.fs.eq_1, @Go.Sh.lk.eq_1, @Go.Sh.lk.eq_2, @Option.map_some.{0, 0}, @Option.bind_some.{0, 0}, @Go.Sh.ES.after.eq_1, @Go.Sh.ES.upd.eq_1, @Go.Sh.ES.upd.eq_2, @Go.Sh.ES.upd.eq_3, @Go.Sh.ES.upd.eq_4, @Go.Sh.ES.upd.eq_5, @Go.Sh.ES.upd.eq_6, @Go.Sh.ES.upd.eq_7, @Go.Sh.ES.put.eq_1, @Go.Sh.ES.put.eq_2, @Go.Sh.sv.eq_1, @Go.Sh.sv.eq_2, @Go.Sh.ES.kill.eq_1, @Go.Sh.ES.kill.eq_2, @Go.Sh.has.eq_1, @Go.Sh.has.eq_2, @Go.Sh.nbeq, @Go.Sh.nble, @Go.Sh.nblt, @Go.Sh.TV.val.eq_1, @Go.Sh.TV.val.eq_2, @Go.Sh.TV.val1.eq_1, @Go.Sh.TV.val1.eq_2, @Go.Sh.TV.int.eq_1, @Go.Sh.TV.int.eq_2, @Go.Sh.TV.str.eq_1, @Go.Sh.TV.str.eq_2, @Go.Sh.TV.cells.eq_1, @Go.Sh.TV.cells.eq_2, @Go.Sh.TV.cells.eq_3, @Go.Sh.TV.cells.eq_4, @Go.Sh.TV.cells.eq_5, @Go.Sh.TV.slen.eq_1, @Go.Sh.TV.slen.eq_2, @Go.Sh.TV.slen.eq_3, @Go.Sh.TV.slen.eq_4, @Go.Sh.TV.slen.eq_5, @Go.Sh.TV.toPV.eq_1, @Go.Sh.TV.toPV.eq_2, @Go.Sh.TV.toPV.eq_3, @Go.Sh.TV.pvs.eq_1, @Go.Sh.seqO.eq_1, @Go.Sh.seqO.eq_2, @Go.Sh.bin_lss, @Go.Sh.bin_gtr, @Go.Sh.bin_leq, @Go.Sh.bin_geq, @Go.Sh.bin_eql, @Go.Sh.bin_neq, @Go.Sh.bin_add, @Go.Sh.bin_sub, @Go.Sh.bin_mul, @Go.Sh.sbin_eql, @Go.Sh.sbin_neq, @Go.Sh.sbin_lss, @Go.Sh.sbin_gtr, @Go.Sh.un_neg, @Go.Sh.un_not, @Go.Sh.startE.eq_1, @Go.Sh.numT.eq_1, @Go.Sh.numT.eq_2, @Go.Sh.numB.eq_1, @Go.Sh.numB.eq_2, @Go.Sh.numB.eq_3, @Go.Sh.numR.eq_1, @Go.Sh.numR.eq_2, @Go.Sh.numR.eq_3, @Go.Sh.ansW.eq_1, @Go.Sh.ansW.eq_2, @Go.Sh.resT.eq_1, @Go.Sh.resT.eq_2, @Go.Sh.SRes.get.eq_1, @Go.Sh.SRes.get.eq_2, @List.flatMap_nil.{0, 0}, @List.flatMap_cons.{0, 0}, @List.append_nil.{0}, @List.nil_append.{0}, @Go.Sh.TV.ids3.eq_1, @Go.Sh.TV.ids3.eq_2, @Go.Sh.TV.ids2.eq_1, @Go.Sh.TV.ids2.eq_2, @Go.Sh.TV.ids1.eq_1, @Go.Sh.TV.ids1.eq_2, @Go.Sh.TV.ids0.eq_1, @Go.Sh.TV.ids0.eq_2, @Go.Sh.TV.ids0.eq_3, @Go.Sh.TV.ids0.eq_4, @Go.Sh.TV.ren3.eq_1, @Go.Sh.TV.ren3.eq_2, @Go.Sh.TV.ren2.eq_1, @Go.Sh.TV.ren2.eq_2, @Go.Sh.TV.ren1.eq_1, @Go.Sh.TV.ren1.eq_2, @Go.Sh.TV.ren0.eq_1, @Go.Sh.TV.ren0.eq_2, @Go.Sh.TV.ren0.eq_3, @Go.Sh.TV.ren0.eq_4, @Go.Sh.TV.ren0.eq_5, @Go.Sh.TV.ren0.eq_6, @Go.Sh.bound.eq_1, @Go.Sh.bound.eq_2, @if_true.{1}, @if_false.{1}, @Bool.false_eq_true, @Go.Sh.partsT.eq_1, @Go.Sh.fillT.eq_1, @Go.Sh.fillT.eq_2, @Go.Sh.splice.eq_1, @List.take_zero.{0}, @List.take_succ_cons.{0}, @List.drop_zero.{0}, @List.drop_succ_cons.{0}, @List.length_cons.{0}, @List.length_nil.{0}, @and_self, @and_true, @true_and, @List.cons_append.{0}, @List.getElem?_cons_zero.{0}, @List.getElem?_cons_succ.{0}, @Nat.zero_add, @Bool.not_true, @Bool.not_false, @Go.Value.oneCell'.eq_1, @Go.Value.oneCell'.eq_2, @Go.Value.oneCell'.eq_3, @Go.Mor.str_toList, @Go.Mor.str_size', @Int.toNat_natCast, @decide_true, @decide_false, @beq_self_eq_true.{0}, @Go.Sh.handI.eq_1, @Go.Sh.FS.mo.eq_1, @Go.Sh.MO.ren.eq_1, @Go.Sh.MO.ren.eq_2, @Go.Sh.rhoIn.eq_1, @Go.Sh.pos.eq_1, @Go.Sh.pos.eq_2, @Go.Sh.rhoOut.eq_1, @Go.Sh.outs.eq_1, @Go.Sh.outs.eq_2, @Go.Sh.newId.eq_1, @Go.Sh.dstId.eq_1, @Go.Sh.dstId.eq_2, @Go.Sh.putMem.eq_1, @Go.Sh.putMem.eq_2, @List.lookup.eq_1.{0, 0}, @List.lookup.eq_2.{0, 0}, @Go.Sh.moOk.eq_1, @Go.Sh.moOk.eq_2, @Go.Sh.moOk.eq_3, @Go.Sh.moOk.eq_4, @Nat.le_refl, @Int.natCast_nonneg⟩
def ordI (a b : Int) : Int := if a < b then -1 else if b < a then 1 else 0
theorem order_ok (g : Sh.Glob) (a b : Int) : SCalls Tryz.prog g 73 [I a, I b] [] (I (ordI a b)) [] := by
  refine call_of0 hmix tf_moraineref03_Order rfl ?_
  unfold ordI
  by_cases h1 : a < b
  · have d1 := decide_T h1
    repeat (first | (with_reducible apply w_unr) | (with_reducible apply w_assoc) | (with_reducible apply w_skip) | (with_reducible apply w_ret) | (with_reducible apply w_retE) | (with_reducible apply w_skipE) | (with_reducible apply w_exit) | (with_reducible apply w_exitE) | (with_reducible apply w_block) | (with_reducible apply w_blockE) | ((with_reducible apply w_reg); · simp only [shA, eff, Int.reduceEq, Int.reduceAdd, Int.reduceSub, Nat.reduceBEq, Nat.reduceEqDiff, reduceCtorEq, Nat.reduceAdd, Nat.reduceSub, Nat.reduceMul, Nat.reduceLeDiff, Int.reduceToNat, Int.reduceLT, Int.reduceLE, Int.reduceNeg, d1]; with_reducible rfl) | ((with_reducible apply w_regE); · simp only [shA, eff, Int.reduceEq, Int.reduceAdd, Int.reduceSub, Nat.reduceBEq, Nat.reduceEqDiff, reduceCtorEq, Nat.reduceAdd, Nat.reduceSub, Nat.reduceMul, Nat.reduceLeDiff, Int.reduceToNat, Int.reduceLT, Int.reduceLE, Int.reduceNeg, d1]; with_reducible rfl) | ((with_reducible apply w_condT); · simp only [shA, eff, Int.reduceEq, Int.reduceAdd, Int.reduceSub, Nat.reduceBEq, Nat.reduceEqDiff, reduceCtorEq, Nat.reduceAdd, Nat.reduceSub, Nat.reduceMul, Nat.reduceLeDiff, Int.reduceToNat, Int.reduceLT, Int.reduceLE, Int.reduceNeg, d1]) | ((with_reducible apply w_condF); · simp only [shA, eff, Int.reduceEq, Int.reduceAdd, Int.reduceSub, Nat.reduceBEq, Nat.reduceEqDiff, reduceCtorEq, Nat.reduceAdd, Nat.reduceSub, Nat.reduceMul, Nat.reduceLeDiff, Int.reduceToNat, Int.reduceLT, Int.reduceLE, Int.reduceNeg, d1]) | ((with_reducible apply w_condTE); · simp only [shA, eff, Int.reduceEq, Int.reduceAdd, Int.reduceSub, Nat.reduceBEq, Nat.reduceEqDiff, reduceCtorEq, Nat.reduceAdd, Nat.reduceSub, Nat.reduceMul, Nat.reduceLeDiff, Int.reduceToNat, Int.reduceLT, Int.reduceLE, Int.reduceNeg, d1]) | ((with_reducible apply w_condFE); · simp only [shA, eff, Int.reduceEq, Int.reduceAdd, Int.reduceSub, Nat.reduceBEq, Nat.reduceEqDiff, reduceCtorEq, Nat.reduceAdd, Nat.reduceSub, Nat.reduceMul, Nat.reduceLeDiff, Int.reduceToNat, Int.reduceLT, Int.reduceLE, Int.reduceNeg, d1]) | (with_reducible apply q_then) | (with_reducible apply q_blockN) | (with_reducible apply q_blockR) | (with_reducible apply q_thenR) | (with_reducible apply q_thenX) | (with_reducible apply q_blockX) | ((with_reducible apply q_blockY); · rfl))
    simp [Post0, ansW, resT, SRes.get, ES.fs, ES.kill, has, drp, seqO, nbeq, lk, I, S, TV.ids3, TV.ids2, TV.ids1, TV.ids0, TV.ren3, TV.ren2, TV.ren1, TV.ren0, F_moraineref03_Order, h1]
  · have d1 := decide_F h1
    by_cases h2 : b < a
    · have d2 := decide_T h2
      repeat (first | (with_reducible apply w_unr) | (with_reducible apply w_assoc) | (with_reducible apply w_skip) | (with_reducible apply w_ret) | (with_reducible apply w_retE) | (with_reducible apply w_skipE) | (with_reducible apply w_exit) | (with_reducible apply w_exitE) | (with_reducible apply w_block) | (with_reducible apply w_blockE) | ((with_reducible apply w_reg); · simp only [shA, eff, Int.reduceEq, Int.reduceAdd, Int.reduceSub, Nat.reduceBEq, Nat.reduceEqDiff, reduceCtorEq, Nat.reduceAdd, Nat.reduceSub, Nat.reduceMul, Nat.reduceLeDiff, Int.reduceToNat, Int.reduceLT, Int.reduceLE, Int.reduceNeg, d1, d2]; with_reducible rfl) | ((with_reducible apply w_regE); · simp only [shA, eff, Int.reduceEq, Int.reduceAdd, Int.reduceSub, Nat.reduceBEq, Nat.reduceEqDiff, reduceCtorEq, Nat.reduceAdd, Nat.reduceSub, Nat.reduceMul, Nat.reduceLeDiff, Int.reduceToNat, Int.reduceLT, Int.reduceLE, Int.reduceNeg, d1, d2]; with_reducible rfl) | ((with_reducible apply w_condT); · simp only [shA, eff, Int.reduceEq, Int.reduceAdd, Int.reduceSub, Nat.reduceBEq, Nat.reduceEqDiff, reduceCtorEq, Nat.reduceAdd, Nat.reduceSub, Nat.reduceMul, Nat.reduceLeDiff, Int.reduceToNat, Int.reduceLT, Int.reduceLE, Int.reduceNeg, d1, d2]) | ((with_reducible apply w_condF); · simp only [shA, eff, Int.reduceEq, Int.reduceAdd, Int.reduceSub, Nat.reduceBEq, Nat.reduceEqDiff, reduceCtorEq, Nat.reduceAdd, Nat.reduceSub, Nat.reduceMul, Nat.reduceLeDiff, Int.reduceToNat, Int.reduceLT, Int.reduceLE, Int.reduceNeg, d1, d2]) | ((with_reducible apply w_condTE); · simp only [shA, eff, Int.reduceEq, Int.reduceAdd, Int.reduceSub, Nat.reduceBEq, Nat.reduceEqDiff, reduceCtorEq, Nat.reduceAdd, Nat.reduceSub, Nat.reduceMul, Nat.reduceLeDiff, Int.reduceToNat, Int.reduceLT, Int.reduceLE, Int.reduceNeg, d1, d2]) | ((with_reducible apply w_condFE); · simp only [shA, eff, Int.reduceEq, Int.reduceAdd, Int.reduceSub, Nat.reduceBEq, Nat.reduceEqDiff, reduceCtorEq, Nat.reduceAdd, Nat.reduceSub, Nat.reduceMul, Nat.reduceLeDiff, Int.reduceToNat, Int.reduceLT, Int.reduceLE, Int.reduceNeg, d1, d2]) | (with_reducible apply q_then) | (with_reducible apply q_blockN) | (with_reducible apply q_blockR) | (with_reducible apply q_thenR) | (with_reducible apply q_thenX) | (with_reducible apply q_blockX) | ((with_reducible apply q_blockY); · rfl))
      simp [Post0, ansW, resT, SRes.get, ES.fs, ES.kill, has, drp, seqO, nbeq, lk, I, S, TV.ids3, TV.ids2, TV.ids1, TV.ids0, TV.ren3, TV.ren2, TV.ren1, TV.ren0, F_moraineref03_Order, h1, h2]
    · have d2 := decide_F h2
      repeat (first | (with_reducible apply w_unr) | (with_reducible apply w_assoc) | (with_reducible apply w_skip) | (with_reducible apply w_ret) | (with_reducible apply w_retE) | (with_reducible apply w_skipE) | (with_reducible apply w_exit) | (with_reducible apply w_exitE) | (with_reducible apply w_block) | (with_reducible apply w_blockE) | ((with_reducible apply w_reg); · simp only [shA, eff, Int.reduceEq, Int.reduceAdd, Int.reduceSub, Nat.reduceBEq, Nat.reduceEqDiff, reduceCtorEq, Nat.reduceAdd, Nat.reduceSub, Nat.reduceMul, Nat.reduceLeDiff, Int.reduceToNat, Int.reduceLT, Int.reduceLE, Int.reduceNeg, d1, d2]; with_reducible rfl) | ((with_reducible apply w_regE); · simp only [shA, eff, Int.reduceEq, Int.reduceAdd, Int.reduceSub, Nat.reduceBEq, Nat.reduceEqDiff, reduceCtorEq, Nat.reduceAdd, Nat.reduceSub, Nat.reduceMul, Nat.reduceLeDiff, Int.reduceToNat, Int.reduceLT, Int.reduceLE, Int.reduceNeg, d1, d2]; with_reducible rfl) | ((with_reducible apply w_condT); · simp only [shA, eff, Int.reduceEq, Int.reduceAdd, Int.reduceSub, Nat.reduceBEq, Nat.reduceEqDiff, reduceCtorEq, Nat.reduceAdd, Nat.reduceSub, Nat.reduceMul, Nat.reduceLeDiff, Int.reduceToNat, Int.reduceLT, Int.reduceLE, Int.reduceNeg, d1, d2]) | ((with_reducible apply w_condF); · simp only [shA, eff, Int.reduceEq, Int.reduceAdd, Int.reduceSub, Nat.reduceBEq, Nat.reduceEqDiff, reduceCtorEq, Nat.reduceAdd, Nat.reduceSub, Nat.reduceMul, Nat.reduceLeDiff, Int.reduceToNat, Int.reduceLT, Int.reduceLE, Int.reduceNeg, d1, d2]) | ((with_reducible apply w_condTE); · simp only [shA, eff, Int.reduceEq, Int.reduceAdd, Int.reduceSub, Nat.reduceBEq, Nat.reduceEqDiff, reduceCtorEq, Nat.reduceAdd, Nat.reduceSub, Nat.reduceMul, Nat.reduceLeDiff, Int.reduceToNat, Int.reduceLT, Int.reduceLE, Int.reduceNeg, d1, d2]) | ((with_reducible apply w_condFE); · simp only [shA, eff, Int.reduceEq, Int.reduceAdd, Int.reduceSub, Nat.reduceBEq, Nat.reduceEqDiff, reduceCtorEq, Nat.reduceAdd, Nat.reduceSub, Nat.reduceMul, Nat.reduceLeDiff, Int.reduceToNat, Int.reduceLT, Int.reduceLE, Int.reduceNeg, d1, d2]) | (with_reducible apply q_then) | (with_reducible apply q_blockN) | (with_reducible apply q_blockR) | (with_reducible apply q_thenR) | (with_reducible apply q_thenX) | (with_reducible apply q_blockX) | ((with_reducible apply q_blockY); · rfl))
      simp [Post0, ansW, resT, SRes.get, ES.fs, ES.kill, has, drp, seqO, nbeq, lk, I, S, TV.ids3, TV.ids2, TV.ids1, TV.ids0, TV.ren3, TV.ren2, TV.ren1, TV.ren0, F_moraineref03_Order, h1, h2]
/-- Which of n things a raw number speaks of. -/
def pickI (c n : Int) : Int := (if c < 0 then -(c + 1) else c).tmod n
theorem pick_ok (g : Sh.Glob) (c n : Int) (hc0 : -9223372036854775808 ≤ c) (hc1 : c ≤ 9223372036854775807) (hn : n ≠ 0) : SCalls Tryz.prog g 52 [I c, I n] [] (I (pickI c n)) [] := by
  refine call_of0 hmix tf_morainelaw03_pick rfl ?_
  have hr := fun (a : Int) => bin_rem Tryz.prog 3 .i64 a n hn
  unfold pickI
  by_cases h : c < 0
  · have d1 := decide_T h
    have w1 : IntKind.i64.wrap (c + 1) = c + 1 := wrap64 (by omega) (by omega)
    have w2 : IntKind.i64.wrap (0 - (c + 1)) = -(c + 1) := by rw [wrap64 (by omega) (by omega)]; omega
    repeat (first | (with_reducible apply w_unr) | (with_reducible apply w_assoc) | (with_reducible apply w_skip) | (with_reducible apply w_ret) | (with_reducible apply w_retE) | (with_reducible apply w_skipE) | (with_reducible apply w_exit) | (with_reducible apply w_exitE) | (with_reducible apply w_block) | (with_reducible apply w_blockE) | ((with_reducible apply w_reg); · simp only [shA, eff, Int.reduceEq, Int.reduceAdd, Int.reduceSub, Nat.reduceBEq, Nat.reduceEqDiff, reduceCtorEq, Nat.reduceAdd, Nat.reduceSub, Nat.reduceMul, Nat.reduceLeDiff, Int.reduceToNat, Int.reduceLT, Int.reduceLE, Int.reduceNeg, d1, hr, w1, w2]; with_reducible rfl) | ((with_reducible apply w_regE); · simp only [shA, eff, Int.reduceEq, Int.reduceAdd, Int.reduceSub, Nat.reduceBEq, Nat.reduceEqDiff, reduceCtorEq, Nat.reduceAdd, Nat.reduceSub, Nat.reduceMul, Nat.reduceLeDiff, Int.reduceToNat, Int.reduceLT, Int.reduceLE, Int.reduceNeg, d1, hr, w1, w2]; with_reducible rfl) | ((with_reducible apply w_condT); · simp only [shA, eff, Int.reduceEq, Int.reduceAdd, Int.reduceSub, Nat.reduceBEq, Nat.reduceEqDiff, reduceCtorEq, Nat.reduceAdd, Nat.reduceSub, Nat.reduceMul, Nat.reduceLeDiff, Int.reduceToNat, Int.reduceLT, Int.reduceLE, Int.reduceNeg, d1, hr, w1, w2]) | ((with_reducible apply w_condF); · simp only [shA, eff, Int.reduceEq, Int.reduceAdd, Int.reduceSub, Nat.reduceBEq, Nat.reduceEqDiff, reduceCtorEq, Nat.reduceAdd, Nat.reduceSub, Nat.reduceMul, Nat.reduceLeDiff, Int.reduceToNat, Int.reduceLT, Int.reduceLE, Int.reduceNeg, d1, hr, w1, w2]) | ((with_reducible apply w_condTE); · simp only [shA, eff, Int.reduceEq, Int.reduceAdd, Int.reduceSub, Nat.reduceBEq, Nat.reduceEqDiff, reduceCtorEq, Nat.reduceAdd, Nat.reduceSub, Nat.reduceMul, Nat.reduceLeDiff, Int.reduceToNat, Int.reduceLT, Int.reduceLE, Int.reduceNeg, d1, hr, w1, w2]) | ((with_reducible apply w_condFE); · simp only [shA, eff, Int.reduceEq, Int.reduceAdd, Int.reduceSub, Nat.reduceBEq, Nat.reduceEqDiff, reduceCtorEq, Nat.reduceAdd, Nat.reduceSub, Nat.reduceMul, Nat.reduceLeDiff, Int.reduceToNat, Int.reduceLT, Int.reduceLE, Int.reduceNeg, d1, hr, w1, w2]) | (with_reducible apply q_then) | (with_reducible apply q_blockN) | (with_reducible apply q_blockR) | (with_reducible apply q_thenR) | (with_reducible apply q_thenX) | (with_reducible apply q_blockX) | ((with_reducible apply q_blockY); · rfl))
    simp [Post0, ansW, resT, SRes.get, ES.fs, ES.kill, has, drp, seqO, nbeq, lk, I, S, TV.ids3, TV.ids2, TV.ids1, TV.ids0, TV.ren3, TV.ren2, TV.ren1, TV.ren0, F_morainelaw03_pick, h]
  · have d1 := decide_F h
    repeat (first | (with_reducible apply w_unr) | (with_reducible apply w_assoc) | (with_reducible apply w_skip) | (with_reducible apply w_ret) | (with_reducible apply w_retE) | (with_reducible apply w_skipE) | (with_reducible apply w_exit) | (with_reducible apply w_exitE) | (with_reducible apply w_block) | (with_reducible apply w_blockE) | ((with_reducible apply w_reg); · simp only [shA, eff, Int.reduceEq, Int.reduceAdd, Int.reduceSub, Nat.reduceBEq, Nat.reduceEqDiff, reduceCtorEq, Nat.reduceAdd, Nat.reduceSub, Nat.reduceMul, Nat.reduceLeDiff, Int.reduceToNat, Int.reduceLT, Int.reduceLE, Int.reduceNeg, d1, hr]; with_reducible rfl) | ((with_reducible apply w_regE); · simp only [shA, eff, Int.reduceEq, Int.reduceAdd, Int.reduceSub, Nat.reduceBEq, Nat.reduceEqDiff, reduceCtorEq, Nat.reduceAdd, Nat.reduceSub, Nat.reduceMul, Nat.reduceLeDiff, Int.reduceToNat, Int.reduceLT, Int.reduceLE, Int.reduceNeg, d1, hr]; with_reducible rfl) | ((with_reducible apply w_condT); · simp only [shA, eff, Int.reduceEq, Int.reduceAdd, Int.reduceSub, Nat.reduceBEq, Nat.reduceEqDiff, reduceCtorEq, Nat.reduceAdd, Nat.reduceSub, Nat.reduceMul, Nat.reduceLeDiff, Int.reduceToNat, Int.reduceLT, Int.reduceLE, Int.reduceNeg, d1, hr]) | ((with_reducible apply w_condF); · simp only [shA, eff, Int.reduceEq, Int.reduceAdd, Int.reduceSub, Nat.reduceBEq, Nat.reduceEqDiff, reduceCtorEq, Nat.reduceAdd, Nat.reduceSub, Nat.reduceMul, Nat.reduceLeDiff, Int.reduceToNat, Int.reduceLT, Int.reduceLE, Int.reduceNeg, d1, hr]) | ((with_reducible apply w_condTE); · simp only [shA, eff, Int.reduceEq, Int.reduceAdd, Int.reduceSub, Nat.reduceBEq, Nat.reduceEqDiff, reduceCtorEq, Nat.reduceAdd, Nat.reduceSub, Nat.reduceMul, Nat.reduceLeDiff, Int.reduceToNat, Int.reduceLT, Int.reduceLE, Int.reduceNeg, d1, hr]) | ((with_reducible apply w_condFE); · simp only [shA, eff, Int.reduceEq, Int.reduceAdd, Int.reduceSub, Nat.reduceBEq, Nat.reduceEqDiff, reduceCtorEq, Nat.reduceAdd, Nat.reduceSub, Nat.reduceMul, Nat.reduceLeDiff, Int.reduceToNat, Int.reduceLT, Int.reduceLE, Int.reduceNeg, d1, hr]) | (with_reducible apply q_then) | (with_reducible apply q_blockN) | (with_reducible apply q_blockR) | (with_reducible apply q_thenR) | (with_reducible apply q_thenX) | (with_reducible apply q_blockX) | ((with_reducible apply q_blockY); · rfl))
    simp [Post0, ansW, resT, SRes.get, ES.fs, ES.kill, has, drp, seqO, nbeq, lk, I, S, TV.ids3, TV.ids2, TV.ids1, TV.ids0, TV.ren3, TV.ren2, TV.ren1, TV.ren0, F_morainelaw03_pick, h]
end Go.Proofs.YthjphllpkcnehaaGreatDoor
end

section
/- Reading numbers: the program's way. No statement of the program is proved here. -/
namespace Go.Proofs.YthjphllpkcnehaaGreatDoor
open Go Go.RowKit Go.Mor Go.Sh Go.Sh.Cd1
set_option maxRecDepth 100000
set_option maxHeartbeats 4000000
/-- The first sign of a text, 0 of none. -/
def firstR (l : List UInt8) : Int := if l = [] then 0 else (Lib.decodeGo (str l)).1
theorem decodeRune_ok (a0 a1 : Addr) (m : Nat) (b : ByteArray) : SCalls Tryz.prog (gl a0 a1 m) 149 [S b] [] (.tuple [.pv (.v (.int .i32 (Lib.decodeGo b).1)), I (Lib.decodeGo b).2]) [] :=
  sc_up (prim0_sound m _ _ _ _ _ (by simp [prim0, S, I, Nat.beq]))
theorem first_ok (a0 a1 : Addr) (m : Nat) (l : List UInt8) : SCalls Tryz.prog (gl a0 a1 m) 105 [S (str l)] [] (.pv (.v (.int .i32 (firstR l)))) [] := by
  refine call_of0 hmix tf_val_first rfl ?_
  have HD := decodeRune_ok a0 a1 m (str l)
  have e0 : (⟨#[]⟩ : ByteArray) = str [] := rfl
  unfold firstR
  cases l with
  | nil =>
    simp only [vcA, Nat.reduceLT, Int.reduceEq, Int.reduceAdd, Int.reduceSub, Nat.reduceBEq, Nat.reduceEqDiff, reduceCtorEq, Nat.reduceAdd, Nat.reduceSub, Nat.reduceMul, Nat.reduceLeDiff, Int.reduceToNat, Int.reduceLT, Int.reduceLE, Int.reduceNeg, reduceIte, I, S, e0]
  | cons b r =>
    have hn : ((b :: r) == ([] : List UInt8)) = false := rfl
    simp only [vcA, Nat.reduceLT, Int.reduceEq, Int.reduceAdd, Int.reduceSub, Nat.reduceBEq, Nat.reduceEqDiff, reduceCtorEq, Nat.reduceAdd, Nat.reduceSub, Nat.reduceMul, Nat.reduceLeDiff, Int.reduceToNat, Int.reduceLT, Int.reduceLE, Int.reduceNeg, reduceIte, I, S, e0, hn]
    (with_reducible apply v_call); (· simp only [vcA, Nat.reduceLT, Int.reduceEq, Int.reduceAdd, Int.reduceSub, Nat.reduceBEq, Nat.reduceEqDiff, reduceCtorEq, Nat.reduceAdd, Nat.reduceSub, Nat.reduceMul, Nat.reduceLeDiff, Int.reduceToNat, Int.reduceLT, Int.reduceLE, Int.reduceNeg, reduceIte, I, S]; with_reducible rfl); (· exact HD); (· first | rfl | (simp only [moOk, nbeq, nble, List.length_nil, beq_self_eq_true, Bool.true_and, Bool.and_true, Bool.and_eq_true, decide_eq_true_eq]; omega)); (· simp only [vcA, Nat.reduceLT, Int.reduceEq, Int.reduceAdd, Int.reduceSub, Nat.reduceBEq, Nat.reduceEqDiff, reduceCtorEq, Nat.reduceAdd, Nat.reduceSub, Nat.reduceMul, Nat.reduceLeDiff, Int.reduceToNat, Int.reduceLT, Int.reduceLE, Int.reduceNeg, reduceIte, I, S]; with_reducible rfl)
    simp only [vcA, Nat.reduceLT, Int.reduceEq, Int.reduceAdd, Int.reduceSub, Nat.reduceBEq, Nat.reduceEqDiff, reduceCtorEq, Nat.reduceAdd, Nat.reduceSub, Nat.reduceMul, Nat.reduceLeDiff, Int.reduceToNat, Int.reduceLT, Int.reduceLE, Int.reduceNeg, reduceIte, I, S]
def numGo (neg : Bool) (lo hi : Int) : List UInt8 → Int → Int → Nat → Nat → Int × Nat
  | [], _, best, size, _ => (best, size)
  | c :: r, n, best, size, k =>
    if c.toNat < 48 ∨ 57 < c.toNat then (best, size)
    else if 1000000000000000 < 10 * n + (c.toNat - 48 : Int) ∨ (neg = true ∧ 10 * n + (c.toNat - 48 : Int) = 0) then (best, size)
    else if lo ≤ (if neg then -(10 * n + (c.toNat - 48 : Int)) else 10 * n + (c.toNat - 48 : Int)) ∧ (if neg then -(10 * n + (c.toNat - 48 : Int)) else 10 * n + (c.toNat - 48 : Int)) ≤ hi then
      (if 10 * n + (c.toNat - 48 : Int) = 0 then ((if neg then -(10 * n + (c.toNat - 48 : Int)) else 10 * n + (c.toNat - 48 : Int)), k + 1) else numGo neg lo hi r (10 * n + (c.toNat - 48 : Int)) (if neg then -(10 * n + (c.toNat - 48 : Int)) else 10 * n + (c.toNat - 48 : Int)) (k + 1) (k + 1))
    else (if 10 * n + (c.toNat - 48 : Int) = 0 then (best, size) else numGo neg lo hi r (10 * n + (c.toNat - 48 : Int)) best size (k + 1))
def numV (lo hi : Int) (l : List UInt8) : Int × Nat := if firstR l = 45 then numGo true lo hi (l.drop 1) 0 0 0 1 else numGo false lo hi l 0 0 0 0
def numSt (l : List UInt8) (lo hi : Int) (neg : Bool) (q : Int × Int × Nat × Nat) : ES :=
  ⟨[(0, S (str l)), (1, I lo), (2, I hi), (8, I q.1), (9, I q.2.1), (10, I (q.2.2.1 : Int)), (11, I (q.2.2.2 : Int)), (12, I (if neg then 1 else 0))], [], [], []⟩
theorem numLoop (g : Sh.Glob) (l : List UInt8) (lo hi : Int) (neg : Bool) (hl : l.length < 9223372036854775807) (R : Int × Nat) (k0 : Nat) (hR : R = numGo neg lo hi (l.drop k0) 0 0 0 k0) :
    swp Tryz.prog g (.loop c_val_number_15) (blockW 0 (thenW (swp Tryz.prog g (.seq c_val_number_16 .ret) (Post0 [.tmp 6, .tmp 7] (.tuple [I R.1, I (R.2 : Int)]))) (Post0 [.tmp 6, .tmp 7] (.tuple [I R.1, I (R.2 : Int)])))) (numSt l lo hi neg (0, 0, 0, k0)) := by
  refine v_loop (σ := { q : Int × Int × Nat × Nat // 0 ≤ q.1 ∧ q.1 ≤ 1000000000000000 ∧ R = numGo neg lo hi (l.drop q.2.2.2) q.1 q.2.1 q.2.2.1 q.2.2.2 })
    (fun q => numSt l lo hi neg q.1) (fun q => l.length - q.1.2.2.2) ⟨(0, 0, 0, k0), Int.le_refl 0, by show (0 : Int) ≤ 1000000000000000; decide, hR⟩ (lw_eq rfl) ?_
  rintro ⟨⟨n, best, size, k⟩, h0, h1, hd⟩
  simp only at h0 h1 hd
  unfold numSt
  by_cases hk : k < l.length
  · have d1 : (k : Int) < (l.length : Int) := by omega
    obtain ⟨c, ec⟩ : ∃ c, l[k]? = some c := ⟨_, List.getElem?_eq_getElem hk⟩
    have hcons : l.drop k = c :: l.drop (k + 1) := by
      rw [List.drop_eq_getElem_cons hk]; congr 1
      rw [List.getElem?_eq_getElem hk] at ec; exact Option.some.inj ec
    rw [hcons, numGo] at hd
    have hc := c.toNat_lt
    by_cases hdig : c.toNat < 48 ∨ 57 < c.toNat
    · rw [if_pos hdig] at hd
      by_cases q1 : c.toNat < 48
      · have d2 : ¬ (48 : Int) ≤ (c.toNat : Int) := by omega
        simp only [vcA, Nat.reduceLT, Int.reduceEq, Int.reduceAdd, Int.reduceSub, Nat.reduceBEq, Nat.reduceEqDiff, reduceCtorEq, Nat.reduceAdd, Nat.reduceSub, Nat.reduceMul, Nat.reduceLeDiff, Int.reduceToNat, Int.reduceLT, Int.reduceLE, Int.reduceNeg, reduceIte, I, S, d1, d2, ec]
        rw [hd]
      · have d2 : (48 : Int) ≤ (c.toNat : Int) := by omega
        have d3 : ¬ (c.toNat : Int) ≤ 57 := by omega
        simp only [vcA, Nat.reduceLT, Int.reduceEq, Int.reduceAdd, Int.reduceSub, Nat.reduceBEq, Nat.reduceEqDiff, reduceCtorEq, Nat.reduceAdd, Nat.reduceSub, Nat.reduceMul, Nat.reduceLeDiff, Int.reduceToNat, Int.reduceLT, Int.reduceLE, Int.reduceNeg, reduceIte, I, S, d1, d2, d3, ec]
        rw [hd]
    · rw [if_neg hdig] at hd
      have d2 : (48 : Int) ≤ (c.toNat : Int) := by omega
      have d3 : (c.toNat : Int) ≤ 57 := by omega
      have u1 : IntKind.u8.wrap ((c.toNat : Int) - 48) = (c.toNat : Int) - 48 := by rw [IntKind.wrap_u8]; omega
      have u2 : IntKind.i64.wrap ((c.toNat : Int) - 48) = (c.toNat : Int) - 48 := wrap64 (by omega) (by omega)
      have u3 : IntKind.i64.wrap (10 * n) = 10 * n := wrap64 (by omega) (by omega)
      have u4 : IntKind.i64.wrap (10 * n + ((c.toNat : Int) - 48)) = 10 * n + ((c.toNat : Int) - 48) := wrap64 (by omega) (by omega)
      obtain ⟨x, hx⟩ : ∃ x, x = 10 * n + ((c.toNat : Int) - 48) := ⟨_, rfl⟩
      have hx0 : 0 ≤ x := by omega
      have hx1 : x ≤ 10000000000000009 := by omega
      rw [← hx] at hd u4
      rw [hx] at u4
      have w1 : IntKind.i64.wrap ((k : Int) + 1) = ((k + 1 : Nat) : Int) := by rw [wrap64 (by omega) (by omega)]; omega
      have w2 : IntKind.i64.wrap (0 - x) = -x := by rw [wrap64 (by omega) (by omega)]; omega
      rw [hx] at w2
      cases neg
      · simp only [Bool.false_eq_true, if_false, false_and, or_false] at hd
        simp only [vcA, Nat.reduceLT, Int.reduceEq, Int.reduceAdd, Int.reduceSub, Nat.reduceBEq, Nat.reduceEqDiff, reduceCtorEq, Nat.reduceAdd, Nat.reduceSub, Nat.reduceMul, Nat.reduceLeDiff, Int.reduceToNat, Int.reduceLT, Int.reduceLE, Int.reduceNeg, reduceIte, I, S, d1, d2, d3, ec, u1, u2, u3, u4, w1]
        rw [← hx]
        repeat' (first | (apply And.intro) | (intro _))
        all_goals first
          | (rw [hd]; (repeat' split) <;> first | rfl | (exfalso; omega))
          | (refine loopK_of ⟨(x, x, k + 1, k + 1), hx0, ?_, ?_⟩ ?_ ?_; (· show x ≤ 1000000000000000; omega); (· rw [hd]; (repeat' split) <;> first | rfl | (exfalso; omega)); (· show l.length - (k + 1) < l.length - k; omega); (· apply lw_of <;> simp [leL, lk, sv, Nat.beq, I, S, ES.kill, has, drp, nilT]))
          | (refine loopK_of ⟨(x, best, size, k + 1), hx0, ?_, ?_⟩ ?_ ?_; (· show x ≤ 1000000000000000; omega); (· rw [hd]; (repeat' split) <;> first | rfl | (exfalso; omega)); (· show l.length - (k + 1) < l.length - k; omega); (· apply lw_of <;> simp [leL, lk, sv, Nat.beq, I, S, ES.kill, has, drp, nilT]))
      · simp only [if_true, true_and] at hd
        simp only [vcA, Nat.reduceLT, Int.reduceEq, Int.reduceAdd, Int.reduceSub, Nat.reduceBEq, Nat.reduceEqDiff, reduceCtorEq, Nat.reduceAdd, Nat.reduceSub, Nat.reduceMul, Nat.reduceLeDiff, Int.reduceToNat, Int.reduceLT, Int.reduceLE, Int.reduceNeg, reduceIte, I, S, d1, d2, d3, ec, u1, u2, u3, u4, w1, w2]
        rw [← hx]
        repeat' (first | (apply And.intro) | (intro _))
        all_goals first
          | (rw [hd]; (repeat' split) <;> first | rfl | (exfalso; omega))
          | (refine loopK_of ⟨(x, -x, k + 1, k + 1), hx0, ?_, ?_⟩ ?_ ?_; (· show x ≤ 1000000000000000; omega); (· rw [hd]; (repeat' split) <;> first | rfl | (exfalso; omega)); (· show l.length - (k + 1) < l.length - k; omega); (· apply lw_of <;> simp [leL, lk, sv, Nat.beq, I, S, ES.kill, has, drp, nilT]))
          | (refine loopK_of ⟨(x, best, size, k + 1), hx0, ?_, ?_⟩ ?_ ?_; (· show x ≤ 1000000000000000; omega); (· rw [hd]; (repeat' split) <;> first | rfl | (exfalso; omega)); (· show l.length - (k + 1) < l.length - k; omega); (· apply lw_of <;> simp [leL, lk, sv, Nat.beq, I, S, ES.kill, has, drp, nilT]))
  · have d1 : ¬ (k : Int) < (l.length : Int) := by omega
    rw [List.drop_eq_nil_of_le (by omega), numGo] at hd
    simp only [vcA, Nat.reduceLT, Int.reduceEq, Int.reduceAdd, Int.reduceSub, Nat.reduceBEq, Nat.reduceEqDiff, reduceCtorEq, Nat.reduceAdd, Nat.reduceSub, Nat.reduceMul, Nat.reduceLeDiff, Int.reduceToNat, Int.reduceLT, Int.reduceLE, Int.reduceNeg, reduceIte, I, S, d1]
    rw [hd]
theorem vnumber_ok (a0 a1 : Addr) (m : Nat) (l : List UInt8) (lo hi : Int) (hl : l.length < 9223372036854775807) : SCalls Tryz.prog (gl a0 a1 m) 108 [S (str l), I lo, I hi] [] (.tuple [I (numV lo hi l).1, I ((numV lo hi l).2 : Int)]) [] := by
  refine call_of0 hmix tf_val_number rfl ?_
  have HF := first_ok a0 a1 m l
  unfold numV
  by_cases h : firstR l = 45
  · have HL := numLoop (gl a0 a1 m) l lo hi true hl _ 1 rfl
    unfold numSt at HL
    rw [if_pos h]
    simp only [vcA, Nat.reduceLT, Int.reduceEq, Int.reduceAdd, Int.reduceSub, Nat.reduceBEq, Nat.reduceEqDiff, reduceCtorEq, Nat.reduceAdd, Nat.reduceSub, Nat.reduceMul, Nat.reduceLeDiff, Int.reduceToNat, Int.reduceLT, Int.reduceLE, Int.reduceNeg, reduceIte, I, S]
    (with_reducible apply v_call); (· simp only [vcA, Nat.reduceLT, Int.reduceEq, Int.reduceAdd, Int.reduceSub, Nat.reduceBEq, Nat.reduceEqDiff, reduceCtorEq, Nat.reduceAdd, Nat.reduceSub, Nat.reduceMul, Nat.reduceLeDiff, Int.reduceToNat, Int.reduceLT, Int.reduceLE, Int.reduceNeg, reduceIte, I, S]; with_reducible rfl); (· exact HF); (· first | rfl | (simp only [moOk, nbeq, nble, List.length_nil, beq_self_eq_true, Bool.true_and, Bool.and_true, Bool.and_eq_true, decide_eq_true_eq]; omega)); (· simp only [vcA, Nat.reduceLT, Int.reduceEq, Int.reduceAdd, Int.reduceSub, Nat.reduceBEq, Nat.reduceEqDiff, reduceCtorEq, Nat.reduceAdd, Nat.reduceSub, Nat.reduceMul, Nat.reduceLeDiff, Int.reduceToNat, Int.reduceLT, Int.reduceLE, Int.reduceNeg, reduceIte, I, S]; with_reducible rfl)
    simp only [vcA, Nat.reduceLT, Int.reduceEq, Int.reduceAdd, Int.reduceSub, Nat.reduceBEq, Nat.reduceEqDiff, reduceCtorEq, Nat.reduceAdd, Nat.reduceSub, Nat.reduceMul, Nat.reduceLeDiff, Int.reduceToNat, Int.reduceLT, Int.reduceLE, Int.reduceNeg, reduceIte, I, S, h]
    exact HL
  · have HL := numLoop (gl a0 a1 m) l lo hi false hl _ 0 rfl
    unfold numSt at HL
    rw [if_neg h]
    simp only [vcA, Nat.reduceLT, Int.reduceEq, Int.reduceAdd, Int.reduceSub, Nat.reduceBEq, Nat.reduceEqDiff, reduceCtorEq, Nat.reduceAdd, Nat.reduceSub, Nat.reduceMul, Nat.reduceLeDiff, Int.reduceToNat, Int.reduceLT, Int.reduceLE, Int.reduceNeg, reduceIte, I, S]
    (with_reducible apply v_call); (· simp only [vcA, Nat.reduceLT, Int.reduceEq, Int.reduceAdd, Int.reduceSub, Nat.reduceBEq, Nat.reduceEqDiff, reduceCtorEq, Nat.reduceAdd, Nat.reduceSub, Nat.reduceMul, Nat.reduceLeDiff, Int.reduceToNat, Int.reduceLT, Int.reduceLE, Int.reduceNeg, reduceIte, I, S]; with_reducible rfl); (· exact HF); (· first | rfl | (simp only [moOk, nbeq, nble, List.length_nil, beq_self_eq_true, Bool.true_and, Bool.and_true, Bool.and_eq_true, decide_eq_true_eq]; omega)); (· simp only [vcA, Nat.reduceLT, Int.reduceEq, Int.reduceAdd, Int.reduceSub, Nat.reduceBEq, Nat.reduceEqDiff, reduceCtorEq, Nat.reduceAdd, Nat.reduceSub, Nat.reduceMul, Nat.reduceLeDiff, Int.reduceToNat, Int.reduceLT, Int.reduceLE, Int.reduceNeg, reduceIte, I, S]; with_reducible rfl)
    simp only [vcA, Nat.reduceLT, Int.reduceEq, Int.reduceAdd, Int.reduceSub, Nat.reduceBEq, Nat.reduceEqDiff, reduceCtorEq, Nat.reduceAdd, Nat.reduceSub, Nat.reduceMul, Nat.reduceLeDiff, Int.reduceToNat, Int.reduceLT, Int.reduceLE, Int.reduceNeg, reduceIte, I, S, h]
    exact HL
end Go.Proofs.YthjphllpkcnehaaGreatDoor
end

section
/- The document's Sign (printed by a program). No statement of the program is proved here. -/
namespace Go.Proofs.YthjphllpkcnehaaGreatDoor
open Go Go.RowKit Go.Mor Go.Sh Go.Sh.Cd1
set_option maxRecDepth 100000
set_option maxHeartbeats 4000000
theorem u8_lt (b : UInt8) : b.toNat < 256 := b.toNat_lt
theorem wr3 : IntKind.i64.wrap 3 = 3 := rfl
theorem wr4 : IntKind.i64.wrap 4 = 4 := rfl
theorem wr5 : IntKind.i64.wrap 5 = 5 := rfl
theorem getD_some {l : List UInt8} {i : Nat} {b : UInt8} (h : l[i]? = some b) : l.getD i 0 = b := by rw [List.getD_eq_getElem?_getD, h]; rfl
theorem signL_eq {l : List UInt8} (h : 0 < l.length) : signL l = signN l.length (l.getD 0 0).toNat (l.getD 1 0).toNat (l.getD 2 0).toNat (l.getD 3 0).toNat := by
  unfold signL; rw [if_neg (by rintro rfl; simp at h)]
theorem at_ {l : List UInt8} {i : Nat} (h : i < l.length) : ∃ b, l[i]? = some b := ⟨_, List.getElem?_eq_getElem h⟩
theorem cvi8 (n : Nat) (h : n < 256) : IntKind.i64.wrap (n : Int) = (n : Int) := wrap64 (by omega) (by omega)
theorem v_unr {P : Program} {g : Sh.Glob} {a : SCode} {Q : SExit → ES → Prop} {k : Nat} {s : ES} : unrollW P g a Q (k + 1) s = swp P g a (thenW (unrollW P g a Q k) Q) s := rfl
theorem sg {a b : Int} (h : a = b) : some (TV.pv (PV.v (Value.int IntKind.i64 a))) = some (TV.pv (PV.v (Value.int IntKind.i64 b))) := by rw [h]
theorem sign_a (g : Sh.Glob) (l : List UInt8) (b0 : UInt8) (hl : 0 < l.length) (e0 : l[0]? = some b0) (hc : b0.toNat < 128) : SCalls Tryz.prog g 122 [S (str l)] [] (I (signN l.length b0.toNat (l.getD 1 0).toNat (l.getD 2 0).toNat (l.getD 3 0).toNat : Nat)) [] := by
  have hb := u8_lt b0
  have c0 := cvi8 b0.toNat hb
  have hl0 : ¬ (l.length : Int) = 0 := by omega
  have t0 : (b0.toNat : Int) < 128 := by omega
  have t1 : ¬ 194 ≤ (b0.toNat : Int) := by omega
  have t2 : (b0.toNat : Int) ≤ 223 := by omega
  have t3 : ¬ 224 ≤ (b0.toNat : Int) := by omega
  have t4 : (b0.toNat : Int) ≤ 239 := by omega
  have t5 : ¬ 240 ≤ (b0.toNat : Int) := by omega
  have t6 : (b0.toNat : Int) ≤ 244 := by omega
  have t7 : ¬ (b0.toNat : Int) = 224 := by omega
  have t8 : ¬ (b0.toNat : Int) = 237 := by omega
  have t9 : ¬ (b0.toNat : Int) = 240 := by omega
  have t10 : ¬ (b0.toNat : Int) = 244 := by omega
  refine call_of0 hmix tf_moraineref03_Sign rfl ?_
  simp only [vcA, Nat.reduceLT, Int.reduceEq, Int.reduceAdd, Int.reduceSub, Nat.reduceBEq, Nat.reduceEqDiff, reduceCtorEq, Nat.reduceAdd, Nat.reduceSub, Nat.reduceMul, Nat.reduceLeDiff, Int.reduceToNat, Int.reduceLT, Int.reduceLE, Int.reduceNeg, reduceIte, I, S, e0, c0, hl0, t0, t1, t2, t3, t4, t5, t6, t7, t8, t9, t10]
  exact sg (by unfold signN; (repeat' split) <;> omega)
theorem sign_b (g : Sh.Glob) (l : List UInt8) (b0 : UInt8) (hl : 0 < l.length) (e0 : l[0]? = some b0) (hc : 128 ≤ b0.toNat ∧ b0.toNat ≤ 193) : SCalls Tryz.prog g 122 [S (str l)] [] (I (signN l.length b0.toNat (l.getD 1 0).toNat (l.getD 2 0).toNat (l.getD 3 0).toNat : Nat)) [] := by
  have hb := u8_lt b0
  have c0 := cvi8 b0.toNat hb
  have hl0 : ¬ (l.length : Int) = 0 := by omega
  have t0 : ¬ (b0.toNat : Int) < 128 := by omega
  have t1 : ¬ 194 ≤ (b0.toNat : Int) := by omega
  have t2 : (b0.toNat : Int) ≤ 223 := by omega
  have t3 : ¬ 224 ≤ (b0.toNat : Int) := by omega
  have t4 : (b0.toNat : Int) ≤ 239 := by omega
  have t5 : ¬ 240 ≤ (b0.toNat : Int) := by omega
  have t6 : (b0.toNat : Int) ≤ 244 := by omega
  have t7 : ¬ (b0.toNat : Int) = 224 := by omega
  have t8 : ¬ (b0.toNat : Int) = 237 := by omega
  have t9 : ¬ (b0.toNat : Int) = 240 := by omega
  have t10 : ¬ (b0.toNat : Int) = 244 := by omega
  refine call_of0 hmix tf_moraineref03_Sign rfl ?_
  simp only [vcA, Nat.reduceLT, Int.reduceEq, Int.reduceAdd, Int.reduceSub, Nat.reduceBEq, Nat.reduceEqDiff, reduceCtorEq, Nat.reduceAdd, Nat.reduceSub, Nat.reduceMul, Nat.reduceLeDiff, Int.reduceToNat, Int.reduceLT, Int.reduceLE, Int.reduceNeg, reduceIte, I, S, e0, c0, hl0, t0, t1, t2, t3, t4, t5, t6, t7, t8, t9, t10]
  exact sg (by unfold signN; (repeat' split) <;> omega)
theorem sign_c (g : Sh.Glob) (l : List UInt8) (b0 : UInt8) (hl : 0 < l.length) (e0 : l[0]? = some b0) (hc : 194 ≤ b0.toNat ∧ b0.toNat ≤ 223) : SCalls Tryz.prog g 122 [S (str l)] [] (I (signN l.length b0.toNat (l.getD 1 0).toNat (l.getD 2 0).toNat (l.getD 3 0).toNat : Nat)) [] := by
  have hb := u8_lt b0
  have c0 := cvi8 b0.toNat hb
  have hl0 : ¬ (l.length : Int) = 0 := by omega
  have t0 : ¬ (b0.toNat : Int) < 128 := by omega
  have t1 : 194 ≤ (b0.toNat : Int) := by omega
  have t2 : (b0.toNat : Int) ≤ 223 := by omega
  have t3 : ¬ 224 ≤ (b0.toNat : Int) := by omega
  have t4 : (b0.toNat : Int) ≤ 239 := by omega
  have t5 : ¬ 240 ≤ (b0.toNat : Int) := by omega
  have t6 : (b0.toNat : Int) ≤ 244 := by omega
  have t7 : ¬ (b0.toNat : Int) = 224 := by omega
  have t8 : ¬ (b0.toNat : Int) = 237 := by omega
  have t9 : ¬ (b0.toNat : Int) = 240 := by omega
  have t10 : ¬ (b0.toNat : Int) = 244 := by omega
  refine call_of0 hmix tf_moraineref03_Sign rfl ?_
  by_cases hn : (l.length : Int) < 2
  · simp only [vcA, Nat.reduceLT, Int.reduceEq, Int.reduceAdd, Int.reduceSub, Nat.reduceBEq, Nat.reduceEqDiff, reduceCtorEq, Nat.reduceAdd, Nat.reduceSub, Nat.reduceMul, Nat.reduceLeDiff, Int.reduceToNat, Int.reduceLT, Int.reduceLE, Int.reduceNeg, reduceIte, I, S, e0, c0, hl0, hn, t0, t1, t2, t3, t4, t5, t6, t7, t8, t9, t10]
    exact sg (by unfold signN; (repeat' split) <;> omega)
  obtain ⟨b1, e1⟩ := at_ (l := l) (i := 1) (by omega)
  have hb1 := u8_lt b1
  have g1 := getD_some e1
  have c1 := cvi8 b1.toNat hb1
  rw [g1]
  simp only [vcA, Nat.reduceLT, Int.reduceEq, Int.reduceAdd, Int.reduceSub, Nat.reduceBEq, Nat.reduceEqDiff, reduceCtorEq, Nat.reduceAdd, Nat.reduceSub, Nat.reduceMul, Nat.reduceLeDiff, Int.reduceToNat, Int.reduceLT, Int.reduceLE, Int.reduceNeg, reduceIte, I, S, e0, c0, e1, c1, hl0, hn, t0, t1, t2, t3, t4, t5, t6, t7, t8, t9, t10]
  refine ⟨fun h1 => sg (by unfold signN; (repeat' split) <;> omega), fun h1 => ⟨fun h2 => sg (by unfold signN; (repeat' split) <;> omega), fun h2 => ?_⟩⟩
  refine w_unrollE 1 ?_
  simp only [vcA, Nat.reduceLT, Int.reduceEq, Int.reduceAdd, Int.reduceSub, Nat.reduceBEq, Nat.reduceEqDiff, reduceCtorEq, Nat.reduceAdd, Nat.reduceSub, Nat.reduceMul, Nat.reduceLeDiff, Int.reduceToNat, Int.reduceLT, Int.reduceLE, Int.reduceNeg, reduceIte, I, S, v_unr, e1, wr3, wr4, wr5]
  exact sg (by unfold signN; (repeat' split) <;> omega)
theorem sign_d (g : Sh.Glob) (l : List UInt8) (b0 : UInt8) (hl : 0 < l.length) (e0 : l[0]? = some b0) (hc : b0.toNat = 224) : SCalls Tryz.prog g 122 [S (str l)] [] (I (signN l.length b0.toNat (l.getD 1 0).toNat (l.getD 2 0).toNat (l.getD 3 0).toNat : Nat)) [] := by
  have hb := u8_lt b0
  have c0 := cvi8 b0.toNat hb
  have hl0 : ¬ (l.length : Int) = 0 := by omega

  refine call_of0 hmix tf_moraineref03_Sign rfl ?_
  have q0 : (b0.toNat : Int) = 224 := by omega
  have q1 : IntKind.i64.wrap 224 = 224 := rfl
  by_cases hn : (l.length : Int) < 3
  · simp only [vcA, Nat.reduceLT, Int.reduceEq, Int.reduceAdd, Int.reduceSub, Nat.reduceBEq, Nat.reduceEqDiff, reduceCtorEq, Nat.reduceAdd, Nat.reduceSub, Nat.reduceMul, Nat.reduceLeDiff, Int.reduceToNat, Int.reduceLT, Int.reduceLE, Int.reduceNeg, reduceIte, I, S, e0, c0, hl0, hn, q0, q1]
    exact sg (by unfold signN; (repeat' split) <;> omega)
  obtain ⟨b1, e1⟩ := at_ (l := l) (i := 1) (by omega)
  have hb1 := u8_lt b1
  have g1 := getD_some e1
  obtain ⟨b2, e2⟩ := at_ (l := l) (i := 2) (by omega)
  have hb2 := u8_lt b2
  have g2 := getD_some e2
  have c1 := cvi8 b1.toNat hb1
  rw [g1, g2]
  simp only [vcA, Nat.reduceLT, Int.reduceEq, Int.reduceAdd, Int.reduceSub, Nat.reduceBEq, Nat.reduceEqDiff, reduceCtorEq, Nat.reduceAdd, Nat.reduceSub, Nat.reduceMul, Nat.reduceLeDiff, Int.reduceToNat, Int.reduceLT, Int.reduceLE, Int.reduceNeg, reduceIte, I, S, e0, c0, e1, c1, hl0, hn, q0, q1]
  refine ⟨fun h1 => sg (by unfold signN; (repeat' split) <;> omega), fun h1 => ⟨fun h2 => sg (by unfold signN; (repeat' split) <;> omega), fun h2 => ?_⟩⟩
  refine w_unrollE 2 ?_
  simp only [vcA, Nat.reduceLT, Int.reduceEq, Int.reduceAdd, Int.reduceSub, Nat.reduceBEq, Nat.reduceEqDiff, reduceCtorEq, Nat.reduceAdd, Nat.reduceSub, Nat.reduceMul, Nat.reduceLeDiff, Int.reduceToNat, Int.reduceLT, Int.reduceLE, Int.reduceNeg, reduceIte, I, S, v_unr, e1, e2, wr3, wr4, wr5]
  repeat' (first | (apply And.intro) | (intro _))
  all_goals exact sg (by unfold signN; (repeat' split) <;> omega)
theorem sign_e (g : Sh.Glob) (l : List UInt8) (b0 : UInt8) (hl : 0 < l.length) (e0 : l[0]? = some b0) (hc : 225 ≤ b0.toNat ∧ b0.toNat ≤ 239 ∧ b0.toNat ≠ 237) : SCalls Tryz.prog g 122 [S (str l)] [] (I (signN l.length b0.toNat (l.getD 1 0).toNat (l.getD 2 0).toNat (l.getD 3 0).toNat : Nat)) [] := by
  have hb := u8_lt b0
  have c0 := cvi8 b0.toNat hb
  have hl0 : ¬ (l.length : Int) = 0 := by omega
  have t0 : ¬ (b0.toNat : Int) < 128 := by omega
  have t1 : 194 ≤ (b0.toNat : Int) := by omega
  have t2 : ¬ (b0.toNat : Int) ≤ 223 := by omega
  have t3 : 224 ≤ (b0.toNat : Int) := by omega
  have t4 : (b0.toNat : Int) ≤ 239 := by omega
  have t5 : ¬ 240 ≤ (b0.toNat : Int) := by omega
  have t6 : (b0.toNat : Int) ≤ 244 := by omega
  have t7 : ¬ (b0.toNat : Int) = 224 := by omega
  have t8 : ¬ (b0.toNat : Int) = 237 := by omega
  have t9 : ¬ (b0.toNat : Int) = 240 := by omega
  have t10 : ¬ (b0.toNat : Int) = 244 := by omega
  refine call_of0 hmix tf_moraineref03_Sign rfl ?_
  by_cases hn : (l.length : Int) < 3
  · simp only [vcA, Nat.reduceLT, Int.reduceEq, Int.reduceAdd, Int.reduceSub, Nat.reduceBEq, Nat.reduceEqDiff, reduceCtorEq, Nat.reduceAdd, Nat.reduceSub, Nat.reduceMul, Nat.reduceLeDiff, Int.reduceToNat, Int.reduceLT, Int.reduceLE, Int.reduceNeg, reduceIte, I, S, e0, c0, hl0, hn, t0, t1, t2, t3, t4, t5, t6, t7, t8, t9, t10]
    exact sg (by unfold signN; (repeat' split) <;> omega)
  obtain ⟨b1, e1⟩ := at_ (l := l) (i := 1) (by omega)
  have hb1 := u8_lt b1
  have g1 := getD_some e1
  obtain ⟨b2, e2⟩ := at_ (l := l) (i := 2) (by omega)
  have hb2 := u8_lt b2
  have g2 := getD_some e2
  have c1 := cvi8 b1.toNat hb1
  rw [g1, g2]
  simp only [vcA, Nat.reduceLT, Int.reduceEq, Int.reduceAdd, Int.reduceSub, Nat.reduceBEq, Nat.reduceEqDiff, reduceCtorEq, Nat.reduceAdd, Nat.reduceSub, Nat.reduceMul, Nat.reduceLeDiff, Int.reduceToNat, Int.reduceLT, Int.reduceLE, Int.reduceNeg, reduceIte, I, S, e0, c0, e1, c1, hl0, hn, t0, t1, t2, t3, t4, t5, t6, t7, t8, t9, t10]
  refine ⟨fun h1 => sg (by unfold signN; (repeat' split) <;> omega), fun h1 => ⟨fun h2 => sg (by unfold signN; (repeat' split) <;> omega), fun h2 => ?_⟩⟩
  refine w_unrollE 2 ?_
  simp only [vcA, Nat.reduceLT, Int.reduceEq, Int.reduceAdd, Int.reduceSub, Nat.reduceBEq, Nat.reduceEqDiff, reduceCtorEq, Nat.reduceAdd, Nat.reduceSub, Nat.reduceMul, Nat.reduceLeDiff, Int.reduceToNat, Int.reduceLT, Int.reduceLE, Int.reduceNeg, reduceIte, I, S, v_unr, e1, e2, wr3, wr4, wr5]
  repeat' (first | (apply And.intro) | (intro _))
  all_goals exact sg (by unfold signN; (repeat' split) <;> omega)
theorem sign_f (g : Sh.Glob) (l : List UInt8) (b0 : UInt8) (hl : 0 < l.length) (e0 : l[0]? = some b0) (hc : b0.toNat = 237) : SCalls Tryz.prog g 122 [S (str l)] [] (I (signN l.length b0.toNat (l.getD 1 0).toNat (l.getD 2 0).toNat (l.getD 3 0).toNat : Nat)) [] := by
  have hb := u8_lt b0
  have c0 := cvi8 b0.toNat hb
  have hl0 : ¬ (l.length : Int) = 0 := by omega

  refine call_of0 hmix tf_moraineref03_Sign rfl ?_
  have q0 : (b0.toNat : Int) = 237 := by omega
  have q1 : IntKind.i64.wrap 237 = 237 := rfl
  by_cases hn : (l.length : Int) < 3
  · simp only [vcA, Nat.reduceLT, Int.reduceEq, Int.reduceAdd, Int.reduceSub, Nat.reduceBEq, Nat.reduceEqDiff, reduceCtorEq, Nat.reduceAdd, Nat.reduceSub, Nat.reduceMul, Nat.reduceLeDiff, Int.reduceToNat, Int.reduceLT, Int.reduceLE, Int.reduceNeg, reduceIte, I, S, e0, c0, hl0, hn, q0, q1]
    exact sg (by unfold signN; (repeat' split) <;> omega)
  obtain ⟨b1, e1⟩ := at_ (l := l) (i := 1) (by omega)
  have hb1 := u8_lt b1
  have g1 := getD_some e1
  obtain ⟨b2, e2⟩ := at_ (l := l) (i := 2) (by omega)
  have hb2 := u8_lt b2
  have g2 := getD_some e2
  have c1 := cvi8 b1.toNat hb1
  rw [g1, g2]
  simp only [vcA, Nat.reduceLT, Int.reduceEq, Int.reduceAdd, Int.reduceSub, Nat.reduceBEq, Nat.reduceEqDiff, reduceCtorEq, Nat.reduceAdd, Nat.reduceSub, Nat.reduceMul, Nat.reduceLeDiff, Int.reduceToNat, Int.reduceLT, Int.reduceLE, Int.reduceNeg, reduceIte, I, S, e0, c0, e1, c1, hl0, hn, q0, q1]
  refine ⟨fun h1 => sg (by unfold signN; (repeat' split) <;> omega), fun h1 => ⟨fun h2 => sg (by unfold signN; (repeat' split) <;> omega), fun h2 => ?_⟩⟩
  refine w_unrollE 2 ?_
  simp only [vcA, Nat.reduceLT, Int.reduceEq, Int.reduceAdd, Int.reduceSub, Nat.reduceBEq, Nat.reduceEqDiff, reduceCtorEq, Nat.reduceAdd, Nat.reduceSub, Nat.reduceMul, Nat.reduceLeDiff, Int.reduceToNat, Int.reduceLT, Int.reduceLE, Int.reduceNeg, reduceIte, I, S, v_unr, e1, e2, wr3, wr4, wr5]
  repeat' (first | (apply And.intro) | (intro _))
  all_goals exact sg (by unfold signN; (repeat' split) <;> omega)
theorem sign_g (g : Sh.Glob) (l : List UInt8) (b0 : UInt8) (hl : 0 < l.length) (e0 : l[0]? = some b0) (hc : b0.toNat = 240) : SCalls Tryz.prog g 122 [S (str l)] [] (I (signN l.length b0.toNat (l.getD 1 0).toNat (l.getD 2 0).toNat (l.getD 3 0).toNat : Nat)) [] := by
  have hb := u8_lt b0
  have c0 := cvi8 b0.toNat hb
  have hl0 : ¬ (l.length : Int) = 0 := by omega

  refine call_of0 hmix tf_moraineref03_Sign rfl ?_
  have q0 : (b0.toNat : Int) = 240 := by omega
  have q1 : IntKind.i64.wrap 240 = 240 := rfl
  by_cases hn : (l.length : Int) < 4
  · simp only [vcA, Nat.reduceLT, Int.reduceEq, Int.reduceAdd, Int.reduceSub, Nat.reduceBEq, Nat.reduceEqDiff, reduceCtorEq, Nat.reduceAdd, Nat.reduceSub, Nat.reduceMul, Nat.reduceLeDiff, Int.reduceToNat, Int.reduceLT, Int.reduceLE, Int.reduceNeg, reduceIte, I, S, e0, c0, hl0, hn, q0, q1]
    exact sg (by unfold signN; (repeat' split) <;> omega)
  obtain ⟨b1, e1⟩ := at_ (l := l) (i := 1) (by omega)
  have hb1 := u8_lt b1
  have g1 := getD_some e1
  obtain ⟨b2, e2⟩ := at_ (l := l) (i := 2) (by omega)
  have hb2 := u8_lt b2
  have g2 := getD_some e2
  obtain ⟨b3, e3⟩ := at_ (l := l) (i := 3) (by omega)
  have hb3 := u8_lt b3
  have g3 := getD_some e3
  have c1 := cvi8 b1.toNat hb1
  rw [g1, g2, g3]
  simp only [vcA, Nat.reduceLT, Int.reduceEq, Int.reduceAdd, Int.reduceSub, Nat.reduceBEq, Nat.reduceEqDiff, reduceCtorEq, Nat.reduceAdd, Nat.reduceSub, Nat.reduceMul, Nat.reduceLeDiff, Int.reduceToNat, Int.reduceLT, Int.reduceLE, Int.reduceNeg, reduceIte, I, S, e0, c0, e1, c1, hl0, hn, q0, q1]
  refine ⟨fun h1 => sg (by unfold signN; (repeat' split) <;> omega), fun h1 => ⟨fun h2 => sg (by unfold signN; (repeat' split) <;> omega), fun h2 => ?_⟩⟩
  refine w_unrollE 3 ?_
  simp only [vcA, Nat.reduceLT, Int.reduceEq, Int.reduceAdd, Int.reduceSub, Nat.reduceBEq, Nat.reduceEqDiff, reduceCtorEq, Nat.reduceAdd, Nat.reduceSub, Nat.reduceMul, Nat.reduceLeDiff, Int.reduceToNat, Int.reduceLT, Int.reduceLE, Int.reduceNeg, reduceIte, I, S, v_unr, e1, e2, e3, wr3, wr4, wr5]
  repeat' (first | (apply And.intro) | (intro _))
  all_goals exact sg (by unfold signN; (repeat' split) <;> omega)
theorem sign_h (g : Sh.Glob) (l : List UInt8) (b0 : UInt8) (hl : 0 < l.length) (e0 : l[0]? = some b0) (hc : 241 ≤ b0.toNat ∧ b0.toNat ≤ 243) : SCalls Tryz.prog g 122 [S (str l)] [] (I (signN l.length b0.toNat (l.getD 1 0).toNat (l.getD 2 0).toNat (l.getD 3 0).toNat : Nat)) [] := by
  have hb := u8_lt b0
  have c0 := cvi8 b0.toNat hb
  have hl0 : ¬ (l.length : Int) = 0 := by omega
  have t0 : ¬ (b0.toNat : Int) < 128 := by omega
  have t1 : 194 ≤ (b0.toNat : Int) := by omega
  have t2 : ¬ (b0.toNat : Int) ≤ 223 := by omega
  have t3 : 224 ≤ (b0.toNat : Int) := by omega
  have t4 : ¬ (b0.toNat : Int) ≤ 239 := by omega
  have t5 : 240 ≤ (b0.toNat : Int) := by omega
  have t6 : (b0.toNat : Int) ≤ 244 := by omega
  have t7 : ¬ (b0.toNat : Int) = 224 := by omega
  have t8 : ¬ (b0.toNat : Int) = 237 := by omega
  have t9 : ¬ (b0.toNat : Int) = 240 := by omega
  have t10 : ¬ (b0.toNat : Int) = 244 := by omega
  refine call_of0 hmix tf_moraineref03_Sign rfl ?_
  by_cases hn : (l.length : Int) < 4
  · simp only [vcA, Nat.reduceLT, Int.reduceEq, Int.reduceAdd, Int.reduceSub, Nat.reduceBEq, Nat.reduceEqDiff, reduceCtorEq, Nat.reduceAdd, Nat.reduceSub, Nat.reduceMul, Nat.reduceLeDiff, Int.reduceToNat, Int.reduceLT, Int.reduceLE, Int.reduceNeg, reduceIte, I, S, e0, c0, hl0, hn, t0, t1, t2, t3, t4, t5, t6, t7, t8, t9, t10]
    exact sg (by unfold signN; (repeat' split) <;> omega)
  obtain ⟨b1, e1⟩ := at_ (l := l) (i := 1) (by omega)
  have hb1 := u8_lt b1
  have g1 := getD_some e1
  obtain ⟨b2, e2⟩ := at_ (l := l) (i := 2) (by omega)
  have hb2 := u8_lt b2
  have g2 := getD_some e2
  obtain ⟨b3, e3⟩ := at_ (l := l) (i := 3) (by omega)
  have hb3 := u8_lt b3
  have g3 := getD_some e3
  have c1 := cvi8 b1.toNat hb1
  rw [g1, g2, g3]
  simp only [vcA, Nat.reduceLT, Int.reduceEq, Int.reduceAdd, Int.reduceSub, Nat.reduceBEq, Nat.reduceEqDiff, reduceCtorEq, Nat.reduceAdd, Nat.reduceSub, Nat.reduceMul, Nat.reduceLeDiff, Int.reduceToNat, Int.reduceLT, Int.reduceLE, Int.reduceNeg, reduceIte, I, S, e0, c0, e1, c1, hl0, hn, t0, t1, t2, t3, t4, t5, t6, t7, t8, t9, t10]
  refine ⟨fun h1 => sg (by unfold signN; (repeat' split) <;> omega), fun h1 => ⟨fun h2 => sg (by unfold signN; (repeat' split) <;> omega), fun h2 => ?_⟩⟩
  refine w_unrollE 3 ?_
  simp only [vcA, Nat.reduceLT, Int.reduceEq, Int.reduceAdd, Int.reduceSub, Nat.reduceBEq, Nat.reduceEqDiff, reduceCtorEq, Nat.reduceAdd, Nat.reduceSub, Nat.reduceMul, Nat.reduceLeDiff, Int.reduceToNat, Int.reduceLT, Int.reduceLE, Int.reduceNeg, reduceIte, I, S, v_unr, e1, e2, e3, wr3, wr4, wr5]
  repeat' (first | (apply And.intro) | (intro _))
  all_goals exact sg (by unfold signN; (repeat' split) <;> omega)
theorem sign_i (g : Sh.Glob) (l : List UInt8) (b0 : UInt8) (hl : 0 < l.length) (e0 : l[0]? = some b0) (hc : b0.toNat = 244) : SCalls Tryz.prog g 122 [S (str l)] [] (I (signN l.length b0.toNat (l.getD 1 0).toNat (l.getD 2 0).toNat (l.getD 3 0).toNat : Nat)) [] := by
  have hb := u8_lt b0
  have c0 := cvi8 b0.toNat hb
  have hl0 : ¬ (l.length : Int) = 0 := by omega

  refine call_of0 hmix tf_moraineref03_Sign rfl ?_
  have q0 : (b0.toNat : Int) = 244 := by omega
  have q1 : IntKind.i64.wrap 244 = 244 := rfl
  by_cases hn : (l.length : Int) < 4
  · simp only [vcA, Nat.reduceLT, Int.reduceEq, Int.reduceAdd, Int.reduceSub, Nat.reduceBEq, Nat.reduceEqDiff, reduceCtorEq, Nat.reduceAdd, Nat.reduceSub, Nat.reduceMul, Nat.reduceLeDiff, Int.reduceToNat, Int.reduceLT, Int.reduceLE, Int.reduceNeg, reduceIte, I, S, e0, c0, hl0, hn, q0, q1]
    exact sg (by unfold signN; (repeat' split) <;> omega)
  obtain ⟨b1, e1⟩ := at_ (l := l) (i := 1) (by omega)
  have hb1 := u8_lt b1
  have g1 := getD_some e1
  obtain ⟨b2, e2⟩ := at_ (l := l) (i := 2) (by omega)
  have hb2 := u8_lt b2
  have g2 := getD_some e2
  obtain ⟨b3, e3⟩ := at_ (l := l) (i := 3) (by omega)
  have hb3 := u8_lt b3
  have g3 := getD_some e3
  have c1 := cvi8 b1.toNat hb1
  rw [g1, g2, g3]
  simp only [vcA, Nat.reduceLT, Int.reduceEq, Int.reduceAdd, Int.reduceSub, Nat.reduceBEq, Nat.reduceEqDiff, reduceCtorEq, Nat.reduceAdd, Nat.reduceSub, Nat.reduceMul, Nat.reduceLeDiff, Int.reduceToNat, Int.reduceLT, Int.reduceLE, Int.reduceNeg, reduceIte, I, S, e0, c0, e1, c1, hl0, hn, q0, q1]
  refine ⟨fun h1 => sg (by unfold signN; (repeat' split) <;> omega), fun h1 => ⟨fun h2 => sg (by unfold signN; (repeat' split) <;> omega), fun h2 => ?_⟩⟩
  refine w_unrollE 3 ?_
  simp only [vcA, Nat.reduceLT, Int.reduceEq, Int.reduceAdd, Int.reduceSub, Nat.reduceBEq, Nat.reduceEqDiff, reduceCtorEq, Nat.reduceAdd, Nat.reduceSub, Nat.reduceMul, Nat.reduceLeDiff, Int.reduceToNat, Int.reduceLT, Int.reduceLE, Int.reduceNeg, reduceIte, I, S, v_unr, e1, e2, e3, wr3, wr4, wr5]
  repeat' (first | (apply And.intro) | (intro _))
  all_goals exact sg (by unfold signN; (repeat' split) <;> omega)
theorem sign_j (g : Sh.Glob) (l : List UInt8) (b0 : UInt8) (hl : 0 < l.length) (e0 : l[0]? = some b0) (hc : 245 ≤ b0.toNat) : SCalls Tryz.prog g 122 [S (str l)] [] (I (signN l.length b0.toNat (l.getD 1 0).toNat (l.getD 2 0).toNat (l.getD 3 0).toNat : Nat)) [] := by
  have hb := u8_lt b0
  have c0 := cvi8 b0.toNat hb
  have hl0 : ¬ (l.length : Int) = 0 := by omega
  have t0 : ¬ (b0.toNat : Int) < 128 := by omega
  have t1 : 194 ≤ (b0.toNat : Int) := by omega
  have t2 : ¬ (b0.toNat : Int) ≤ 223 := by omega
  have t3 : 224 ≤ (b0.toNat : Int) := by omega
  have t4 : ¬ (b0.toNat : Int) ≤ 239 := by omega
  have t5 : 240 ≤ (b0.toNat : Int) := by omega
  have t6 : ¬ (b0.toNat : Int) ≤ 244 := by omega
  have t7 : ¬ (b0.toNat : Int) = 224 := by omega
  have t8 : ¬ (b0.toNat : Int) = 237 := by omega
  have t9 : ¬ (b0.toNat : Int) = 240 := by omega
  have t10 : ¬ (b0.toNat : Int) = 244 := by omega
  refine call_of0 hmix tf_moraineref03_Sign rfl ?_
  simp only [vcA, Nat.reduceLT, Int.reduceEq, Int.reduceAdd, Int.reduceSub, Nat.reduceBEq, Nat.reduceEqDiff, reduceCtorEq, Nat.reduceAdd, Nat.reduceSub, Nat.reduceMul, Nat.reduceLeDiff, Int.reduceToNat, Int.reduceLT, Int.reduceLE, Int.reduceNeg, reduceIte, I, S, e0, c0, hl0, t0, t1, t2, t3, t4, t5, t6, t7, t8, t9, t10]
  exact sg (by unfold signN; (repeat' split) <;> omega)
theorem sign_ok (g : Sh.Glob) (l : List UInt8) : SCalls Tryz.prog g 122 [S (str l)] [] (I (signL l)) [] := by
  by_cases h0 : l.length = 0
  · have : l = [] := List.eq_nil_of_length_eq_zero h0
    subst this
    refine call_of0 hmix tf_moraineref03_Sign rfl ?_
    simp only [vcA, Nat.reduceLT, Int.reduceEq, Int.reduceAdd, Int.reduceSub, Nat.reduceBEq, Nat.reduceEqDiff, reduceCtorEq, Nat.reduceAdd, Nat.reduceSub, Nat.reduceMul, Nat.reduceLeDiff, Int.reduceToNat, Int.reduceLT, Int.reduceLE, Int.reduceNeg, reduceIte, I, S, Int.natCast_zero, List.length_nil]
    rfl
  have hl : 0 < l.length := by omega
  obtain ⟨b0, e0⟩ := at_ hl
  rw [signL_eq hl, getD_some e0]
  have hb := u8_lt b0
  by_cases c0 : b0.toNat < 128
  · exact sign_a g l b0 hl e0 c0
  by_cases c1 : 128 ≤ b0.toNat ∧ b0.toNat ≤ 193
  · exact sign_b g l b0 hl e0 c1
  by_cases c2 : 194 ≤ b0.toNat ∧ b0.toNat ≤ 223
  · exact sign_c g l b0 hl e0 c2
  by_cases c3 : b0.toNat = 224
  · exact sign_d g l b0 hl e0 c3
  by_cases c4 : 225 ≤ b0.toNat ∧ b0.toNat ≤ 239 ∧ b0.toNat ≠ 237
  · exact sign_e g l b0 hl e0 c4
  by_cases c5 : b0.toNat = 237
  · exact sign_f g l b0 hl e0 c5
  by_cases c6 : b0.toNat = 240
  · exact sign_g g l b0 hl e0 c6
  by_cases c7 : 241 ≤ b0.toNat ∧ b0.toNat ≤ 243
  · exact sign_h g l b0 hl e0 c7
  by_cases c8 : b0.toNat = 244
  · exact sign_i g l b0 hl e0 c8
  exact sign_j g l b0 hl e0 (by omega)
end Go.Proofs.YthjphllpkcnehaaGreatDoor
end

section
/- The document's IsText. No statement of the program is proved here. -/
namespace Go.Proofs.YthjphllpkcnehaaGreatDoor
open Go Go.RowKit Go.Mor Go.Sh Go.Sh.Cd1
set_option maxRecDepth 100000
set_option maxHeartbeats 8000000
/-- A text, by the document's signs: n signs at the most. -/
def isTextN : Nat → List UInt8 → Bool
  | 0, _ => true
  | n + 1, l => match l with
    | [] => true
    | b :: r => !(signL (b :: r) == 0) && !decide (b.toNat < 32) && !(b.toNat == 127) && isTextN n ((b :: r).drop (signL (b :: r)))
def isText (l : List UInt8) : Bool := isTextN l.length l
theorem isTextN_more : ∀ (n : Nat) (l : List UInt8), l.length ≤ n → isTextN n l = isText l := by
  intro n
  induction n using Nat.strongRecOn with
  | _ n ih =>
    intro l hl
    unfold isText
    cases l with
    | nil => cases n <;> rfl
    | cons b r =>
      obtain ⟨m, rfl⟩ : ∃ m, n = m + 1 := ⟨n - 1, by simp at hl; omega⟩
      simp only [isTextN, List.length_cons]
      by_cases h0 : signL (b :: r) = 0
      · simp [h0]
      · have h1 : ((b :: r).drop (signL (b :: r))).length ≤ r.length := by simp; omega
        simp at hl
        rw [ih m (by omega) _ (by omega)]
        by_cases he : r.length = m
        · subst he; rw [ih r.length (by omega) _ h1]
        · rw [ih r.length (by omega) _ h1]
theorem isText_cons (b : UInt8) (r : List UInt8) : isText (b :: r) = (!(signL (b :: r) == 0) && !decide (b.toNat < 32) && !(b.toNat == 127) && isText ((b :: r).drop (signL (b :: r)))) := by
  conv => lhs; unfold isText
  simp only [isTextN, List.length_cons]
  by_cases h0 : signL (b :: r) = 0
  · simp [h0]
  · rw [isTextN_more r.length _ (by simp; omega)]
theorem signL_le (l : List UInt8) : signL l ≤ l.length ∧ signL l ≤ 4 := by
  unfold signL
  cases l with
  | nil => simp
  | cons b r =>
    rw [if_neg (by simp)]
    unfold signN
    simp only [List.length_cons]
    repeat' split
    all_goals omega
theorem str_drop (l : List UInt8) (a : Nat) : (str l).extract a l.length = str (l.drop a) := by
  rw [str_extract, List.take_of_length_le (by simp)]
theorem isText_ok (g : Sh.Glob) (l : List UInt8) (hl : l.length ≤ 9223372036854775807) : SCalls Tryz.prog g 68 [S (str l)] [] (.pv (.v (.bool (isText l)))) [] := by
  refine call_of0 hmix tf_moraineref03_IsText rfl ?_
  repeat (first | (with_reducible apply w_unr) | (with_reducible apply w_assoc) | (with_reducible apply w_skip) | (with_reducible apply w_ret) | (with_reducible apply w_retE) | (with_reducible apply w_skipE) | (with_reducible apply w_exit) | (with_reducible apply w_exitE) | (with_reducible apply w_block) | (with_reducible apply w_blockE) | ((with_reducible apply w_reg); · simp only [shA, eff, Int.reduceEq, Int.reduceAdd, Int.reduceSub, Nat.reduceBEq, Nat.reduceEqDiff, reduceCtorEq, Nat.reduceAdd, Nat.reduceSub, Nat.reduceMul, Nat.reduceLeDiff, Int.reduceToNat, Int.reduceLT, Int.reduceLE, Int.reduceNeg]; with_reducible rfl) | ((with_reducible apply w_regE); · simp only [shA, eff, Int.reduceEq, Int.reduceAdd, Int.reduceSub, Nat.reduceBEq, Nat.reduceEqDiff, reduceCtorEq, Nat.reduceAdd, Nat.reduceSub, Nat.reduceMul, Nat.reduceLeDiff, Int.reduceToNat, Int.reduceLT, Int.reduceLE, Int.reduceNeg]; with_reducible rfl) | ((with_reducible apply w_condT); · simp only [shA, eff, Int.reduceEq, Int.reduceAdd, Int.reduceSub, Nat.reduceBEq, Nat.reduceEqDiff, reduceCtorEq, Nat.reduceAdd, Nat.reduceSub, Nat.reduceMul, Nat.reduceLeDiff, Int.reduceToNat, Int.reduceLT, Int.reduceLE, Int.reduceNeg]) | ((with_reducible apply w_condF); · simp only [shA, eff, Int.reduceEq, Int.reduceAdd, Int.reduceSub, Nat.reduceBEq, Nat.reduceEqDiff, reduceCtorEq, Nat.reduceAdd, Nat.reduceSub, Nat.reduceMul, Nat.reduceLeDiff, Int.reduceToNat, Int.reduceLT, Int.reduceLE, Int.reduceNeg]) | ((with_reducible apply w_condTE); · simp only [shA, eff, Int.reduceEq, Int.reduceAdd, Int.reduceSub, Nat.reduceBEq, Nat.reduceEqDiff, reduceCtorEq, Nat.reduceAdd, Nat.reduceSub, Nat.reduceMul, Nat.reduceLeDiff, Int.reduceToNat, Int.reduceLT, Int.reduceLE, Int.reduceNeg]) | ((with_reducible apply w_condFE); · simp only [shA, eff, Int.reduceEq, Int.reduceAdd, Int.reduceSub, Nat.reduceBEq, Nat.reduceEqDiff, reduceCtorEq, Nat.reduceAdd, Nat.reduceSub, Nat.reduceMul, Nat.reduceLeDiff, Int.reduceToNat, Int.reduceLT, Int.reduceLE, Int.reduceNeg]) | (with_reducible apply q_then) | (with_reducible apply q_blockN) | (with_reducible apply q_blockR) | (with_reducible apply q_thenR) | (with_reducible apply q_thenX) | (with_reducible apply q_blockX) | ((with_reducible apply q_blockY); · rfl))
  refine w_loopE (σ := { i : Nat // i ≤ l.length ∧ isText l = isText (l.drop i) }) (fun i => ⟨[(0, S (str l)), (3, I (i.1 : Int))], [], [], []⟩) (fun i => l.length - i.1) ⟨0, Nat.zero_le _, rfl⟩ (by apply le_of <;> simp [leL, lk, Nat.beq, I, S]) ?_
  rintro ⟨i, hi, hT⟩
  by_cases hlt : i < l.length
  · have d1 := decide_T (p := ((i : Int) < (l.length : Int))) (by omega)
    have hd := str_drop l i
    obtain ⟨b, eb⟩ := at_ hlt
    have hcons : l.drop i = b :: l.drop (i + 1) := by
      rw [List.drop_eq_getElem_cons hlt]; congr 1
      rw [List.getElem?_eq_getElem hlt] at eb; exact Option.some.inj eb
    have hs := signL_le (l.drop i)
    have hb := isText_cons b (l.drop (i + 1))
    rw [← hcons, ← hT] at hb
    simp only [List.length_drop] at hs
    repeat (first | (with_reducible apply w_unr) | (with_reducible apply w_assoc) | (with_reducible apply w_skip) | (with_reducible apply w_ret) | (with_reducible apply w_retE) | (with_reducible apply w_skipE) | (with_reducible apply w_exit) | (with_reducible apply w_exitE) | (with_reducible apply w_block) | (with_reducible apply w_blockE) | ((with_reducible apply w_reg); · simp only [shA, eff, Int.reduceEq, Int.reduceAdd, Int.reduceSub, Nat.reduceBEq, Nat.reduceEqDiff, reduceCtorEq, Nat.reduceAdd, Nat.reduceSub, Nat.reduceMul, Nat.reduceLeDiff, Int.reduceToNat, Int.reduceLT, Int.reduceLE, Int.reduceNeg, d1]; with_reducible rfl) | ((with_reducible apply w_regE); · simp only [shA, eff, Int.reduceEq, Int.reduceAdd, Int.reduceSub, Nat.reduceBEq, Nat.reduceEqDiff, reduceCtorEq, Nat.reduceAdd, Nat.reduceSub, Nat.reduceMul, Nat.reduceLeDiff, Int.reduceToNat, Int.reduceLT, Int.reduceLE, Int.reduceNeg, d1]; with_reducible rfl) | ((with_reducible apply w_condT); · simp only [shA, eff, Int.reduceEq, Int.reduceAdd, Int.reduceSub, Nat.reduceBEq, Nat.reduceEqDiff, reduceCtorEq, Nat.reduceAdd, Nat.reduceSub, Nat.reduceMul, Nat.reduceLeDiff, Int.reduceToNat, Int.reduceLT, Int.reduceLE, Int.reduceNeg, d1]) | ((with_reducible apply w_condF); · simp only [shA, eff, Int.reduceEq, Int.reduceAdd, Int.reduceSub, Nat.reduceBEq, Nat.reduceEqDiff, reduceCtorEq, Nat.reduceAdd, Nat.reduceSub, Nat.reduceMul, Nat.reduceLeDiff, Int.reduceToNat, Int.reduceLT, Int.reduceLE, Int.reduceNeg, d1]) | ((with_reducible apply w_condTE); · simp only [shA, eff, Int.reduceEq, Int.reduceAdd, Int.reduceSub, Nat.reduceBEq, Nat.reduceEqDiff, reduceCtorEq, Nat.reduceAdd, Nat.reduceSub, Nat.reduceMul, Nat.reduceLeDiff, Int.reduceToNat, Int.reduceLT, Int.reduceLE, Int.reduceNeg, d1]) | ((with_reducible apply w_condFE); · simp only [shA, eff, Int.reduceEq, Int.reduceAdd, Int.reduceSub, Nat.reduceBEq, Nat.reduceEqDiff, reduceCtorEq, Nat.reduceAdd, Nat.reduceSub, Nat.reduceMul, Nat.reduceLeDiff, Int.reduceToNat, Int.reduceLT, Int.reduceLE, Int.reduceNeg, d1]) | (with_reducible apply q_then) | (with_reducible apply q_blockN) | (with_reducible apply q_blockR) | (with_reducible apply q_thenR) | (with_reducible apply q_thenX) | (with_reducible apply q_blockX) | ((with_reducible apply q_blockY); · rfl))
    (first | (with_reducible apply w_ops) | (with_reducible apply w_opsE))
    repeat ((with_reducible apply w_op); (· rfl); (· simp only [shA, eff, Int.reduceEq, Int.reduceAdd, Int.reduceSub, Nat.reduceBEq, Nat.reduceEqDiff, reduceCtorEq, Nat.reduceAdd, Nat.reduceSub, Nat.reduceMul, Nat.reduceLeDiff, Int.reduceToNat, Int.reduceLT, Int.reduceLE, Int.reduceNeg, hi, hd, and_true]; with_reducible rfl); (· simp only [shA, eff, Int.reduceEq, Int.reduceAdd, Int.reduceSub, Nat.reduceBEq, Nat.reduceEqDiff, reduceCtorEq, Nat.reduceAdd, Nat.reduceSub, Nat.reduceMul, Nat.reduceLeDiff, Int.reduceToNat, Int.reduceLT, Int.reduceLE, Int.reduceNeg, hi, hd, and_true]; with_reducible rfl))
    (with_reducible apply w_call); (· simp only [shA, eff, Int.reduceEq, Int.reduceAdd, Int.reduceSub, Nat.reduceBEq, Nat.reduceEqDiff, reduceCtorEq, Nat.reduceAdd, Nat.reduceSub, Nat.reduceMul, Nat.reduceLeDiff, Int.reduceToNat, Int.reduceLT, Int.reduceLE, Int.reduceNeg, hi, hd]; with_reducible rfl); (· simp only [shA, eff, Int.reduceEq, Int.reduceAdd, Int.reduceSub, Nat.reduceBEq, Nat.reduceEqDiff, reduceCtorEq, Nat.reduceAdd, Nat.reduceSub, Nat.reduceMul, Nat.reduceLeDiff, Int.reduceToNat, Int.reduceLT, Int.reduceLE, Int.reduceNeg, hi, hd]; with_reducible rfl); (· simp only [shA, eff, Int.reduceEq, Int.reduceAdd, Int.reduceSub, Nat.reduceBEq, Nat.reduceEqDiff, reduceCtorEq, Nat.reduceAdd, Nat.reduceSub, Nat.reduceMul, Nat.reduceLeDiff, Int.reduceToNat, Int.reduceLT, Int.reduceLE, Int.reduceNeg, hi, hd]; with_reducible rfl); (· simp only [shA, eff, Int.reduceEq, Int.reduceAdd, Int.reduceSub, Nat.reduceBEq, Nat.reduceEqDiff, reduceCtorEq, Nat.reduceAdd, Nat.reduceSub, Nat.reduceMul, Nat.reduceLeDiff, Int.reduceToNat, Int.reduceLT, Int.reduceLE, Int.reduceNeg, hi, hd]; with_reducible rfl); (· exact sign_ok g (l.drop i)); (· rfl); (· simp only [shA, eff, Int.reduceEq, Int.reduceAdd, Int.reduceSub, Nat.reduceBEq, Nat.reduceEqDiff, reduceCtorEq, Nat.reduceAdd, Nat.reduceSub, Nat.reduceMul, Nat.reduceLeDiff, Int.reduceToNat, Int.reduceLT, Int.reduceLE, Int.reduceNeg, hi, hd]; with_reducible rfl); (· simp only [shA, eff, Int.reduceEq, Int.reduceAdd, Int.reduceSub, Nat.reduceBEq, Nat.reduceEqDiff, reduceCtorEq, Nat.reduceAdd, Nat.reduceSub, Nat.reduceMul, Nat.reduceLeDiff, Int.reduceToNat, Int.reduceLT, Int.reduceLE, Int.reduceNeg, hi, hd]; with_reducible rfl); (· simp only [shA, eff, Int.reduceEq, Int.reduceAdd, Int.reduceSub, Nat.reduceBEq, Nat.reduceEqDiff, reduceCtorEq, Nat.reduceAdd, Nat.reduceSub, Nat.reduceMul, Nat.reduceLeDiff, Int.reduceToNat, Int.reduceLT, Int.reduceLE, Int.reduceNeg, hi, hd]; with_reducible rfl)
    repeat ((with_reducible apply w_op); (· rfl); (· simp only [shA, eff, Int.reduceEq, Int.reduceAdd, Int.reduceSub, Nat.reduceBEq, Nat.reduceEqDiff, reduceCtorEq, Nat.reduceAdd, Nat.reduceSub, Nat.reduceMul, Nat.reduceLeDiff, Int.reduceToNat, Int.reduceLT, Int.reduceLE, Int.reduceNeg, hi, hd]; with_reducible rfl); (· simp only [shA, eff, Int.reduceEq, Int.reduceAdd, Int.reduceSub, Nat.reduceBEq, Nat.reduceEqDiff, reduceCtorEq, Nat.reduceAdd, Nat.reduceSub, Nat.reduceMul, Nat.reduceLeDiff, Int.reduceToNat, Int.reduceLT, Int.reduceLE, Int.reduceNeg, hi, hd]; with_reducible rfl))
    apply w_done
    generalize signL (l.drop i) = n at hs hb ⊢
    by_cases h0 : n = 0
    · have d2 := decide_T (p := ((n : Int) = 0)) (by omega)
      have hf : isText l = false := by rw [hb]; simp [h0]
      repeat (first | (with_reducible apply w_unr) | (with_reducible apply w_assoc) | (with_reducible apply w_skip) | (with_reducible apply w_ret) | (with_reducible apply w_retE) | (with_reducible apply w_skipE) | (with_reducible apply w_exit) | (with_reducible apply w_exitE) | (with_reducible apply w_block) | (with_reducible apply w_blockE) | ((with_reducible apply w_reg); · simp only [shA, eff, Int.reduceEq, Int.reduceAdd, Int.reduceSub, Nat.reduceBEq, Nat.reduceEqDiff, reduceCtorEq, Nat.reduceAdd, Nat.reduceSub, Nat.reduceMul, Nat.reduceLeDiff, Int.reduceToNat, Int.reduceLT, Int.reduceLE, Int.reduceNeg, d2]; with_reducible rfl) | ((with_reducible apply w_regE); · simp only [shA, eff, Int.reduceEq, Int.reduceAdd, Int.reduceSub, Nat.reduceBEq, Nat.reduceEqDiff, reduceCtorEq, Nat.reduceAdd, Nat.reduceSub, Nat.reduceMul, Nat.reduceLeDiff, Int.reduceToNat, Int.reduceLT, Int.reduceLE, Int.reduceNeg, d2]; with_reducible rfl) | ((with_reducible apply w_condT); · simp only [shA, eff, Int.reduceEq, Int.reduceAdd, Int.reduceSub, Nat.reduceBEq, Nat.reduceEqDiff, reduceCtorEq, Nat.reduceAdd, Nat.reduceSub, Nat.reduceMul, Nat.reduceLeDiff, Int.reduceToNat, Int.reduceLT, Int.reduceLE, Int.reduceNeg, d2]) | ((with_reducible apply w_condF); · simp only [shA, eff, Int.reduceEq, Int.reduceAdd, Int.reduceSub, Nat.reduceBEq, Nat.reduceEqDiff, reduceCtorEq, Nat.reduceAdd, Nat.reduceSub, Nat.reduceMul, Nat.reduceLeDiff, Int.reduceToNat, Int.reduceLT, Int.reduceLE, Int.reduceNeg, d2]) | ((with_reducible apply w_condTE); · simp only [shA, eff, Int.reduceEq, Int.reduceAdd, Int.reduceSub, Nat.reduceBEq, Nat.reduceEqDiff, reduceCtorEq, Nat.reduceAdd, Nat.reduceSub, Nat.reduceMul, Nat.reduceLeDiff, Int.reduceToNat, Int.reduceLT, Int.reduceLE, Int.reduceNeg, d2]) | ((with_reducible apply w_condFE); · simp only [shA, eff, Int.reduceEq, Int.reduceAdd, Int.reduceSub, Nat.reduceBEq, Nat.reduceEqDiff, reduceCtorEq, Nat.reduceAdd, Nat.reduceSub, Nat.reduceMul, Nat.reduceLeDiff, Int.reduceToNat, Int.reduceLT, Int.reduceLE, Int.reduceNeg, d2]) | (with_reducible apply q_then) | (with_reducible apply q_blockN) | (with_reducible apply q_blockR) | (with_reducible apply q_thenR) | (with_reducible apply q_thenX) | (with_reducible apply q_blockX) | ((with_reducible apply q_blockY); · rfl))
      simp [Post0, ansW, resT, SRes.get, ES.fs, ES.kill, has, drp, seqO, nbeq, lk, I, S, TV.ids3, TV.ids2, TV.ids1, TV.ids0, TV.ren3, TV.ren2, TV.ren1, TV.ren0, F_moraineref03_IsText, hf]
    have d2 := decide_F (p := ((n : Int) = 0)) (by omega)
    by_cases h1 : b.toNat < 32
    · have d3 := decide_T (p := ((b.toNat : Int) < 32)) (by omega)
      have hf : isText l = false := by rw [hb]; simp [h1]
      repeat (first | (with_reducible apply w_unr) | (with_reducible apply w_assoc) | (with_reducible apply w_skip) | (with_reducible apply w_ret) | (with_reducible apply w_retE) | (with_reducible apply w_skipE) | (with_reducible apply w_exit) | (with_reducible apply w_exitE) | (with_reducible apply w_block) | (with_reducible apply w_blockE) | ((with_reducible apply w_reg); · simp only [shA, eff, Int.reduceEq, Int.reduceAdd, Int.reduceSub, Nat.reduceBEq, Nat.reduceEqDiff, reduceCtorEq, Nat.reduceAdd, Nat.reduceSub, Nat.reduceMul, Nat.reduceLeDiff, Int.reduceToNat, Int.reduceLT, Int.reduceLE, Int.reduceNeg, d2, eb, d3]; with_reducible rfl) | ((with_reducible apply w_regE); · simp only [shA, eff, Int.reduceEq, Int.reduceAdd, Int.reduceSub, Nat.reduceBEq, Nat.reduceEqDiff, reduceCtorEq, Nat.reduceAdd, Nat.reduceSub, Nat.reduceMul, Nat.reduceLeDiff, Int.reduceToNat, Int.reduceLT, Int.reduceLE, Int.reduceNeg, d2, eb, d3]; with_reducible rfl) | ((with_reducible apply w_condT); · simp only [shA, eff, Int.reduceEq, Int.reduceAdd, Int.reduceSub, Nat.reduceBEq, Nat.reduceEqDiff, reduceCtorEq, Nat.reduceAdd, Nat.reduceSub, Nat.reduceMul, Nat.reduceLeDiff, Int.reduceToNat, Int.reduceLT, Int.reduceLE, Int.reduceNeg, d2, eb, d3]) | ((with_reducible apply w_condF); · simp only [shA, eff, Int.reduceEq, Int.reduceAdd, Int.reduceSub, Nat.reduceBEq, Nat.reduceEqDiff, reduceCtorEq, Nat.reduceAdd, Nat.reduceSub, Nat.reduceMul, Nat.reduceLeDiff, Int.reduceToNat, Int.reduceLT, Int.reduceLE, Int.reduceNeg, d2, eb, d3]) | ((with_reducible apply w_condTE); · simp only [shA, eff, Int.reduceEq, Int.reduceAdd, Int.reduceSub, Nat.reduceBEq, Nat.reduceEqDiff, reduceCtorEq, Nat.reduceAdd, Nat.reduceSub, Nat.reduceMul, Nat.reduceLeDiff, Int.reduceToNat, Int.reduceLT, Int.reduceLE, Int.reduceNeg, d2, eb, d3]) | ((with_reducible apply w_condFE); · simp only [shA, eff, Int.reduceEq, Int.reduceAdd, Int.reduceSub, Nat.reduceBEq, Nat.reduceEqDiff, reduceCtorEq, Nat.reduceAdd, Nat.reduceSub, Nat.reduceMul, Nat.reduceLeDiff, Int.reduceToNat, Int.reduceLT, Int.reduceLE, Int.reduceNeg, d2, eb, d3]) | (with_reducible apply q_then) | (with_reducible apply q_blockN) | (with_reducible apply q_blockR) | (with_reducible apply q_thenR) | (with_reducible apply q_thenX) | (with_reducible apply q_blockX) | ((with_reducible apply q_blockY); · rfl))
      simp [Post0, ansW, resT, SRes.get, ES.fs, ES.kill, has, drp, seqO, nbeq, lk, I, S, TV.ids3, TV.ids2, TV.ids1, TV.ids0, TV.ren3, TV.ren2, TV.ren1, TV.ren0, F_moraineref03_IsText, hf]
    have d3 := decide_F (p := ((b.toNat : Int) < 32)) (by omega)
    by_cases h2 : b.toNat = 127
    · have d4 := decide_T (p := ((b.toNat : Int) = 127)) (by omega)
      have hf : isText l = false := by rw [hb]; simp [h2]
      repeat (first | (with_reducible apply w_unr) | (with_reducible apply w_assoc) | (with_reducible apply w_skip) | (with_reducible apply w_ret) | (with_reducible apply w_retE) | (with_reducible apply w_skipE) | (with_reducible apply w_exit) | (with_reducible apply w_exitE) | (with_reducible apply w_block) | (with_reducible apply w_blockE) | ((with_reducible apply w_reg); · simp only [shA, eff, Int.reduceEq, Int.reduceAdd, Int.reduceSub, Nat.reduceBEq, Nat.reduceEqDiff, reduceCtorEq, Nat.reduceAdd, Nat.reduceSub, Nat.reduceMul, Nat.reduceLeDiff, Int.reduceToNat, Int.reduceLT, Int.reduceLE, Int.reduceNeg, d2, eb, d3, d4]; with_reducible rfl) | ((with_reducible apply w_regE); · simp only [shA, eff, Int.reduceEq, Int.reduceAdd, Int.reduceSub, Nat.reduceBEq, Nat.reduceEqDiff, reduceCtorEq, Nat.reduceAdd, Nat.reduceSub, Nat.reduceMul, Nat.reduceLeDiff, Int.reduceToNat, Int.reduceLT, Int.reduceLE, Int.reduceNeg, d2, eb, d3, d4]; with_reducible rfl) | ((with_reducible apply w_condT); · simp only [shA, eff, Int.reduceEq, Int.reduceAdd, Int.reduceSub, Nat.reduceBEq, Nat.reduceEqDiff, reduceCtorEq, Nat.reduceAdd, Nat.reduceSub, Nat.reduceMul, Nat.reduceLeDiff, Int.reduceToNat, Int.reduceLT, Int.reduceLE, Int.reduceNeg, d2, eb, d3, d4]) | ((with_reducible apply w_condF); · simp only [shA, eff, Int.reduceEq, Int.reduceAdd, Int.reduceSub, Nat.reduceBEq, Nat.reduceEqDiff, reduceCtorEq, Nat.reduceAdd, Nat.reduceSub, Nat.reduceMul, Nat.reduceLeDiff, Int.reduceToNat, Int.reduceLT, Int.reduceLE, Int.reduceNeg, d2, eb, d3, d4]) | ((with_reducible apply w_condTE); · simp only [shA, eff, Int.reduceEq, Int.reduceAdd, Int.reduceSub, Nat.reduceBEq, Nat.reduceEqDiff, reduceCtorEq, Nat.reduceAdd, Nat.reduceSub, Nat.reduceMul, Nat.reduceLeDiff, Int.reduceToNat, Int.reduceLT, Int.reduceLE, Int.reduceNeg, d2, eb, d3, d4]) | ((with_reducible apply w_condFE); · simp only [shA, eff, Int.reduceEq, Int.reduceAdd, Int.reduceSub, Nat.reduceBEq, Nat.reduceEqDiff, reduceCtorEq, Nat.reduceAdd, Nat.reduceSub, Nat.reduceMul, Nat.reduceLeDiff, Int.reduceToNat, Int.reduceLT, Int.reduceLE, Int.reduceNeg, d2, eb, d3, d4]) | (with_reducible apply q_then) | (with_reducible apply q_blockN) | (with_reducible apply q_blockR) | (with_reducible apply q_thenR) | (with_reducible apply q_thenX) | (with_reducible apply q_blockX) | ((with_reducible apply q_blockY); · rfl))
      simp [Post0, ansW, resT, SRes.get, ES.fs, ES.kill, has, drp, seqO, nbeq, lk, I, S, TV.ids3, TV.ids2, TV.ids1, TV.ids0, TV.ren3, TV.ren2, TV.ren1, TV.ren0, F_moraineref03_IsText, hf]
    have d4 := decide_F (p := ((b.toNat : Int) = 127)) (by omega)
    have w1 : IntKind.i64.wrap ((i : Int) + (n : Int)) = ((i + n : Nat) : Int) := by rw [wrap64 (by omega) (by omega)]; omega
    have hT2 : isText l = isText (l.drop (i + n)) := by rw [hb, List.drop_drop]; simp [h0, h1, h2]
    repeat (first | (with_reducible apply w_unr) | (with_reducible apply w_assoc) | (with_reducible apply w_skip) | (with_reducible apply w_ret) | (with_reducible apply w_retE) | (with_reducible apply w_skipE) | (with_reducible apply w_exit) | (with_reducible apply w_exitE) | (with_reducible apply w_block) | (with_reducible apply w_blockE) | ((with_reducible apply w_reg); · simp only [shA, eff, Int.reduceEq, Int.reduceAdd, Int.reduceSub, Nat.reduceBEq, Nat.reduceEqDiff, reduceCtorEq, Nat.reduceAdd, Nat.reduceSub, Nat.reduceMul, Nat.reduceLeDiff, Int.reduceToNat, Int.reduceLT, Int.reduceLE, Int.reduceNeg, d2, eb, d3, d4, w1]; with_reducible rfl) | ((with_reducible apply w_regE); · simp only [shA, eff, Int.reduceEq, Int.reduceAdd, Int.reduceSub, Nat.reduceBEq, Nat.reduceEqDiff, reduceCtorEq, Nat.reduceAdd, Nat.reduceSub, Nat.reduceMul, Nat.reduceLeDiff, Int.reduceToNat, Int.reduceLT, Int.reduceLE, Int.reduceNeg, d2, eb, d3, d4, w1]; with_reducible rfl) | ((with_reducible apply w_condT); · simp only [shA, eff, Int.reduceEq, Int.reduceAdd, Int.reduceSub, Nat.reduceBEq, Nat.reduceEqDiff, reduceCtorEq, Nat.reduceAdd, Nat.reduceSub, Nat.reduceMul, Nat.reduceLeDiff, Int.reduceToNat, Int.reduceLT, Int.reduceLE, Int.reduceNeg, d2, eb, d3, d4, w1]) | ((with_reducible apply w_condF); · simp only [shA, eff, Int.reduceEq, Int.reduceAdd, Int.reduceSub, Nat.reduceBEq, Nat.reduceEqDiff, reduceCtorEq, Nat.reduceAdd, Nat.reduceSub, Nat.reduceMul, Nat.reduceLeDiff, Int.reduceToNat, Int.reduceLT, Int.reduceLE, Int.reduceNeg, d2, eb, d3, d4, w1]) | ((with_reducible apply w_condTE); · simp only [shA, eff, Int.reduceEq, Int.reduceAdd, Int.reduceSub, Nat.reduceBEq, Nat.reduceEqDiff, reduceCtorEq, Nat.reduceAdd, Nat.reduceSub, Nat.reduceMul, Nat.reduceLeDiff, Int.reduceToNat, Int.reduceLT, Int.reduceLE, Int.reduceNeg, d2, eb, d3, d4, w1]) | ((with_reducible apply w_condFE); · simp only [shA, eff, Int.reduceEq, Int.reduceAdd, Int.reduceSub, Nat.reduceBEq, Nat.reduceEqDiff, reduceCtorEq, Nat.reduceAdd, Nat.reduceSub, Nat.reduceMul, Nat.reduceLeDiff, Int.reduceToNat, Int.reduceLT, Int.reduceLE, Int.reduceNeg, d2, eb, d3, d4, w1]) | (with_reducible apply q_then) | (with_reducible apply q_blockN) | (with_reducible apply q_blockR) | (with_reducible apply q_thenR) | (with_reducible apply q_thenX) | (with_reducible apply q_blockX) | ((with_reducible apply q_blockY); · rfl))
    refine ⟨⟨i + n, by omega, hT2⟩, by show l.length - (i + n) < l.length - i; omega, ?_⟩
    apply le_of <;> simp [leL, lk, Nat.beq, I, S]
  · have d1 := decide_F (p := ((i : Int) < (l.length : Int))) (by omega)
    have hf : isText l = true := by rw [hT, List.drop_eq_nil_of_le (by omega)]; rfl
    repeat (first | (with_reducible apply w_unr) | (with_reducible apply w_assoc) | (with_reducible apply w_skip) | (with_reducible apply w_ret) | (with_reducible apply w_retE) | (with_reducible apply w_skipE) | (with_reducible apply w_exit) | (with_reducible apply w_exitE) | (with_reducible apply w_block) | (with_reducible apply w_blockE) | ((with_reducible apply w_reg); · simp only [shA, eff, Int.reduceEq, Int.reduceAdd, Int.reduceSub, Nat.reduceBEq, Nat.reduceEqDiff, reduceCtorEq, Nat.reduceAdd, Nat.reduceSub, Nat.reduceMul, Nat.reduceLeDiff, Int.reduceToNat, Int.reduceLT, Int.reduceLE, Int.reduceNeg, d1]; with_reducible rfl) | ((with_reducible apply w_regE); · simp only [shA, eff, Int.reduceEq, Int.reduceAdd, Int.reduceSub, Nat.reduceBEq, Nat.reduceEqDiff, reduceCtorEq, Nat.reduceAdd, Nat.reduceSub, Nat.reduceMul, Nat.reduceLeDiff, Int.reduceToNat, Int.reduceLT, Int.reduceLE, Int.reduceNeg, d1]; with_reducible rfl) | ((with_reducible apply w_condT); · simp only [shA, eff, Int.reduceEq, Int.reduceAdd, Int.reduceSub, Nat.reduceBEq, Nat.reduceEqDiff, reduceCtorEq, Nat.reduceAdd, Nat.reduceSub, Nat.reduceMul, Nat.reduceLeDiff, Int.reduceToNat, Int.reduceLT, Int.reduceLE, Int.reduceNeg, d1]) | ((with_reducible apply w_condF); · simp only [shA, eff, Int.reduceEq, Int.reduceAdd, Int.reduceSub, Nat.reduceBEq, Nat.reduceEqDiff, reduceCtorEq, Nat.reduceAdd, Nat.reduceSub, Nat.reduceMul, Nat.reduceLeDiff, Int.reduceToNat, Int.reduceLT, Int.reduceLE, Int.reduceNeg, d1]) | ((with_reducible apply w_condTE); · simp only [shA, eff, Int.reduceEq, Int.reduceAdd, Int.reduceSub, Nat.reduceBEq, Nat.reduceEqDiff, reduceCtorEq, Nat.reduceAdd, Nat.reduceSub, Nat.reduceMul, Nat.reduceLeDiff, Int.reduceToNat, Int.reduceLT, Int.reduceLE, Int.reduceNeg, d1]) | ((with_reducible apply w_condFE); · simp only [shA, eff, Int.reduceEq, Int.reduceAdd, Int.reduceSub, Nat.reduceBEq, Nat.reduceEqDiff, reduceCtorEq, Nat.reduceAdd, Nat.reduceSub, Nat.reduceMul, Nat.reduceLeDiff, Int.reduceToNat, Int.reduceLT, Int.reduceLE, Int.reduceNeg, d1]) | (with_reducible apply q_then) | (with_reducible apply q_blockN) | (with_reducible apply q_blockR) | (with_reducible apply q_thenR) | (with_reducible apply q_thenX) | (with_reducible apply q_blockX) | ((with_reducible apply q_blockY); · rfl))
    simp [Post0, ansW, resT, SRes.get, ES.fs, ES.kill, has, drp, seqO, nbeq, lk, I, S, TV.ids3, TV.ids2, TV.ids1, TV.ids0, TV.ren3, TV.ren2, TV.ren1, TV.ren0, F_moraineref03_IsText, hf]
end Go.Proofs.YthjphllpkcnehaaGreatDoor
namespace Go.Proofs.YthjphllpkcnehaaGreatDoor
open Go Go.RowKit Go.Mor Go.Sh Go.Sh.Cd1
set_option maxRecDepth 100000
set_option maxHeartbeats 8000000
def stepN (l : List UInt8) : Nat := max (signL l) 1
def vtN : Nat → List UInt8 → List UInt8 → List UInt8
  | 0, _, out => out
  | n + 1, l, out => if l = [] ∨ 17 ≤ out.length then out else vtN n (l.drop (stepN l)) (if isText (l.take (stepN l)) then out ++ l.take (stepN l) else out)
def vt (l out : List UInt8) : List UInt8 := vtN l.length l out
def valText (l : List UInt8) : List UInt8 := vt l []
theorem stepN_le {l : List UInt8} (h : 0 < l.length) : 1 ≤ stepN l ∧ stepN l ≤ l.length ∧ stepN l ≤ 4 := by
  have := signL_le l
  unfold stepN; omega
theorem vtN_more : ∀ (n : Nat) (l out : List UInt8), l.length ≤ n → vtN n l out = vt l out := by
  intro n
  induction n using Nat.strongRecOn with
  | _ n ih =>
    intro l out hl
    unfold vt
    cases n with
    | zero =>
      have : l.length = 0 := by omega
      rw [this]
    | succ m =>
      cases hm : l.length with
      | zero =>
        have : l = [] := List.eq_nil_of_length_eq_zero hm
        simp [vtN, this]
      | succ p =>
        simp only [vtN]
        split
        · rfl
        · have hs := stepN_le (l := l) (by omega)
          have h1 : (l.drop (stepN l)).length ≤ p := by simp; omega
          rw [ih m (by omega) _ _ (by omega), ih p (by omega) _ _ h1]
theorem vt_step (l out : List UInt8) : vt l out = if l = [] ∨ 17 ≤ out.length then out else vt (l.drop (stepN l)) (if isText (l.take (stepN l)) then out ++ l.take (stepN l) else out) := by
  conv => lhs; unfold vt
  cases hm : l.length with
  | zero =>
    have : l = [] := List.eq_nil_of_length_eq_zero hm
    simp [vtN, this]
  | succ p =>
    have hs := stepN_le (l := l) (by omega)
    simp only [vtN]
    split
    · rfl
    · rw [vtN_more p _ _ (by simp; omega)]
theorem valText_ok (g : Sh.Glob) (l : List UInt8) (hl : l.length ≤ 9223372036854775807) : SCalls Tryz.prog g 103 [S (str l)] [] (S (str (valText l))) [] := by
  refine call_of0 hmix tf_morainelaw03_ValText rfl ?_
  have e0 : (⟨#[]⟩ : ByteArray) = str [] := rfl
  repeat (first | (with_reducible apply w_unr) | (with_reducible apply w_assoc) | (with_reducible apply w_skip) | (with_reducible apply w_ret) | (with_reducible apply w_retE) | (with_reducible apply w_skipE) | (with_reducible apply w_exit) | (with_reducible apply w_exitE) | (with_reducible apply w_block) | (with_reducible apply w_blockE) | ((with_reducible apply w_reg); · simp only [shA, eff, Int.reduceEq, Int.reduceAdd, Int.reduceSub, Nat.reduceBEq, Nat.reduceEqDiff, reduceCtorEq, Nat.reduceAdd, Nat.reduceSub, Nat.reduceMul, Nat.reduceLeDiff, Int.reduceToNat, Int.reduceLT, Int.reduceLE, Int.reduceNeg]; with_reducible rfl) | ((with_reducible apply w_regE); · simp only [shA, eff, Int.reduceEq, Int.reduceAdd, Int.reduceSub, Nat.reduceBEq, Nat.reduceEqDiff, reduceCtorEq, Nat.reduceAdd, Nat.reduceSub, Nat.reduceMul, Nat.reduceLeDiff, Int.reduceToNat, Int.reduceLT, Int.reduceLE, Int.reduceNeg]; with_reducible rfl) | ((with_reducible apply w_condT); · simp only [shA, eff, Int.reduceEq, Int.reduceAdd, Int.reduceSub, Nat.reduceBEq, Nat.reduceEqDiff, reduceCtorEq, Nat.reduceAdd, Nat.reduceSub, Nat.reduceMul, Nat.reduceLeDiff, Int.reduceToNat, Int.reduceLT, Int.reduceLE, Int.reduceNeg]) | ((with_reducible apply w_condF); · simp only [shA, eff, Int.reduceEq, Int.reduceAdd, Int.reduceSub, Nat.reduceBEq, Nat.reduceEqDiff, reduceCtorEq, Nat.reduceAdd, Nat.reduceSub, Nat.reduceMul, Nat.reduceLeDiff, Int.reduceToNat, Int.reduceLT, Int.reduceLE, Int.reduceNeg]) | ((with_reducible apply w_condTE); · simp only [shA, eff, Int.reduceEq, Int.reduceAdd, Int.reduceSub, Nat.reduceBEq, Nat.reduceEqDiff, reduceCtorEq, Nat.reduceAdd, Nat.reduceSub, Nat.reduceMul, Nat.reduceLeDiff, Int.reduceToNat, Int.reduceLT, Int.reduceLE, Int.reduceNeg]) | ((with_reducible apply w_condFE); · simp only [shA, eff, Int.reduceEq, Int.reduceAdd, Int.reduceSub, Nat.reduceBEq, Nat.reduceEqDiff, reduceCtorEq, Nat.reduceAdd, Nat.reduceSub, Nat.reduceMul, Nat.reduceLeDiff, Int.reduceToNat, Int.reduceLT, Int.reduceLE, Int.reduceNeg]) | (with_reducible apply q_then) | (with_reducible apply q_blockN) | (with_reducible apply q_blockR) | (with_reducible apply q_thenR) | (with_reducible apply q_thenX) | (with_reducible apply q_blockX) | ((with_reducible apply q_blockY); · rfl))
  refine w_loopE (σ := { p : Nat × List UInt8 // p.1 ≤ l.length ∧ p.2.length ≤ 20 ∧ valText l = vt (l.drop p.1) p.2 }) (fun p => ⟨[(0, S (str l)), (3, S (str p.1.2)), (4, I (p.1.1 : Int))], [], [], []⟩) (fun p => l.length - p.1.1) ⟨(0, []), Nat.zero_le _, Nat.zero_le _, rfl⟩ (by rw [← e0]; apply le_of <;> simp [leL, lk, Nat.beq, I, S, str]) ?_
  rintro ⟨⟨i, out⟩, hi, ho, hT⟩
  simp only at hi ho hT
  rw [vt_step] at hT
  by_cases hlt : ¬ i < l.length
  · have d1 := decide_F (p := ((i : Int) < (l.length : Int))) (by omega)
    have hf : valText l = out := by rw [hT, if_pos (.inl (List.drop_eq_nil_of_le (by omega)))]
    repeat (first | (with_reducible apply w_unr) | (with_reducible apply w_assoc) | (with_reducible apply w_skip) | (with_reducible apply w_ret) | (with_reducible apply w_retE) | (with_reducible apply w_skipE) | (with_reducible apply w_exit) | (with_reducible apply w_exitE) | (with_reducible apply w_block) | (with_reducible apply w_blockE) | ((with_reducible apply w_reg); · simp only [shA, eff, Int.reduceEq, Int.reduceAdd, Int.reduceSub, Nat.reduceBEq, Nat.reduceEqDiff, reduceCtorEq, Nat.reduceAdd, Nat.reduceSub, Nat.reduceMul, Nat.reduceLeDiff, Int.reduceToNat, Int.reduceLT, Int.reduceLE, Int.reduceNeg, d1]; with_reducible rfl) | ((with_reducible apply w_regE); · simp only [shA, eff, Int.reduceEq, Int.reduceAdd, Int.reduceSub, Nat.reduceBEq, Nat.reduceEqDiff, reduceCtorEq, Nat.reduceAdd, Nat.reduceSub, Nat.reduceMul, Nat.reduceLeDiff, Int.reduceToNat, Int.reduceLT, Int.reduceLE, Int.reduceNeg, d1]; with_reducible rfl) | ((with_reducible apply w_condT); · simp only [shA, eff, Int.reduceEq, Int.reduceAdd, Int.reduceSub, Nat.reduceBEq, Nat.reduceEqDiff, reduceCtorEq, Nat.reduceAdd, Nat.reduceSub, Nat.reduceMul, Nat.reduceLeDiff, Int.reduceToNat, Int.reduceLT, Int.reduceLE, Int.reduceNeg, d1]) | ((with_reducible apply w_condF); · simp only [shA, eff, Int.reduceEq, Int.reduceAdd, Int.reduceSub, Nat.reduceBEq, Nat.reduceEqDiff, reduceCtorEq, Nat.reduceAdd, Nat.reduceSub, Nat.reduceMul, Nat.reduceLeDiff, Int.reduceToNat, Int.reduceLT, Int.reduceLE, Int.reduceNeg, d1]) | ((with_reducible apply w_condTE); · simp only [shA, eff, Int.reduceEq, Int.reduceAdd, Int.reduceSub, Nat.reduceBEq, Nat.reduceEqDiff, reduceCtorEq, Nat.reduceAdd, Nat.reduceSub, Nat.reduceMul, Nat.reduceLeDiff, Int.reduceToNat, Int.reduceLT, Int.reduceLE, Int.reduceNeg, d1]) | ((with_reducible apply w_condFE); · simp only [shA, eff, Int.reduceEq, Int.reduceAdd, Int.reduceSub, Nat.reduceBEq, Nat.reduceEqDiff, reduceCtorEq, Nat.reduceAdd, Nat.reduceSub, Nat.reduceMul, Nat.reduceLeDiff, Int.reduceToNat, Int.reduceLT, Int.reduceLE, Int.reduceNeg, d1]) | (with_reducible apply q_then) | (with_reducible apply q_blockN) | (with_reducible apply q_blockR) | (with_reducible apply q_thenR) | (with_reducible apply q_thenX) | (with_reducible apply q_blockX) | ((with_reducible apply q_blockY); · rfl))
    simp [Post0, ansW, resT, SRes.get, ES.fs, ES.kill, has, drp, seqO, nbeq, lk, I, S, TV.ids3, TV.ids2, TV.ids1, TV.ids0, TV.ren3, TV.ren2, TV.ren1, TV.ren0, F_morainelaw03_ValText, hf]
  have d1 := decide_T (p := ((i : Int) < (l.length : Int))) (by omega)
  by_cases h17 : ¬ out.length < 17
  · have d2 := decide_F (p := ((out.length : Int) < 17)) (by omega)
    have hf : valText l = out := by rw [hT, if_pos (.inr (by omega))]
    repeat (first | (with_reducible apply w_unr) | (with_reducible apply w_assoc) | (with_reducible apply w_skip) | (with_reducible apply w_ret) | (with_reducible apply w_retE) | (with_reducible apply w_skipE) | (with_reducible apply w_exit) | (with_reducible apply w_exitE) | (with_reducible apply w_block) | (with_reducible apply w_blockE) | ((with_reducible apply w_reg); · simp only [shA, eff, Int.reduceEq, Int.reduceAdd, Int.reduceSub, Nat.reduceBEq, Nat.reduceEqDiff, reduceCtorEq, Nat.reduceAdd, Nat.reduceSub, Nat.reduceMul, Nat.reduceLeDiff, Int.reduceToNat, Int.reduceLT, Int.reduceLE, Int.reduceNeg, d1, d2]; with_reducible rfl) | ((with_reducible apply w_regE); · simp only [shA, eff, Int.reduceEq, Int.reduceAdd, Int.reduceSub, Nat.reduceBEq, Nat.reduceEqDiff, reduceCtorEq, Nat.reduceAdd, Nat.reduceSub, Nat.reduceMul, Nat.reduceLeDiff, Int.reduceToNat, Int.reduceLT, Int.reduceLE, Int.reduceNeg, d1, d2]; with_reducible rfl) | ((with_reducible apply w_condT); · simp only [shA, eff, Int.reduceEq, Int.reduceAdd, Int.reduceSub, Nat.reduceBEq, Nat.reduceEqDiff, reduceCtorEq, Nat.reduceAdd, Nat.reduceSub, Nat.reduceMul, Nat.reduceLeDiff, Int.reduceToNat, Int.reduceLT, Int.reduceLE, Int.reduceNeg, d1, d2]) | ((with_reducible apply w_condF); · simp only [shA, eff, Int.reduceEq, Int.reduceAdd, Int.reduceSub, Nat.reduceBEq, Nat.reduceEqDiff, reduceCtorEq, Nat.reduceAdd, Nat.reduceSub, Nat.reduceMul, Nat.reduceLeDiff, Int.reduceToNat, Int.reduceLT, Int.reduceLE, Int.reduceNeg, d1, d2]) | ((with_reducible apply w_condTE); · simp only [shA, eff, Int.reduceEq, Int.reduceAdd, Int.reduceSub, Nat.reduceBEq, Nat.reduceEqDiff, reduceCtorEq, Nat.reduceAdd, Nat.reduceSub, Nat.reduceMul, Nat.reduceLeDiff, Int.reduceToNat, Int.reduceLT, Int.reduceLE, Int.reduceNeg, d1, d2]) | ((with_reducible apply w_condFE); · simp only [shA, eff, Int.reduceEq, Int.reduceAdd, Int.reduceSub, Nat.reduceBEq, Nat.reduceEqDiff, reduceCtorEq, Nat.reduceAdd, Nat.reduceSub, Nat.reduceMul, Nat.reduceLeDiff, Int.reduceToNat, Int.reduceLT, Int.reduceLE, Int.reduceNeg, d1, d2]) | (with_reducible apply q_then) | (with_reducible apply q_blockN) | (with_reducible apply q_blockR) | (with_reducible apply q_thenR) | (with_reducible apply q_thenX) | (with_reducible apply q_blockX) | ((with_reducible apply q_blockY); · rfl))
    simp [Post0, ansW, resT, SRes.get, ES.fs, ES.kill, has, drp, seqO, nbeq, lk, I, S, TV.ids3, TV.ids2, TV.ids1, TV.ids0, TV.ren3, TV.ren2, TV.ren1, TV.ren0, F_morainelaw03_ValText, hf]
  have d2 := decide_T (p := ((out.length : Int) < 17)) (by omega)
  have hd := str_drop l i
  have hs := stepN_le (l := l.drop i) (by simp; omega)
  rw [if_neg (by rw [List.drop_eq_nil_iff]; omega)] at hT
  have hm : max (signL (l.drop i) : Int) 1 = ((stepN (l.drop i) : Nat) : Int) := by unfold stepN; omega
  repeat (first | (with_reducible apply w_unr) | (with_reducible apply w_assoc) | (with_reducible apply w_skip) | (with_reducible apply w_ret) | (with_reducible apply w_retE) | (with_reducible apply w_skipE) | (with_reducible apply w_exit) | (with_reducible apply w_exitE) | (with_reducible apply w_block) | (with_reducible apply w_blockE) | ((with_reducible apply w_reg); · simp only [shA, eff, Int.reduceEq, Int.reduceAdd, Int.reduceSub, Nat.reduceBEq, Nat.reduceEqDiff, reduceCtorEq, Nat.reduceAdd, Nat.reduceSub, Nat.reduceMul, Nat.reduceLeDiff, Int.reduceToNat, Int.reduceLT, Int.reduceLE, Int.reduceNeg, d1, d2]; with_reducible rfl) | ((with_reducible apply w_regE); · simp only [shA, eff, Int.reduceEq, Int.reduceAdd, Int.reduceSub, Nat.reduceBEq, Nat.reduceEqDiff, reduceCtorEq, Nat.reduceAdd, Nat.reduceSub, Nat.reduceMul, Nat.reduceLeDiff, Int.reduceToNat, Int.reduceLT, Int.reduceLE, Int.reduceNeg, d1, d2]; with_reducible rfl) | ((with_reducible apply w_condT); · simp only [shA, eff, Int.reduceEq, Int.reduceAdd, Int.reduceSub, Nat.reduceBEq, Nat.reduceEqDiff, reduceCtorEq, Nat.reduceAdd, Nat.reduceSub, Nat.reduceMul, Nat.reduceLeDiff, Int.reduceToNat, Int.reduceLT, Int.reduceLE, Int.reduceNeg, d1, d2]) | ((with_reducible apply w_condF); · simp only [shA, eff, Int.reduceEq, Int.reduceAdd, Int.reduceSub, Nat.reduceBEq, Nat.reduceEqDiff, reduceCtorEq, Nat.reduceAdd, Nat.reduceSub, Nat.reduceMul, Nat.reduceLeDiff, Int.reduceToNat, Int.reduceLT, Int.reduceLE, Int.reduceNeg, d1, d2]) | ((with_reducible apply w_condTE); · simp only [shA, eff, Int.reduceEq, Int.reduceAdd, Int.reduceSub, Nat.reduceBEq, Nat.reduceEqDiff, reduceCtorEq, Nat.reduceAdd, Nat.reduceSub, Nat.reduceMul, Nat.reduceLeDiff, Int.reduceToNat, Int.reduceLT, Int.reduceLE, Int.reduceNeg, d1, d2]) | ((with_reducible apply w_condFE); · simp only [shA, eff, Int.reduceEq, Int.reduceAdd, Int.reduceSub, Nat.reduceBEq, Nat.reduceEqDiff, reduceCtorEq, Nat.reduceAdd, Nat.reduceSub, Nat.reduceMul, Nat.reduceLeDiff, Int.reduceToNat, Int.reduceLT, Int.reduceLE, Int.reduceNeg, d1, d2]) | (with_reducible apply q_then) | (with_reducible apply q_blockN) | (with_reducible apply q_blockR) | (with_reducible apply q_thenR) | (with_reducible apply q_thenX) | (with_reducible apply q_blockX) | ((with_reducible apply q_blockY); · rfl))
  (first | (with_reducible apply w_ops) | (with_reducible apply w_opsE))
  repeat ((with_reducible apply w_op); (· rfl); (· simp only [shA, eff, Int.reduceEq, Int.reduceAdd, Int.reduceSub, Nat.reduceBEq, Nat.reduceEqDiff, reduceCtorEq, Nat.reduceAdd, Nat.reduceSub, Nat.reduceMul, Nat.reduceLeDiff, Int.reduceToNat, Int.reduceLT, Int.reduceLE, Int.reduceNeg, hi, hd]; with_reducible rfl); (· simp only [shA, eff, Int.reduceEq, Int.reduceAdd, Int.reduceSub, Nat.reduceBEq, Nat.reduceEqDiff, reduceCtorEq, Nat.reduceAdd, Nat.reduceSub, Nat.reduceMul, Nat.reduceLeDiff, Int.reduceToNat, Int.reduceLT, Int.reduceLE, Int.reduceNeg, hi, hd]; with_reducible rfl))
  (with_reducible apply w_call); (· simp only [shA, eff, Int.reduceEq, Int.reduceAdd, Int.reduceSub, Nat.reduceBEq, Nat.reduceEqDiff, reduceCtorEq, Nat.reduceAdd, Nat.reduceSub, Nat.reduceMul, Nat.reduceLeDiff, Int.reduceToNat, Int.reduceLT, Int.reduceLE, Int.reduceNeg, hi, hd]; with_reducible rfl); (· simp only [shA, eff, Int.reduceEq, Int.reduceAdd, Int.reduceSub, Nat.reduceBEq, Nat.reduceEqDiff, reduceCtorEq, Nat.reduceAdd, Nat.reduceSub, Nat.reduceMul, Nat.reduceLeDiff, Int.reduceToNat, Int.reduceLT, Int.reduceLE, Int.reduceNeg, hi, hd]; with_reducible rfl); (· simp only [shA, eff, Int.reduceEq, Int.reduceAdd, Int.reduceSub, Nat.reduceBEq, Nat.reduceEqDiff, reduceCtorEq, Nat.reduceAdd, Nat.reduceSub, Nat.reduceMul, Nat.reduceLeDiff, Int.reduceToNat, Int.reduceLT, Int.reduceLE, Int.reduceNeg, hi, hd]; with_reducible rfl); (· simp only [shA, eff, Int.reduceEq, Int.reduceAdd, Int.reduceSub, Nat.reduceBEq, Nat.reduceEqDiff, reduceCtorEq, Nat.reduceAdd, Nat.reduceSub, Nat.reduceMul, Nat.reduceLeDiff, Int.reduceToNat, Int.reduceLT, Int.reduceLE, Int.reduceNeg, hi, hd]; with_reducible rfl); (· exact sign_ok g (l.drop i)); (· rfl); (· simp only [shA, eff, Int.reduceEq, Int.reduceAdd, Int.reduceSub, Nat.reduceBEq, Nat.reduceEqDiff, reduceCtorEq, Nat.reduceAdd, Nat.reduceSub, Nat.reduceMul, Nat.reduceLeDiff, Int.reduceToNat, Int.reduceLT, Int.reduceLE, Int.reduceNeg, hi, hd]; with_reducible rfl); (· simp only [shA, eff, Int.reduceEq, Int.reduceAdd, Int.reduceSub, Nat.reduceBEq, Nat.reduceEqDiff, reduceCtorEq, Nat.reduceAdd, Nat.reduceSub, Nat.reduceMul, Nat.reduceLeDiff, Int.reduceToNat, Int.reduceLT, Int.reduceLE, Int.reduceNeg, hi, hd]; with_reducible rfl); (· simp only [shA, eff, Int.reduceEq, Int.reduceAdd, Int.reduceSub, Nat.reduceBEq, Nat.reduceEqDiff, reduceCtorEq, Nat.reduceAdd, Nat.reduceSub, Nat.reduceMul, Nat.reduceLeDiff, Int.reduceToNat, Int.reduceLT, Int.reduceLE, Int.reduceNeg, hi, hd]; with_reducible rfl)
  repeat ((with_reducible apply w_op); (· rfl); (· simp only [shA, eff, Int.reduceEq, Int.reduceAdd, Int.reduceSub, Nat.reduceBEq, Nat.reduceEqDiff, reduceCtorEq, Nat.reduceAdd, Nat.reduceSub, Nat.reduceMul, Nat.reduceLeDiff, Int.reduceToNat, Int.reduceLT, Int.reduceLE, Int.reduceNeg, hm]; with_reducible rfl); (· simp only [shA, eff, Int.reduceEq, Int.reduceAdd, Int.reduceSub, Nat.reduceBEq, Nat.reduceEqDiff, reduceCtorEq, Nat.reduceAdd, Nat.reduceSub, Nat.reduceMul, Nat.reduceLeDiff, Int.reduceToNat, Int.reduceLT, Int.reduceLE, Int.reduceNeg, hm]; with_reducible rfl))
  apply w_done
  simp only [List.length_drop] at hs
  obtain ⟨n, hn⟩ : ∃ n, n = stepN (l.drop i) := ⟨_, rfl⟩
  rw [← hn] at hs hT ⊢
  have w1 : IntKind.i64.wrap ((i : Int) + (n : Int)) = ((i + n : Nat) : Int) := by rw [wrap64 (by omega) (by omega)]; omega
  have g1 : i ≤ i + n := by omega
  have g2 : i + n ≤ l.length := by omega
  have hx : (str l).extract i (i + n) = str ((l.drop i).take n) := by rw [str_extract]; congr 2; omega
  have hlen : ((l.drop i).take n).length = n := by simp; omega
  (first | (with_reducible apply w_ops) | (with_reducible apply w_opsE))
  repeat ((with_reducible apply w_op); (· rfl); (· simp only [shA, eff, Int.reduceEq, Int.reduceAdd, Int.reduceSub, Nat.reduceBEq, Nat.reduceEqDiff, reduceCtorEq, Nat.reduceAdd, Nat.reduceSub, Nat.reduceMul, Nat.reduceLeDiff, Int.reduceToNat, Int.reduceLT, Int.reduceLE, Int.reduceNeg, w1, g1, g2, hx]; with_reducible rfl); (· simp only [shA, eff, Int.reduceEq, Int.reduceAdd, Int.reduceSub, Nat.reduceBEq, Nat.reduceEqDiff, reduceCtorEq, Nat.reduceAdd, Nat.reduceSub, Nat.reduceMul, Nat.reduceLeDiff, Int.reduceToNat, Int.reduceLT, Int.reduceLE, Int.reduceNeg, w1, g1, g2, hx]; with_reducible rfl))
  (with_reducible apply w_call); (· simp only [shA, eff, Int.reduceEq, Int.reduceAdd, Int.reduceSub, Nat.reduceBEq, Nat.reduceEqDiff, reduceCtorEq, Nat.reduceAdd, Nat.reduceSub, Nat.reduceMul, Nat.reduceLeDiff, Int.reduceToNat, Int.reduceLT, Int.reduceLE, Int.reduceNeg, hi]; with_reducible rfl); (· simp only [shA, eff, Int.reduceEq, Int.reduceAdd, Int.reduceSub, Nat.reduceBEq, Nat.reduceEqDiff, reduceCtorEq, Nat.reduceAdd, Nat.reduceSub, Nat.reduceMul, Nat.reduceLeDiff, Int.reduceToNat, Int.reduceLT, Int.reduceLE, Int.reduceNeg, hi]; with_reducible rfl); (· simp only [shA, eff, Int.reduceEq, Int.reduceAdd, Int.reduceSub, Nat.reduceBEq, Nat.reduceEqDiff, reduceCtorEq, Nat.reduceAdd, Nat.reduceSub, Nat.reduceMul, Nat.reduceLeDiff, Int.reduceToNat, Int.reduceLT, Int.reduceLE, Int.reduceNeg, hi]; with_reducible rfl); (· simp only [shA, eff, Int.reduceEq, Int.reduceAdd, Int.reduceSub, Nat.reduceBEq, Nat.reduceEqDiff, reduceCtorEq, Nat.reduceAdd, Nat.reduceSub, Nat.reduceMul, Nat.reduceLeDiff, Int.reduceToNat, Int.reduceLT, Int.reduceLE, Int.reduceNeg, hi]; with_reducible rfl); (· exact isText_ok g ((l.drop i).take n) (by omega)); (· rfl); (· simp only [shA, eff, Int.reduceEq, Int.reduceAdd, Int.reduceSub, Nat.reduceBEq, Nat.reduceEqDiff, reduceCtorEq, Nat.reduceAdd, Nat.reduceSub, Nat.reduceMul, Nat.reduceLeDiff, Int.reduceToNat, Int.reduceLT, Int.reduceLE, Int.reduceNeg, hi]; with_reducible rfl); (· simp only [shA, eff, Int.reduceEq, Int.reduceAdd, Int.reduceSub, Nat.reduceBEq, Nat.reduceEqDiff, reduceCtorEq, Nat.reduceAdd, Nat.reduceSub, Nat.reduceMul, Nat.reduceLeDiff, Int.reduceToNat, Int.reduceLT, Int.reduceLE, Int.reduceNeg, hi]; with_reducible rfl); (· simp only [shA, eff, Int.reduceEq, Int.reduceAdd, Int.reduceSub, Nat.reduceBEq, Nat.reduceEqDiff, reduceCtorEq, Nat.reduceAdd, Nat.reduceSub, Nat.reduceMul, Nat.reduceLeDiff, Int.reduceToNat, Int.reduceLT, Int.reduceLE, Int.reduceNeg, hi]; with_reducible rfl)
  repeat ((with_reducible apply w_op); (· rfl); (· simp only [shA, eff, Int.reduceEq, Int.reduceAdd, Int.reduceSub, Nat.reduceBEq, Nat.reduceEqDiff, reduceCtorEq, Nat.reduceAdd, Nat.reduceSub, Nat.reduceMul, Nat.reduceLeDiff, Int.reduceToNat, Int.reduceLT, Int.reduceLE, Int.reduceNeg]; with_reducible rfl); (· simp only [shA, eff, Int.reduceEq, Int.reduceAdd, Int.reduceSub, Nat.reduceBEq, Nat.reduceEqDiff, reduceCtorEq, Nat.reduceAdd, Nat.reduceSub, Nat.reduceMul, Nat.reduceLeDiff, Int.reduceToNat, Int.reduceLT, Int.reduceLE, Int.reduceNeg]; with_reducible rfl))
  apply w_done
  by_cases hok : isText ((l.drop i).take n) = true
  · have hadd := fun t => sbin_add Tryz.prog t (str out) (str ((l.drop i).take n)) (by simp only [str_size']; omega)
    have happ := str_append out ((l.drop i).take n)
    rw [if_pos hok, List.drop_drop] at hT
    repeat (first | (with_reducible apply w_unr) | (with_reducible apply w_assoc) | (with_reducible apply w_skip) | (with_reducible apply w_ret) | (with_reducible apply w_retE) | (with_reducible apply w_skipE) | (with_reducible apply w_exit) | (with_reducible apply w_exitE) | (with_reducible apply w_block) | (with_reducible apply w_blockE) | ((with_reducible apply w_reg); · simp only [shA, eff, Int.reduceEq, Int.reduceAdd, Int.reduceSub, Nat.reduceBEq, Nat.reduceEqDiff, reduceCtorEq, Nat.reduceAdd, Nat.reduceSub, Nat.reduceMul, Nat.reduceLeDiff, Int.reduceToNat, Int.reduceLT, Int.reduceLE, Int.reduceNeg, hok, w1, g1, g2, hx, hadd, happ]; with_reducible rfl) | ((with_reducible apply w_regE); · simp only [shA, eff, Int.reduceEq, Int.reduceAdd, Int.reduceSub, Nat.reduceBEq, Nat.reduceEqDiff, reduceCtorEq, Nat.reduceAdd, Nat.reduceSub, Nat.reduceMul, Nat.reduceLeDiff, Int.reduceToNat, Int.reduceLT, Int.reduceLE, Int.reduceNeg, hok, w1, g1, g2, hx, hadd, happ]; with_reducible rfl) | ((with_reducible apply w_condT); · simp only [shA, eff, Int.reduceEq, Int.reduceAdd, Int.reduceSub, Nat.reduceBEq, Nat.reduceEqDiff, reduceCtorEq, Nat.reduceAdd, Nat.reduceSub, Nat.reduceMul, Nat.reduceLeDiff, Int.reduceToNat, Int.reduceLT, Int.reduceLE, Int.reduceNeg, hok, w1, g1, g2, hx, hadd, happ]) | ((with_reducible apply w_condF); · simp only [shA, eff, Int.reduceEq, Int.reduceAdd, Int.reduceSub, Nat.reduceBEq, Nat.reduceEqDiff, reduceCtorEq, Nat.reduceAdd, Nat.reduceSub, Nat.reduceMul, Nat.reduceLeDiff, Int.reduceToNat, Int.reduceLT, Int.reduceLE, Int.reduceNeg, hok, w1, g1, g2, hx, hadd, happ]) | ((with_reducible apply w_condTE); · simp only [shA, eff, Int.reduceEq, Int.reduceAdd, Int.reduceSub, Nat.reduceBEq, Nat.reduceEqDiff, reduceCtorEq, Nat.reduceAdd, Nat.reduceSub, Nat.reduceMul, Nat.reduceLeDiff, Int.reduceToNat, Int.reduceLT, Int.reduceLE, Int.reduceNeg, hok, w1, g1, g2, hx, hadd, happ]) | ((with_reducible apply w_condFE); · simp only [shA, eff, Int.reduceEq, Int.reduceAdd, Int.reduceSub, Nat.reduceBEq, Nat.reduceEqDiff, reduceCtorEq, Nat.reduceAdd, Nat.reduceSub, Nat.reduceMul, Nat.reduceLeDiff, Int.reduceToNat, Int.reduceLT, Int.reduceLE, Int.reduceNeg, hok, w1, g1, g2, hx, hadd, happ]) | (with_reducible apply q_then) | (with_reducible apply q_blockN) | (with_reducible apply q_blockR) | (with_reducible apply q_thenR) | (with_reducible apply q_thenX) | (with_reducible apply q_blockX) | ((with_reducible apply q_blockY); · rfl))
    refine ⟨⟨(i + n, out ++ (l.drop i).take n), by omega, by simp; omega, hT⟩, by show l.length - (i + n) < l.length - i; omega, ?_⟩
    apply le_of <;> simp [leL, lk, Nat.beq, I, S]
  · have hok' : isText ((l.drop i).take n) = false := by simpa using hok
    rw [if_neg hok, List.drop_drop] at hT
    repeat (first | (with_reducible apply w_unr) | (with_reducible apply w_assoc) | (with_reducible apply w_skip) | (with_reducible apply w_ret) | (with_reducible apply w_retE) | (with_reducible apply w_skipE) | (with_reducible apply w_exit) | (with_reducible apply w_exitE) | (with_reducible apply w_block) | (with_reducible apply w_blockE) | ((with_reducible apply w_reg); · simp only [shA, eff, Int.reduceEq, Int.reduceAdd, Int.reduceSub, Nat.reduceBEq, Nat.reduceEqDiff, reduceCtorEq, Nat.reduceAdd, Nat.reduceSub, Nat.reduceMul, Nat.reduceLeDiff, Int.reduceToNat, Int.reduceLT, Int.reduceLE, Int.reduceNeg, hok', w1]; with_reducible rfl) | ((with_reducible apply w_regE); · simp only [shA, eff, Int.reduceEq, Int.reduceAdd, Int.reduceSub, Nat.reduceBEq, Nat.reduceEqDiff, reduceCtorEq, Nat.reduceAdd, Nat.reduceSub, Nat.reduceMul, Nat.reduceLeDiff, Int.reduceToNat, Int.reduceLT, Int.reduceLE, Int.reduceNeg, hok', w1]; with_reducible rfl) | ((with_reducible apply w_condT); · simp only [shA, eff, Int.reduceEq, Int.reduceAdd, Int.reduceSub, Nat.reduceBEq, Nat.reduceEqDiff, reduceCtorEq, Nat.reduceAdd, Nat.reduceSub, Nat.reduceMul, Nat.reduceLeDiff, Int.reduceToNat, Int.reduceLT, Int.reduceLE, Int.reduceNeg, hok', w1]) | ((with_reducible apply w_condF); · simp only [shA, eff, Int.reduceEq, Int.reduceAdd, Int.reduceSub, Nat.reduceBEq, Nat.reduceEqDiff, reduceCtorEq, Nat.reduceAdd, Nat.reduceSub, Nat.reduceMul, Nat.reduceLeDiff, Int.reduceToNat, Int.reduceLT, Int.reduceLE, Int.reduceNeg, hok', w1]) | ((with_reducible apply w_condTE); · simp only [shA, eff, Int.reduceEq, Int.reduceAdd, Int.reduceSub, Nat.reduceBEq, Nat.reduceEqDiff, reduceCtorEq, Nat.reduceAdd, Nat.reduceSub, Nat.reduceMul, Nat.reduceLeDiff, Int.reduceToNat, Int.reduceLT, Int.reduceLE, Int.reduceNeg, hok', w1]) | ((with_reducible apply w_condFE); · simp only [shA, eff, Int.reduceEq, Int.reduceAdd, Int.reduceSub, Nat.reduceBEq, Nat.reduceEqDiff, reduceCtorEq, Nat.reduceAdd, Nat.reduceSub, Nat.reduceMul, Nat.reduceLeDiff, Int.reduceToNat, Int.reduceLT, Int.reduceLE, Int.reduceNeg, hok', w1]) | (with_reducible apply q_then) | (with_reducible apply q_blockN) | (with_reducible apply q_blockR) | (with_reducible apply q_thenR) | (with_reducible apply q_thenX) | (with_reducible apply q_blockX) | ((with_reducible apply q_blockY); · rfl))
    refine ⟨⟨(i + n, out), by omega, ho, hT⟩, by show l.length - (i + n) < l.length - i; omega, ?_⟩
    apply le_of <;> simp [leL, lk, Nat.beq, I, S]
end Go.Proofs.YthjphllpkcnehaaGreatDoor
end

section
/- The statements' ValType, ValOne, fit. No statement of the program is proved here. -/
namespace Go.Proofs.YthjphllpkcnehaaGreatDoor
open Go Go.RowKit Go.Mor Go.Sh Go.Sh.Cd1
set_option maxRecDepth 100000
set_option maxHeartbeats 8000000
theorem pickI_lt {c n : Int} (hn : 0 < n) (hc : I64 c) : 0 ≤ pickI c n ∧ pickI c n < n := by
  unfold pickI
  obtain ⟨h0, h1⟩ := hc
  split
  · exact ⟨Int.tmod_nonneg n (by omega), Int.tmod_lt_of_pos _ hn⟩
  · exact ⟨Int.tmod_nonneg n (by omega), Int.tmod_lt_of_pos _ hn⟩
theorem pickI_ok (g : Sh.Glob) (c n : Int) (hc : I64 c) (hn : n ≠ 0) : SCalls Tryz.prog g 52 [I c, I n] [] (I (pickI c n)) [] := pick_ok g c n hc.1 hc.2 hn

/-- A type as a value. -/
def valType (a b : Int) : Ty := if 1 + pickI a 6 < 5 then ⟨1 + pickI a 6, 0⟩ else ⟨5, 1 + pickI b 4⟩
theorem valType_ok (g : Sh.Glob) (a b : Int) (ha : I64 a) (hb : I64 b) : SCalls Tryz.prog g 35 [I a, I b] [] (tyT (valType a b)) [] := by
  refine call_of0 hmix tf_morainelaw03_ValType rfl ?_
  have h6 := pickI_lt (n := 6) (by decide) ha
  have h4 := pickI_lt (n := 4) (by decide) hb
  have w1 : IntKind.i64.wrap (1 + pickI a 6) = 1 + pickI a 6 := wrap64 (by omega) (by omega)
  have w2 : IntKind.i64.wrap (1 + pickI b 4) = 1 + pickI b 4 := wrap64 (by omega) (by omega)
  unfold valType
  simp only [vcA, Nat.reduceLT, Int.reduceEq, Int.reduceAdd, Int.reduceSub, Nat.reduceBEq, Nat.reduceEqDiff, reduceCtorEq, Nat.reduceAdd, Nat.reduceSub, Nat.reduceMul, Nat.reduceLeDiff, Int.reduceToNat, Int.reduceLT, Int.reduceLE, Int.reduceNeg, reduceIte, I, S]
  (with_reducible apply v_call); (· simp only [vcA, Nat.reduceLT, Int.reduceEq, Int.reduceAdd, Int.reduceSub, Nat.reduceBEq, Nat.reduceEqDiff, reduceCtorEq, Nat.reduceAdd, Nat.reduceSub, Nat.reduceMul, Nat.reduceLeDiff, Int.reduceToNat, Int.reduceLT, Int.reduceLE, Int.reduceNeg, reduceIte, I, S]; with_reducible rfl); (· exact pickI_ok g a 6 ha (by decide)); (· first | rfl | (simp only [moOk, nbeq, nble, List.length_nil, beq_self_eq_true, Bool.true_and, Bool.and_true, Bool.and_eq_true, decide_eq_true_eq]; omega)); (· simp only [vcA, Nat.reduceLT, Int.reduceEq, Int.reduceAdd, Int.reduceSub, Nat.reduceBEq, Nat.reduceEqDiff, reduceCtorEq, Nat.reduceAdd, Nat.reduceSub, Nat.reduceMul, Nat.reduceLeDiff, Int.reduceToNat, Int.reduceLT, Int.reduceLE, Int.reduceNeg, reduceIte, I, S]; with_reducible rfl)
  simp only [vcA, Nat.reduceLT, Int.reduceEq, Int.reduceAdd, Int.reduceSub, Nat.reduceBEq, Nat.reduceEqDiff, reduceCtorEq, Nat.reduceAdd, Nat.reduceSub, Nat.reduceMul, Nat.reduceLeDiff, Int.reduceToNat, Int.reduceLT, Int.reduceLE, Int.reduceNeg, reduceIte, I, S, w1]
  refine ⟨fun h => by rw [if_pos h]; rfl, fun h => ?_⟩
  rw [if_neg h]
  (with_reducible apply v_call); (· simp only [vcA, Nat.reduceLT, Int.reduceEq, Int.reduceAdd, Int.reduceSub, Nat.reduceBEq, Nat.reduceEqDiff, reduceCtorEq, Nat.reduceAdd, Nat.reduceSub, Nat.reduceMul, Nat.reduceLeDiff, Int.reduceToNat, Int.reduceLT, Int.reduceLE, Int.reduceNeg, reduceIte, I, S]; with_reducible rfl); (· exact pickI_ok g b 4 hb (by decide)); (· first | rfl | (simp only [moOk, nbeq, nble, List.length_nil, beq_self_eq_true, Bool.true_and, Bool.and_true, Bool.and_eq_true, decide_eq_true_eq]; omega)); (· simp only [vcA, Nat.reduceLT, Int.reduceEq, Int.reduceAdd, Int.reduceSub, Nat.reduceBEq, Nat.reduceEqDiff, reduceCtorEq, Nat.reduceAdd, Nat.reduceSub, Nat.reduceMul, Nat.reduceLeDiff, Int.reduceToNat, Int.reduceLT, Int.reduceLE, Int.reduceNeg, reduceIte, I, S]; with_reducible rfl)
  simp only [vcA, Nat.reduceLT, Int.reduceEq, Int.reduceAdd, Int.reduceSub, Nat.reduceBEq, Nat.reduceEqDiff, reduceCtorEq, Nat.reduceAdd, Nat.reduceSub, Nat.reduceMul, Nat.reduceLeDiff, Int.reduceToNat, Int.reduceLT, Int.reduceLE, Int.reduceNeg, reduceIte, I, S, w2]
  rfl
/-- A value without a list, as a value. -/
def valOne (k n : Int) (s : List UInt8) : V :=
  if k = 1 then .mk 1 (if n < -1000000000000000 ∨ 1000000000000000 < n then pickI n 1000000000000001 else n) [] []
  else if k = 2 then .mk 2 0 (valText s) []
  else if k = 3 ∨ k = 4 then .mk k (1 + pickI n 100000) [] [] else V.nil
theorem valOne_ok (g : Sh.Glob) (k j n : Int) (s : List UInt8) (hn : I64 n) (hs : s.length ≤ 9223372036854775807) : SCalls Tryz.prog g 53 [I k, .agg [I j, I n, S (str s)]] [] (nv (valOne k n s)) [] := by
  refine call_of0 hmix tf_morainelaw03_ValOne rfl ?_
  have hp := pickI_lt (n := 100000) (by decide) hn
  have w1 : IntKind.i64.wrap (1 + pickI n 100000) = 1 + pickI n 100000 := wrap64 (by omega) (by omega)
  unfold valOne
  by_cases k1 : k = 1
  · subst k1
    rw [if_pos rfl]
    simp only [vcA, Nat.reduceLT, Int.reduceEq, Int.reduceAdd, Int.reduceSub, Nat.reduceBEq, Nat.reduceEqDiff, reduceCtorEq, Nat.reduceAdd, Nat.reduceSub, Nat.reduceMul, Nat.reduceLeDiff, Int.reduceToNat, Int.reduceLT, Int.reduceLE, Int.reduceNeg, reduceIte, I, S]
    refine ⟨fun h => ?_, fun h => ⟨fun h' => ?_, fun h' => ?_⟩⟩
    · rw [if_pos (.inl h)]
      (with_reducible apply v_call); (· simp only [vcA, Nat.reduceLT, Int.reduceEq, Int.reduceAdd, Int.reduceSub, Nat.reduceBEq, Nat.reduceEqDiff, reduceCtorEq, Nat.reduceAdd, Nat.reduceSub, Nat.reduceMul, Nat.reduceLeDiff, Int.reduceToNat, Int.reduceLT, Int.reduceLE, Int.reduceNeg, reduceIte, I, S]; with_reducible rfl); (· exact pickI_ok g n 1000000000000001 hn (by decide)); (· first | rfl | (simp only [moOk, nbeq, nble, List.length_nil, beq_self_eq_true, Bool.true_and, Bool.and_true, Bool.and_eq_true, decide_eq_true_eq]; omega)); (· simp only [vcA, Nat.reduceLT, Int.reduceEq, Int.reduceAdd, Int.reduceSub, Nat.reduceBEq, Nat.reduceEqDiff, reduceCtorEq, Nat.reduceAdd, Nat.reduceSub, Nat.reduceMul, Nat.reduceLeDiff, Int.reduceToNat, Int.reduceLT, Int.reduceLE, Int.reduceNeg, reduceIte, I, S]; with_reducible rfl)
      simp only [vcA, Nat.reduceLT, Int.reduceEq, Int.reduceAdd, Int.reduceSub, Nat.reduceBEq, Nat.reduceEqDiff, reduceCtorEq, Nat.reduceAdd, Nat.reduceSub, Nat.reduceMul, Nat.reduceLeDiff, Int.reduceToNat, Int.reduceLT, Int.reduceLE, Int.reduceNeg, reduceIte, I, S]
      rfl
    · rw [if_pos (.inr h')]
      (with_reducible apply v_call); (· simp only [vcA, Nat.reduceLT, Int.reduceEq, Int.reduceAdd, Int.reduceSub, Nat.reduceBEq, Nat.reduceEqDiff, reduceCtorEq, Nat.reduceAdd, Nat.reduceSub, Nat.reduceMul, Nat.reduceLeDiff, Int.reduceToNat, Int.reduceLT, Int.reduceLE, Int.reduceNeg, reduceIte, I, S]; with_reducible rfl); (· exact pickI_ok g n 1000000000000001 hn (by decide)); (· first | rfl | (simp only [moOk, nbeq, nble, List.length_nil, beq_self_eq_true, Bool.true_and, Bool.and_true, Bool.and_eq_true, decide_eq_true_eq]; omega)); (· simp only [vcA, Nat.reduceLT, Int.reduceEq, Int.reduceAdd, Int.reduceSub, Nat.reduceBEq, Nat.reduceEqDiff, reduceCtorEq, Nat.reduceAdd, Nat.reduceSub, Nat.reduceMul, Nat.reduceLeDiff, Int.reduceToNat, Int.reduceLT, Int.reduceLE, Int.reduceNeg, reduceIte, I, S]; with_reducible rfl)
      simp only [vcA, Nat.reduceLT, Int.reduceEq, Int.reduceAdd, Int.reduceSub, Nat.reduceBEq, Nat.reduceEqDiff, reduceCtorEq, Nat.reduceAdd, Nat.reduceSub, Nat.reduceMul, Nat.reduceLeDiff, Int.reduceToNat, Int.reduceLT, Int.reduceLE, Int.reduceNeg, reduceIte, I, S]
      rfl
    · rw [if_neg (by omega)]; rfl
  rw [if_neg k1]
  by_cases k2 : k = 2
  · subst k2
    rw [if_pos rfl]
    simp only [vcA, Nat.reduceLT, Int.reduceEq, Int.reduceAdd, Int.reduceSub, Nat.reduceBEq, Nat.reduceEqDiff, reduceCtorEq, Nat.reduceAdd, Nat.reduceSub, Nat.reduceMul, Nat.reduceLeDiff, Int.reduceToNat, Int.reduceLT, Int.reduceLE, Int.reduceNeg, reduceIte, I, S]
    (with_reducible apply v_call); (· simp only [vcA, Nat.reduceLT, Int.reduceEq, Int.reduceAdd, Int.reduceSub, Nat.reduceBEq, Nat.reduceEqDiff, reduceCtorEq, Nat.reduceAdd, Nat.reduceSub, Nat.reduceMul, Nat.reduceLeDiff, Int.reduceToNat, Int.reduceLT, Int.reduceLE, Int.reduceNeg, reduceIte, I, S]; with_reducible rfl); (· exact valText_ok g s hs); (· first | rfl | (simp only [moOk, nbeq, nble, List.length_nil, beq_self_eq_true, Bool.true_and, Bool.and_true, Bool.and_eq_true, decide_eq_true_eq]; omega)); (· simp only [vcA, Nat.reduceLT, Int.reduceEq, Int.reduceAdd, Int.reduceSub, Nat.reduceBEq, Nat.reduceEqDiff, reduceCtorEq, Nat.reduceAdd, Nat.reduceSub, Nat.reduceMul, Nat.reduceLeDiff, Int.reduceToNat, Int.reduceLT, Int.reduceLE, Int.reduceNeg, reduceIte, I, S]; with_reducible rfl)
    simp only [vcA, Nat.reduceLT, Int.reduceEq, Int.reduceAdd, Int.reduceSub, Nat.reduceBEq, Nat.reduceEqDiff, reduceCtorEq, Nat.reduceAdd, Nat.reduceSub, Nat.reduceMul, Nat.reduceLeDiff, Int.reduceToNat, Int.reduceLT, Int.reduceLE, Int.reduceNeg, reduceIte, I, S]
    rfl
  rw [if_neg k2]
  by_cases k3 : k = 3 ∨ k = 4
  · rw [if_pos k3]
    rcases k3 with rfl | rfl
    · simp only [vcA, Nat.reduceLT, Int.reduceEq, Int.reduceAdd, Int.reduceSub, Nat.reduceBEq, Nat.reduceEqDiff, reduceCtorEq, Nat.reduceAdd, Nat.reduceSub, Nat.reduceMul, Nat.reduceLeDiff, Int.reduceToNat, Int.reduceLT, Int.reduceLE, Int.reduceNeg, reduceIte, I, S]
      (with_reducible apply v_call); (· simp only [vcA, Nat.reduceLT, Int.reduceEq, Int.reduceAdd, Int.reduceSub, Nat.reduceBEq, Nat.reduceEqDiff, reduceCtorEq, Nat.reduceAdd, Nat.reduceSub, Nat.reduceMul, Nat.reduceLeDiff, Int.reduceToNat, Int.reduceLT, Int.reduceLE, Int.reduceNeg, reduceIte, I, S]; with_reducible rfl); (· exact pickI_ok g n 100000 hn (by decide)); (· first | rfl | (simp only [moOk, nbeq, nble, List.length_nil, beq_self_eq_true, Bool.true_and, Bool.and_true, Bool.and_eq_true, decide_eq_true_eq]; omega)); (· simp only [vcA, Nat.reduceLT, Int.reduceEq, Int.reduceAdd, Int.reduceSub, Nat.reduceBEq, Nat.reduceEqDiff, reduceCtorEq, Nat.reduceAdd, Nat.reduceSub, Nat.reduceMul, Nat.reduceLeDiff, Int.reduceToNat, Int.reduceLT, Int.reduceLE, Int.reduceNeg, reduceIte, I, S]; with_reducible rfl)
      simp only [vcA, Nat.reduceLT, Int.reduceEq, Int.reduceAdd, Int.reduceSub, Nat.reduceBEq, Nat.reduceEqDiff, reduceCtorEq, Nat.reduceAdd, Nat.reduceSub, Nat.reduceMul, Nat.reduceLeDiff, Int.reduceToNat, Int.reduceLT, Int.reduceLE, Int.reduceNeg, reduceIte, I, S, w1]
      rfl
    · simp only [vcA, Nat.reduceLT, Int.reduceEq, Int.reduceAdd, Int.reduceSub, Nat.reduceBEq, Nat.reduceEqDiff, reduceCtorEq, Nat.reduceAdd, Nat.reduceSub, Nat.reduceMul, Nat.reduceLeDiff, Int.reduceToNat, Int.reduceLT, Int.reduceLE, Int.reduceNeg, reduceIte, I, S]
      (with_reducible apply v_call); (· simp only [vcA, Nat.reduceLT, Int.reduceEq, Int.reduceAdd, Int.reduceSub, Nat.reduceBEq, Nat.reduceEqDiff, reduceCtorEq, Nat.reduceAdd, Nat.reduceSub, Nat.reduceMul, Nat.reduceLeDiff, Int.reduceToNat, Int.reduceLT, Int.reduceLE, Int.reduceNeg, reduceIte, I, S]; with_reducible rfl); (· exact pickI_ok g n 100000 hn (by decide)); (· first | rfl | (simp only [moOk, nbeq, nble, List.length_nil, beq_self_eq_true, Bool.true_and, Bool.and_true, Bool.and_eq_true, decide_eq_true_eq]; omega)); (· simp only [vcA, Nat.reduceLT, Int.reduceEq, Int.reduceAdd, Int.reduceSub, Nat.reduceBEq, Nat.reduceEqDiff, reduceCtorEq, Nat.reduceAdd, Nat.reduceSub, Nat.reduceMul, Nat.reduceLeDiff, Int.reduceToNat, Int.reduceLT, Int.reduceLE, Int.reduceNeg, reduceIte, I, S]; with_reducible rfl)
      simp only [vcA, Nat.reduceLT, Int.reduceEq, Int.reduceAdd, Int.reduceSub, Nat.reduceBEq, Nat.reduceEqDiff, reduceCtorEq, Nat.reduceAdd, Nat.reduceSub, Nat.reduceMul, Nat.reduceLeDiff, Int.reduceToNat, Int.reduceLT, Int.reduceLE, Int.reduceNeg, reduceIte, I, S, w1]
      rfl
  · rw [if_neg k3]
    have k3' : ¬ k = 3 := fun h => k3 (.inl h)
    have k4' : ¬ k = 4 := fun h => k3 (.inr h)
    simp only [vcA, Nat.reduceLT, Int.reduceEq, Int.reduceAdd, Int.reduceSub, Nat.reduceBEq, Nat.reduceEqDiff, reduceCtorEq, Nat.reduceAdd, Nat.reduceSub, Nat.reduceMul, Nat.reduceLeDiff, Int.reduceToNat, Int.reduceLT, Int.reduceLE, Int.reduceNeg, reduceIte, I, S, k1, k2, k3', k4']
    rfl
theorem valOne_l (k n : Int) (s : List UInt8) : (valOne k n s).l = [] := by unfold valOne; (repeat' split) <;> rfl
end Go.Proofs.YthjphllpkcnehaaGreatDoor
end

section
/- The statements' ValOf. No statement of the program is proved here. -/
namespace Go.Proofs.YthjphllpkcnehaaGreatDoor
open Go Go.RowKit Go.Mor Go.Sh Go.Sh.Cd1
set_option maxRecDepth 100000
set_option maxHeartbeats 8000000
def oneL (l : List R1) : List V := (l.take 12).map fun r => valOne (pickI r.k 5) r.n r.s
def valOf (x : RawV) : V :=
  if pickI x.k 7 < 5 then
    if 3 ≤ (valOne (pickI x.k 7) x.n x.s).k ∧ pickI (x.k.tdiv 7) 4 = 0 then .mk (valOne (pickI x.k 7) x.n x.s).k (-1 - pickI x.n 20) (valOne (pickI x.k 7) x.n x.s).s [] else valOne (pickI x.k 7) x.n x.s
  else .mk 5 0 [] (oneL x.l)
theorem tdiv64 {c : Int} (h : I64 c) : I64 (c.tdiv 7) := by
  have h1 := Int.natAbs_tdiv c 7
  have h2 : c.natAbs / 7 ≤ c.natAbs := Nat.div_le_self _ _
  have h3 : (c.tdiv 7).natAbs ≤ c.natAbs / 7 := by rw [h1]; exact Nat.le_refl _
  unfold I64 at *
  omega
theorem valOf_small (g : Sh.Glob) (x : RawV) (hx : x.ok) (hk5 : pickI x.k 7 < 5) : SCalls Tryz.prog g 16 [x.tv] [] (nv (valOf x)) [] := by
  refine call_of0 hmix tf_morainelaw03_ValOf rfl ?_
  obtain ⟨hk, hn, hs, hl, hlen⟩ := hx
  have hV := valOne_ok g (pickI x.k 7) 0 x.n x.s hn hs
  unfold valOf RawV.tv
  rw [if_pos hk5]
  have d5 := decide_T hk5
  have hP := pickI_ok g x.k 7 hk (by decide)
  generalize pickI x.k 7 = k at hV hk5 d5 hP ⊢
  obtain ⟨v, hv⟩ : ∃ v, v = valOne k x.n x.s := ⟨_, rfl⟩
  have hvl : v.l = [] := by rw [hv]; exact valOne_l _ _ _
  rw [← hv] at hV ⊢
  unfold nv at hV
  have ht := tdiv64 hk
  have wq : IntKind.i64.wrap (x.k.tdiv 7) = x.k.tdiv 7 := wrap64 ht.1 ht.2
  have hp20 := pickI_lt (n := 20) (by decide) hn
  have w20 : IntKind.i64.wrap (-1 - pickI x.n 20) = -1 - pickI x.n 20 := wrap64 (by omega) (by omega)
  simp only [vcA, Nat.reduceLT, Int.reduceEq, Int.reduceAdd, Int.reduceSub, Nat.reduceBEq, Nat.reduceEqDiff, reduceCtorEq, Nat.reduceAdd, Nat.reduceSub, Nat.reduceMul, Nat.reduceLeDiff, Int.reduceToNat, Int.reduceLT, Int.reduceLE, Int.reduceNeg, reduceIte, I, S]
  (with_reducible apply v_call); (· simp only [vcA, Nat.reduceLT, Int.reduceEq, Int.reduceAdd, Int.reduceSub, Nat.reduceBEq, Nat.reduceEqDiff, reduceCtorEq, Nat.reduceAdd, Nat.reduceSub, Nat.reduceMul, Nat.reduceLeDiff, Int.reduceToNat, Int.reduceLT, Int.reduceLE, Int.reduceNeg, reduceIte, I, S]; with_reducible rfl); (· exact hP); (· first | rfl | (simp only [moOk, nbeq, nble, List.length_nil, beq_self_eq_true, Bool.true_and, Bool.and_true, Bool.and_eq_true, decide_eq_true_eq]; omega)); (· simp only [vcA, Nat.reduceLT, Int.reduceEq, Int.reduceAdd, Int.reduceSub, Nat.reduceBEq, Nat.reduceEqDiff, reduceCtorEq, Nat.reduceAdd, Nat.reduceSub, Nat.reduceMul, Nat.reduceLeDiff, Int.reduceToNat, Int.reduceLT, Int.reduceLE, Int.reduceNeg, reduceIte, I, S]; with_reducible rfl)
  simp only [vcA, Nat.reduceLT, Int.reduceEq, Int.reduceAdd, Int.reduceSub, Nat.reduceBEq, Nat.reduceEqDiff, reduceCtorEq, Nat.reduceAdd, Nat.reduceSub, Nat.reduceMul, Nat.reduceLeDiff, Int.reduceToNat, Int.reduceLT, Int.reduceLE, Int.reduceNeg, reduceIte, I, S, hk5]
  (with_reducible apply v_call); (· simp only [vcA, Nat.reduceLT, Int.reduceEq, Int.reduceAdd, Int.reduceSub, Nat.reduceBEq, Nat.reduceEqDiff, reduceCtorEq, Nat.reduceAdd, Nat.reduceSub, Nat.reduceMul, Nat.reduceLeDiff, Int.reduceToNat, Int.reduceLT, Int.reduceLE, Int.reduceNeg, reduceIte, I, S]; with_reducible rfl); (· exact hV); (· first | rfl | (simp only [moOk, nbeq, nble, List.length_nil, beq_self_eq_true, Bool.true_and, Bool.and_true, Bool.and_eq_true, decide_eq_true_eq]; omega)); (· simp only [vcA, Nat.reduceLT, Int.reduceEq, Int.reduceAdd, Int.reduceSub, Nat.reduceBEq, Nat.reduceEqDiff, reduceCtorEq, Nat.reduceAdd, Nat.reduceSub, Nat.reduceMul, Nat.reduceLeDiff, Int.reduceToNat, Int.reduceLT, Int.reduceLE, Int.reduceNeg, reduceIte, I, S]; with_reducible rfl)
  simp only [vcA, Nat.reduceLT, Int.reduceEq, Int.reduceAdd, Int.reduceSub, Nat.reduceBEq, Nat.reduceEqDiff, reduceCtorEq, Nat.reduceAdd, Nat.reduceSub, Nat.reduceMul, Nat.reduceLeDiff, Int.reduceToNat, Int.reduceLT, Int.reduceLE, Int.reduceNeg, reduceIte, I, S, wq]
  refine ⟨fun h3 => ?_, fun h3 => by rw [if_neg (fun h => h3 h.1)]; rfl⟩
  (with_reducible apply v_call); (· simp only [vcA, Nat.reduceLT, Int.reduceEq, Int.reduceAdd, Int.reduceSub, Nat.reduceBEq, Nat.reduceEqDiff, reduceCtorEq, Nat.reduceAdd, Nat.reduceSub, Nat.reduceMul, Nat.reduceLeDiff, Int.reduceToNat, Int.reduceLT, Int.reduceLE, Int.reduceNeg, reduceIte, I, S]; with_reducible rfl); (· exact pickI_ok g (x.k.tdiv 7) 4 ht (by decide)); (· first | rfl | (simp only [moOk, nbeq, nble, List.length_nil, beq_self_eq_true, Bool.true_and, Bool.and_true, Bool.and_eq_true, decide_eq_true_eq]; omega)); (· simp only [vcA, Nat.reduceLT, Int.reduceEq, Int.reduceAdd, Int.reduceSub, Nat.reduceBEq, Nat.reduceEqDiff, reduceCtorEq, Nat.reduceAdd, Nat.reduceSub, Nat.reduceMul, Nat.reduceLeDiff, Int.reduceToNat, Int.reduceLT, Int.reduceLE, Int.reduceNeg, reduceIte, I, S]; with_reducible rfl)
  simp only [vcA, Nat.reduceLT, Int.reduceEq, Int.reduceAdd, Int.reduceSub, Nat.reduceBEq, Nat.reduceEqDiff, reduceCtorEq, Nat.reduceAdd, Nat.reduceSub, Nat.reduceMul, Nat.reduceLeDiff, Int.reduceToNat, Int.reduceLT, Int.reduceLE, Int.reduceNeg, reduceIte, I, S]
  refine ⟨fun hz => ?_, fun hz => by rw [if_neg (fun h => hz h.2)]; rfl⟩
  rw [if_pos ⟨h3, hz⟩]
  (with_reducible apply v_call); (· simp only [vcA, Nat.reduceLT, Int.reduceEq, Int.reduceAdd, Int.reduceSub, Nat.reduceBEq, Nat.reduceEqDiff, reduceCtorEq, Nat.reduceAdd, Nat.reduceSub, Nat.reduceMul, Nat.reduceLeDiff, Int.reduceToNat, Int.reduceLT, Int.reduceLE, Int.reduceNeg, reduceIte, I, S]; with_reducible rfl); (· exact pickI_ok g x.n 20 hn (by decide)); (· first | rfl | (simp only [moOk, nbeq, nble, List.length_nil, beq_self_eq_true, Bool.true_and, Bool.and_true, Bool.and_eq_true, decide_eq_true_eq]; omega)); (· simp only [vcA, Nat.reduceLT, Int.reduceEq, Int.reduceAdd, Int.reduceSub, Nat.reduceBEq, Nat.reduceEqDiff, reduceCtorEq, Nat.reduceAdd, Nat.reduceSub, Nat.reduceMul, Nat.reduceLeDiff, Int.reduceToNat, Int.reduceLT, Int.reduceLE, Int.reduceNeg, reduceIte, I, S]; with_reducible rfl)
  simp only [vcA, Nat.reduceLT, Int.reduceEq, Int.reduceAdd, Int.reduceSub, Nat.reduceBEq, Nat.reduceEqDiff, reduceCtorEq, Nat.reduceAdd, Nat.reduceSub, Nat.reduceMul, Nat.reduceLeDiff, Int.reduceToNat, Int.reduceLT, Int.reduceLE, Int.reduceNeg, reduceIte, I, S, w20]
  rfl
end Go.Proofs.YthjphllpkcnehaaGreatDoor
end

section
/- Comparing values: the program's way, the document's way. No statement of the program is proved here. -/
namespace Go.Proofs.YthjphllpkcnehaaGreatDoor
open Go Go.RowKit Go.Mor Go.Sh Go.Sh.Cd1
set_option maxRecDepth 100000
set_option maxHeartbeats 2000000
def thenI (c d : Int) : Int := if c = 0 then d else c
def ordS (a b : List UInt8) : Int := if Op.bytesLess a b then -1 else if a = b then 0 else 1
mutual
def cmpV : V → V → Int
  | .mk k n s l, y => thenI (ordI k y.k) (thenI (ordI n y.n) (thenI (ordS s y.s) (cmpL l y.l)))
def cmpL : List V → List V → Int
  | [], [] => 0
  | [], _ :: _ => -1
  | _ :: _, [] => 1
  | x :: l, y :: l' => thenI (cmpV x y) (cmpL l l')
end
theorem cmpV_eq (x y : V) : cmpV x y = thenI (ordI x.k y.k) (thenI (ordI x.n y.n) (thenI (ordS x.s y.s) (cmpL x.l y.l))) := by
  cases x; simp only [cmpV, V.k, V.n, V.s, V.l]
theorem cmpL_drop {l l' : List V} {i : Nat} {x y : V} (hx : l[i]? = some x) (hy : l'[i]? = some y) : cmpL (l.drop i) (l'.drop i) = thenI (cmpV x y) (cmpL (l.drop (i + 1)) (l'.drop (i + 1))) := by
  obtain ⟨h1, rfl⟩ := List.getElem?_eq_some_iff.1 hx
  obtain ⟨h2, rfl⟩ := List.getElem?_eq_some_iff.1 hy
  rw [List.drop_eq_getElem_cons h1, List.drop_eq_getElem_cons h2, cmpL]
theorem cmpL_end {l l' : List V} {i : Nat} (h : i = min l.length l'.length) : cmpL (l.drop i) (l'.drop i) = ordI l.length l'.length := by
  unfold ordI
  rcases Nat.lt_trichotomy l.length l'.length with h1 | h1 | h1
  · rw [List.drop_eq_nil_of_le (by omega : l.length ≤ i)]
    obtain ⟨y, r, hy⟩ : ∃ y r, l'.drop i = y :: r := ⟨_, _, List.drop_eq_getElem_cons (by omega)⟩
    rw [hy, cmpL, if_pos (by omega)]
  · rw [List.drop_eq_nil_of_le (by omega : l.length ≤ i), List.drop_eq_nil_of_le (by omega : l'.length ≤ i), cmpL, if_neg (by omega), if_neg (by omega)]
  · rw [List.drop_eq_nil_of_le (by omega : l'.length ≤ i)]
    obtain ⟨y, r, hy⟩ : ∃ y r, l.drop i = y :: r := ⟨_, _, List.drop_eq_getElem_cons (by omega)⟩
    rw [hy, cmpL, if_neg (by omega), if_pos (by omega)]
theorem nanI_ok (g : Sh.Glob) (a : Int) : SCalls Tryz.prog g 123 [I a] [] (.pv (.v (.bool false))) [] := by
  refine call_of0 hmix tf_cmp_isNaN_int_ rfl ?_
  simp only [vcA, Nat.reduceLT, Int.reduceEq, Int.reduceAdd, Int.reduceSub, Nat.reduceBEq, Nat.reduceEqDiff, reduceCtorEq, Nat.reduceAdd, Nat.reduceSub, Nat.reduceMul, Nat.reduceLeDiff, Int.reduceToNat, Int.reduceLT, Int.reduceLE, Int.reduceNeg, reduceIte, pvC_fgt, pvC_ids, pvC_ren, pvC_len, I, S, tv, nv, tyT, RawV.tv, R1.row, rowsGet, rowsLen, row4, Vk, Vn, Vs, Vl]
theorem nanS_ok (g : Sh.Glob) (a : ByteArray) : SCalls Tryz.prog g 124 [S a] [] (.pv (.v (.bool false))) [] := by
  refine call_of0 hmix tf_cmp_isNaN_string_ rfl ?_
  simp only [vcA, Nat.reduceLT, Int.reduceEq, Int.reduceAdd, Int.reduceSub, Nat.reduceBEq, Nat.reduceEqDiff, reduceCtorEq, Nat.reduceAdd, Nat.reduceSub, Nat.reduceMul, Nat.reduceLeDiff, Int.reduceToNat, Int.reduceLT, Int.reduceLE, Int.reduceNeg, reduceIte, pvC_fgt, pvC_ids, pvC_ren, pvC_len, I, S, tv, nv, tyT, RawV.tv, R1.row, rowsGet, rowsLen, row4, Vk, Vn, Vs, Vl]
theorem cmpI_ok (g : Sh.Glob) (a b : Int) : SCalls Tryz.prog g 70 [I a, I b] [] (I (ordI a b)) [] := by
  refine call_of0 hmix tf_cmp_Compare_int_ rfl ?_
  simp only [vcA, Nat.reduceLT, Int.reduceEq, Int.reduceAdd, Int.reduceSub, Nat.reduceBEq, Nat.reduceEqDiff, reduceCtorEq, Nat.reduceAdd, Nat.reduceSub, Nat.reduceMul, Nat.reduceLeDiff, Int.reduceToNat, Int.reduceLT, Int.reduceLE, Int.reduceNeg, reduceIte, pvC_fgt, pvC_ids, pvC_ren, pvC_len, I, S, tv, nv, tyT, RawV.tv, R1.row, rowsGet, rowsLen, row4, Vk, Vn, Vs, Vl]
  (with_reducible apply v_call); (· simp only [vcA, Nat.reduceLT, Int.reduceEq, Int.reduceAdd, Int.reduceSub, Nat.reduceBEq, Nat.reduceEqDiff, reduceCtorEq, Nat.reduceAdd, Nat.reduceSub, Nat.reduceMul, Nat.reduceLeDiff, Int.reduceToNat, Int.reduceLT, Int.reduceLE, Int.reduceNeg, reduceIte, pvC_fgt, pvC_ids, pvC_ren, pvC_len, I, S, tv, nv, tyT, RawV.tv, R1.row, rowsGet, rowsLen, row4, Vk, Vn, Vs, Vl]; with_reducible rfl); (· exact nanI_ok g _); (· first | rfl | (simp only [moOk, nbeq, nble, List.length_nil, beq_self_eq_true, Bool.true_and, Bool.and_true, Bool.and_eq_true, decide_eq_true_eq]; omega)); (· simp only [vcA, Nat.reduceLT, Int.reduceEq, Int.reduceAdd, Int.reduceSub, Nat.reduceBEq, Nat.reduceEqDiff, reduceCtorEq, Nat.reduceAdd, Nat.reduceSub, Nat.reduceMul, Nat.reduceLeDiff, Int.reduceToNat, Int.reduceLT, Int.reduceLE, Int.reduceNeg, reduceIte, pvC_fgt, pvC_ids, pvC_ren, pvC_len, I, S, tv, nv, tyT, RawV.tv, R1.row, rowsGet, rowsLen, row4, Vk, Vn, Vs, Vl]; with_reducible rfl)
  simp only [vcA, Nat.reduceLT, Int.reduceEq, Int.reduceAdd, Int.reduceSub, Nat.reduceBEq, Nat.reduceEqDiff, reduceCtorEq, Nat.reduceAdd, Nat.reduceSub, Nat.reduceMul, Nat.reduceLeDiff, Int.reduceToNat, Int.reduceLT, Int.reduceLE, Int.reduceNeg, reduceIte, pvC_fgt, pvC_ids, pvC_ren, pvC_len, I, S, tv, nv, tyT, RawV.tv, R1.row, rowsGet, rowsLen, row4, Vk, Vn, Vs, Vl]
  (with_reducible apply v_call); (· simp only [vcA, Nat.reduceLT, Int.reduceEq, Int.reduceAdd, Int.reduceSub, Nat.reduceBEq, Nat.reduceEqDiff, reduceCtorEq, Nat.reduceAdd, Nat.reduceSub, Nat.reduceMul, Nat.reduceLeDiff, Int.reduceToNat, Int.reduceLT, Int.reduceLE, Int.reduceNeg, reduceIte, pvC_fgt, pvC_ids, pvC_ren, pvC_len, I, S, tv, nv, tyT, RawV.tv, R1.row, rowsGet, rowsLen, row4, Vk, Vn, Vs, Vl]; with_reducible rfl); (· exact nanI_ok g _); (· first | rfl | (simp only [moOk, nbeq, nble, List.length_nil, beq_self_eq_true, Bool.true_and, Bool.and_true, Bool.and_eq_true, decide_eq_true_eq]; omega)); (· simp only [vcA, Nat.reduceLT, Int.reduceEq, Int.reduceAdd, Int.reduceSub, Nat.reduceBEq, Nat.reduceEqDiff, reduceCtorEq, Nat.reduceAdd, Nat.reduceSub, Nat.reduceMul, Nat.reduceLeDiff, Int.reduceToNat, Int.reduceLT, Int.reduceLE, Int.reduceNeg, reduceIte, pvC_fgt, pvC_ids, pvC_ren, pvC_len, I, S, tv, nv, tyT, RawV.tv, R1.row, rowsGet, rowsLen, row4, Vk, Vn, Vs, Vl]; with_reducible rfl)
  simp only [vcA, Nat.reduceLT, Int.reduceEq, Int.reduceAdd, Int.reduceSub, Nat.reduceBEq, Nat.reduceEqDiff, reduceCtorEq, Nat.reduceAdd, Nat.reduceSub, Nat.reduceMul, Nat.reduceLeDiff, Int.reduceToNat, Int.reduceLT, Int.reduceLE, Int.reduceNeg, reduceIte, pvC_fgt, pvC_ids, pvC_ren, pvC_len, I, S, tv, nv, tyT, RawV.tv, R1.row, rowsGet, rowsLen, row4, Vk, Vn, Vs, Vl]
  unfold ordI
  refine ⟨fun h => by rw [if_pos h], fun h => ⟨fun h' => by rw [if_neg h, if_pos h'], fun h' => by rw [if_neg h, if_neg h']⟩⟩
theorem cmpS_ok (g : Sh.Glob) (a b : List UInt8) : SCalls Tryz.prog g 71 [S (str a), S (str b)] [] (I (ordS a b)) [] := by
  refine call_of0 hmix tf_cmp_Compare_string_ rfl ?_
  simp only [vcA, Nat.reduceLT, Int.reduceEq, Int.reduceAdd, Int.reduceSub, Nat.reduceBEq, Nat.reduceEqDiff, reduceCtorEq, Nat.reduceAdd, Nat.reduceSub, Nat.reduceMul, Nat.reduceLeDiff, Int.reduceToNat, Int.reduceLT, Int.reduceLE, Int.reduceNeg, reduceIte, pvC_fgt, pvC_ids, pvC_ren, pvC_len, I, S, tv, nv, tyT, RawV.tv, R1.row, rowsGet, rowsLen, row4, Vk, Vn, Vs, Vl]
  (with_reducible apply v_call); (· simp only [vcA, Nat.reduceLT, Int.reduceEq, Int.reduceAdd, Int.reduceSub, Nat.reduceBEq, Nat.reduceEqDiff, reduceCtorEq, Nat.reduceAdd, Nat.reduceSub, Nat.reduceMul, Nat.reduceLeDiff, Int.reduceToNat, Int.reduceLT, Int.reduceLE, Int.reduceNeg, reduceIte, pvC_fgt, pvC_ids, pvC_ren, pvC_len, I, S, tv, nv, tyT, RawV.tv, R1.row, rowsGet, rowsLen, row4, Vk, Vn, Vs, Vl]; with_reducible rfl); (· exact nanS_ok g _); (· first | rfl | (simp only [moOk, nbeq, nble, List.length_nil, beq_self_eq_true, Bool.true_and, Bool.and_true, Bool.and_eq_true, decide_eq_true_eq]; omega)); (· simp only [vcA, Nat.reduceLT, Int.reduceEq, Int.reduceAdd, Int.reduceSub, Nat.reduceBEq, Nat.reduceEqDiff, reduceCtorEq, Nat.reduceAdd, Nat.reduceSub, Nat.reduceMul, Nat.reduceLeDiff, Int.reduceToNat, Int.reduceLT, Int.reduceLE, Int.reduceNeg, reduceIte, pvC_fgt, pvC_ids, pvC_ren, pvC_len, I, S, tv, nv, tyT, RawV.tv, R1.row, rowsGet, rowsLen, row4, Vk, Vn, Vs, Vl]; with_reducible rfl)
  simp only [vcA, Nat.reduceLT, Int.reduceEq, Int.reduceAdd, Int.reduceSub, Nat.reduceBEq, Nat.reduceEqDiff, reduceCtorEq, Nat.reduceAdd, Nat.reduceSub, Nat.reduceMul, Nat.reduceLeDiff, Int.reduceToNat, Int.reduceLT, Int.reduceLE, Int.reduceNeg, reduceIte, pvC_fgt, pvC_ids, pvC_ren, pvC_len, I, S, tv, nv, tyT, RawV.tv, R1.row, rowsGet, rowsLen, row4, Vk, Vn, Vs, Vl]
  (with_reducible apply v_call); (· simp only [vcA, Nat.reduceLT, Int.reduceEq, Int.reduceAdd, Int.reduceSub, Nat.reduceBEq, Nat.reduceEqDiff, reduceCtorEq, Nat.reduceAdd, Nat.reduceSub, Nat.reduceMul, Nat.reduceLeDiff, Int.reduceToNat, Int.reduceLT, Int.reduceLE, Int.reduceNeg, reduceIte, pvC_fgt, pvC_ids, pvC_ren, pvC_len, I, S, tv, nv, tyT, RawV.tv, R1.row, rowsGet, rowsLen, row4, Vk, Vn, Vs, Vl]; with_reducible rfl); (· exact nanS_ok g _); (· first | rfl | (simp only [moOk, nbeq, nble, List.length_nil, beq_self_eq_true, Bool.true_and, Bool.and_true, Bool.and_eq_true, decide_eq_true_eq]; omega)); (· simp only [vcA, Nat.reduceLT, Int.reduceEq, Int.reduceAdd, Int.reduceSub, Nat.reduceBEq, Nat.reduceEqDiff, reduceCtorEq, Nat.reduceAdd, Nat.reduceSub, Nat.reduceMul, Nat.reduceLeDiff, Int.reduceToNat, Int.reduceLT, Int.reduceLE, Int.reduceNeg, reduceIte, pvC_fgt, pvC_ids, pvC_ren, pvC_len, I, S, tv, nv, tyT, RawV.tv, R1.row, rowsGet, rowsLen, row4, Vk, Vn, Vs, Vl]; with_reducible rfl)
  simp only [vcA, Nat.reduceLT, Int.reduceEq, Int.reduceAdd, Int.reduceSub, Nat.reduceBEq, Nat.reduceEqDiff, reduceCtorEq, Nat.reduceAdd, Nat.reduceSub, Nat.reduceMul, Nat.reduceLeDiff, Int.reduceToNat, Int.reduceLT, Int.reduceLE, Int.reduceNeg, reduceIte, pvC_fgt, pvC_ids, pvC_ren, pvC_len, I, S, tv, nv, tyT, RawV.tv, R1.row, rowsGet, rowsLen, row4, Vk, Vn, Vs, Vl]
  unfold ordS
  cases hb : Op.bytesLess a b
  · by_cases he : a = b
    · subst he; simp [boolW]
    · simp [boolW, he]
  · simp [boolW]
theorem byItems_ok (g : Sh.Glob) (l l' : List V) (hl : l.length ≤ maxLen) (H : ∀ (i : Nat) x y, l[i]? = some x → l'[i]? = some y → SCalls Tryz.prog g 32 [tv x, tv y] [] (I (cmpV x y)) []) :
    SCalls Tryz.prog g 72 [.pv (.sl 4 (V.rows l)), .pv (.sl 4 (V.rows l')), .pv (.v (.func (.func 32) #[] #[]))] [] (I (cmpL l l')) [] := by
  refine call_of0 hmix tf_val_byItems_api_Val_ rfl ?_
  simp only [vcA, Nat.reduceLT, Int.reduceEq, Int.reduceAdd, Int.reduceSub, Nat.reduceBEq, Nat.reduceEqDiff, reduceCtorEq, Nat.reduceAdd, Nat.reduceSub, Nat.reduceMul, Nat.reduceLeDiff, Int.reduceToNat, Int.reduceLT, Int.reduceLE, Int.reduceNeg, reduceIte, pvC_fgt, pvC_ids, pvC_ren, pvC_len, I, S, tv, nv, tyT, RawV.tv, R1.row, rowsGet, rowsLen, row4, Vk, Vn, Vs, Vl]
  refine v_loop (σ := { i : Nat // i ≤ min l.length l'.length ∧ cmpL l l' = cmpL (l.drop i) (l'.drop i) }) (fun i => ⟨[(0, .pv (.sl 4 (V.rows l))), (1, .pv (.sl 4 (V.rows l'))), (2, .pv (.v (.func (.func 32) #[] #[]))), (13, I (min (l.length : Int) (l'.length : Int))), (14, I (i.1 : Int))], [], [], []⟩) (fun i => min l.length l'.length - i.1) ⟨0, Nat.zero_le _, rfl⟩ (lw_eq rfl) ?_
  rintro ⟨i, hi, hc⟩
  simp only [vcA, Nat.reduceLT, Int.reduceEq, Int.reduceAdd, Int.reduceSub, Nat.reduceBEq, Nat.reduceEqDiff, reduceCtorEq, Nat.reduceAdd, Nat.reduceSub, Nat.reduceMul, Nat.reduceLeDiff, Int.reduceToNat, Int.reduceLT, Int.reduceLE, Int.reduceNeg, reduceIte, pvC_fgt, pvC_ids, pvC_ren, pvC_len, I, S, tv, nv, tyT, RawV.tv, R1.row, rowsGet, rowsLen, row4, Vk, Vn, Vs, Vl]
  have hm : maxLen = 9223372036854775807 := rfl
  refine ⟨fun hlt => ?_, fun hge => ?_⟩
  · refine ⟨by omega, fun x hx => ⟨by omega, fun y hy => ?_⟩⟩
    (with_reducible apply v_callv); (· simp only [vcA, Nat.reduceLT, Int.reduceEq, Int.reduceAdd, Int.reduceSub, Nat.reduceBEq, Nat.reduceEqDiff, reduceCtorEq, Nat.reduceAdd, Nat.reduceSub, Nat.reduceMul, Nat.reduceLeDiff, Int.reduceToNat, Int.reduceLT, Int.reduceLE, Int.reduceNeg, reduceIte, pvC_fgt, pvC_ids, pvC_ren, pvC_len, I, S, tv, nv, tyT, RawV.tv, R1.row, rowsGet, rowsLen, row4, Vk, Vn, Vs, Vl]; with_reducible rfl); (· exact H i x y hx hy); (· rfl); (· simp only [vcA, Nat.reduceLT, Int.reduceEq, Int.reduceAdd, Int.reduceSub, Nat.reduceBEq, Nat.reduceEqDiff, reduceCtorEq, Nat.reduceAdd, Nat.reduceSub, Nat.reduceMul, Nat.reduceLeDiff, Int.reduceToNat, Int.reduceLT, Int.reduceLE, Int.reduceNeg, reduceIte, pvC_fgt, pvC_ids, pvC_ren, pvC_len, I, S, tv, nv, tyT, RawV.tv, R1.row, rowsGet, rowsLen, row4, Vk, Vn, Vs, Vl]; with_reducible rfl)
    have hd := cmpL_drop hx hy
    rw [← hc] at hd
    unfold thenI at hd
    simp only [vcA, Nat.reduceLT, Int.reduceEq, Int.reduceAdd, Int.reduceSub, Nat.reduceBEq, Nat.reduceEqDiff, reduceCtorEq, Nat.reduceAdd, Nat.reduceSub, Nat.reduceMul, Nat.reduceLeDiff, Int.reduceToNat, Int.reduceLT, Int.reduceLE, Int.reduceNeg, reduceIte, pvC_fgt, pvC_ids, pvC_ren, pvC_len, I, S, tv, nv, tyT, RawV.tv, R1.row, rowsGet, rowsLen, row4, Vk, Vn, Vs, Vl]
    refine ⟨fun h0 => ?_, fun h0 => ?_⟩
    · rw [if_pos h0] at hd
      have w1 : IntKind.i64.wrap ((i : Int) + 1) = (i : Int) + 1 := wrap64 (by omega) (by omega)
      refine loopK_of ⟨i + 1, by omega, hd⟩ (by show _ - (i + 1) < _ - i; omega) ?_
      apply lw_of <;> simp [leL, lk, sv, Nat.beq, I, S, ES.kill, has, drp, nilT, w1]
    · rw [if_neg h0] at hd
      rw [hd]
  · (with_reducible apply v_call); (· simp only [vcA, Nat.reduceLT, Int.reduceEq, Int.reduceAdd, Int.reduceSub, Nat.reduceBEq, Nat.reduceEqDiff, reduceCtorEq, Nat.reduceAdd, Nat.reduceSub, Nat.reduceMul, Nat.reduceLeDiff, Int.reduceToNat, Int.reduceLT, Int.reduceLE, Int.reduceNeg, reduceIte, pvC_fgt, pvC_ids, pvC_ren, pvC_len, I, S, tv, nv, tyT, RawV.tv, R1.row, rowsGet, rowsLen, row4, Vk, Vn, Vs, Vl]; with_reducible rfl); (· exact cmpI_ok g _ _); (· first | rfl | (simp only [moOk, nbeq, nble, List.length_nil, beq_self_eq_true, Bool.true_and, Bool.and_true, Bool.and_eq_true, decide_eq_true_eq]; omega)); (· simp only [vcA, Nat.reduceLT, Int.reduceEq, Int.reduceAdd, Int.reduceSub, Nat.reduceBEq, Nat.reduceEqDiff, reduceCtorEq, Nat.reduceAdd, Nat.reduceSub, Nat.reduceMul, Nat.reduceLeDiff, Int.reduceToNat, Int.reduceLT, Int.reduceLE, Int.reduceNeg, reduceIte, pvC_fgt, pvC_ids, pvC_ren, pvC_len, I, S, tv, nv, tyT, RawV.tv, R1.row, rowsGet, rowsLen, row4, Vk, Vn, Vs, Vl]; with_reducible rfl)
    simp only [vcA, Nat.reduceLT, Int.reduceEq, Int.reduceAdd, Int.reduceSub, Nat.reduceBEq, Nat.reduceEqDiff, reduceCtorEq, Nat.reduceAdd, Nat.reduceSub, Nat.reduceMul, Nat.reduceLeDiff, Int.reduceToNat, Int.reduceLT, Int.reduceLE, Int.reduceNeg, reduceIte, pvC_fgt, pvC_ids, pvC_ren, pvC_len, I, S, tv, nv, tyT, RawV.tv, R1.row, rowsGet, rowsLen, row4, Vk, Vn, Vs, Vl]
    rw [hc, cmpL_end (by omega)]
theorem compare_n (g : Sh.Glob) : ∀ (n : Nat) (x y : V), SizeOf.sizeOf x ≤ n → VSmall x → SCalls Tryz.prog g 32 [tv x, tv y] [] (I (cmpV x y)) []
  | 0, x, y, h, _ => by cases x; simp at h
  | n + 1, x, y, h, hx => by
    have HB := byItems_ok g x.l y.l hx.len (fun i a b ha hb => compare_n g n a b (by
      have hm := List.mem_of_getElem? ha
      have := List.sizeOf_lt_of_mem hm
      cases x; simp [V.l] at h this ⊢; omega) (hx.sub (List.mem_of_getElem? ha)))
    refine call_of0 hmix tf_val_Compare rfl ?_
    rw [cmpV_eq]
    simp only [vcA, Nat.reduceLT, Int.reduceEq, Int.reduceAdd, Int.reduceSub, Nat.reduceBEq, Nat.reduceEqDiff, reduceCtorEq, Nat.reduceAdd, Nat.reduceSub, Nat.reduceMul, Nat.reduceLeDiff, Int.reduceToNat, Int.reduceLT, Int.reduceLE, Int.reduceNeg, reduceIte, pvC_fgt, pvC_ids, pvC_ren, pvC_len, I, S, tv, nv, tyT, RawV.tv, R1.row, rowsGet, rowsLen, row4, Vk, Vn, Vs, Vl]
    (with_reducible apply v_call); (· simp only [vcA, Nat.reduceLT, Int.reduceEq, Int.reduceAdd, Int.reduceSub, Nat.reduceBEq, Nat.reduceEqDiff, reduceCtorEq, Nat.reduceAdd, Nat.reduceSub, Nat.reduceMul, Nat.reduceLeDiff, Int.reduceToNat, Int.reduceLT, Int.reduceLE, Int.reduceNeg, reduceIte, pvC_fgt, pvC_ids, pvC_ren, pvC_len, I, S, tv, nv, tyT, RawV.tv, R1.row, rowsGet, rowsLen, row4, Vk, Vn, Vs, Vl]; with_reducible rfl); (· exact cmpI_ok g _ _); (· first | rfl | (simp only [moOk, nbeq, nble, List.length_nil, beq_self_eq_true, Bool.true_and, Bool.and_true, Bool.and_eq_true, decide_eq_true_eq]; omega)); (· simp only [vcA, Nat.reduceLT, Int.reduceEq, Int.reduceAdd, Int.reduceSub, Nat.reduceBEq, Nat.reduceEqDiff, reduceCtorEq, Nat.reduceAdd, Nat.reduceSub, Nat.reduceMul, Nat.reduceLeDiff, Int.reduceToNat, Int.reduceLT, Int.reduceLE, Int.reduceNeg, reduceIte, pvC_fgt, pvC_ids, pvC_ren, pvC_len, I, S, tv, nv, tyT, RawV.tv, R1.row, rowsGet, rowsLen, row4, Vk, Vn, Vs, Vl]; with_reducible rfl)
    simp only [vcA, Nat.reduceLT, Int.reduceEq, Int.reduceAdd, Int.reduceSub, Nat.reduceBEq, Nat.reduceEqDiff, reduceCtorEq, Nat.reduceAdd, Nat.reduceSub, Nat.reduceMul, Nat.reduceLeDiff, Int.reduceToNat, Int.reduceLT, Int.reduceLE, Int.reduceNeg, reduceIte, pvC_fgt, pvC_ids, pvC_ren, pvC_len, I, S, tv, nv, tyT, RawV.tv, R1.row, rowsGet, rowsLen, row4, Vk, Vn, Vs, Vl]
    refine ⟨fun h1 => ?_, fun h1 => by rw [thenI, if_neg h1]⟩
    rw [thenI, if_pos h1]
    (with_reducible apply v_call); (· simp only [vcA, Nat.reduceLT, Int.reduceEq, Int.reduceAdd, Int.reduceSub, Nat.reduceBEq, Nat.reduceEqDiff, reduceCtorEq, Nat.reduceAdd, Nat.reduceSub, Nat.reduceMul, Nat.reduceLeDiff, Int.reduceToNat, Int.reduceLT, Int.reduceLE, Int.reduceNeg, reduceIte, pvC_fgt, pvC_ids, pvC_ren, pvC_len, I, S, tv, nv, tyT, RawV.tv, R1.row, rowsGet, rowsLen, row4, Vk, Vn, Vs, Vl]; with_reducible rfl); (· exact cmpI_ok g _ _); (· first | rfl | (simp only [moOk, nbeq, nble, List.length_nil, beq_self_eq_true, Bool.true_and, Bool.and_true, Bool.and_eq_true, decide_eq_true_eq]; omega)); (· simp only [vcA, Nat.reduceLT, Int.reduceEq, Int.reduceAdd, Int.reduceSub, Nat.reduceBEq, Nat.reduceEqDiff, reduceCtorEq, Nat.reduceAdd, Nat.reduceSub, Nat.reduceMul, Nat.reduceLeDiff, Int.reduceToNat, Int.reduceLT, Int.reduceLE, Int.reduceNeg, reduceIte, pvC_fgt, pvC_ids, pvC_ren, pvC_len, I, S, tv, nv, tyT, RawV.tv, R1.row, rowsGet, rowsLen, row4, Vk, Vn, Vs, Vl]; with_reducible rfl)
    simp only [vcA, Nat.reduceLT, Int.reduceEq, Int.reduceAdd, Int.reduceSub, Nat.reduceBEq, Nat.reduceEqDiff, reduceCtorEq, Nat.reduceAdd, Nat.reduceSub, Nat.reduceMul, Nat.reduceLeDiff, Int.reduceToNat, Int.reduceLT, Int.reduceLE, Int.reduceNeg, reduceIte, pvC_fgt, pvC_ids, pvC_ren, pvC_len, I, S, tv, nv, tyT, RawV.tv, R1.row, rowsGet, rowsLen, row4, Vk, Vn, Vs, Vl]
    refine ⟨fun h2 => ?_, fun h2 => by rw [thenI, if_neg h2]⟩
    rw [thenI, if_pos h2]
    (with_reducible apply v_call); (· simp only [vcA, Nat.reduceLT, Int.reduceEq, Int.reduceAdd, Int.reduceSub, Nat.reduceBEq, Nat.reduceEqDiff, reduceCtorEq, Nat.reduceAdd, Nat.reduceSub, Nat.reduceMul, Nat.reduceLeDiff, Int.reduceToNat, Int.reduceLT, Int.reduceLE, Int.reduceNeg, reduceIte, pvC_fgt, pvC_ids, pvC_ren, pvC_len, I, S, tv, nv, tyT, RawV.tv, R1.row, rowsGet, rowsLen, row4, Vk, Vn, Vs, Vl]; with_reducible rfl); (· exact cmpS_ok g _ _); (· first | rfl | (simp only [moOk, nbeq, nble, List.length_nil, beq_self_eq_true, Bool.true_and, Bool.and_true, Bool.and_eq_true, decide_eq_true_eq]; omega)); (· simp only [vcA, Nat.reduceLT, Int.reduceEq, Int.reduceAdd, Int.reduceSub, Nat.reduceBEq, Nat.reduceEqDiff, reduceCtorEq, Nat.reduceAdd, Nat.reduceSub, Nat.reduceMul, Nat.reduceLeDiff, Int.reduceToNat, Int.reduceLT, Int.reduceLE, Int.reduceNeg, reduceIte, pvC_fgt, pvC_ids, pvC_ren, pvC_len, I, S, tv, nv, tyT, RawV.tv, R1.row, rowsGet, rowsLen, row4, Vk, Vn, Vs, Vl]; with_reducible rfl)
    simp only [vcA, Nat.reduceLT, Int.reduceEq, Int.reduceAdd, Int.reduceSub, Nat.reduceBEq, Nat.reduceEqDiff, reduceCtorEq, Nat.reduceAdd, Nat.reduceSub, Nat.reduceMul, Nat.reduceLeDiff, Int.reduceToNat, Int.reduceLT, Int.reduceLE, Int.reduceNeg, reduceIte, pvC_fgt, pvC_ids, pvC_ren, pvC_len, I, S, tv, nv, tyT, RawV.tv, R1.row, rowsGet, rowsLen, row4, Vk, Vn, Vs, Vl]
    refine ⟨fun h3 => ?_, fun h3 => by rw [thenI, if_neg h3]⟩
    rw [thenI, if_pos h3]
    (with_reducible apply v_call); (· simp only [vcA, Nat.reduceLT, Int.reduceEq, Int.reduceAdd, Int.reduceSub, Nat.reduceBEq, Nat.reduceEqDiff, reduceCtorEq, Nat.reduceAdd, Nat.reduceSub, Nat.reduceMul, Nat.reduceLeDiff, Int.reduceToNat, Int.reduceLT, Int.reduceLE, Int.reduceNeg, reduceIte, pvC_fgt, pvC_ids, pvC_ren, pvC_len, I, S, tv, nv, tyT, RawV.tv, R1.row, rowsGet, rowsLen, row4, Vk, Vn, Vs, Vl]; with_reducible rfl); (· exact HB); (· first | rfl | (simp only [moOk, nbeq, nble, List.length_nil, beq_self_eq_true, Bool.true_and, Bool.and_true, Bool.and_eq_true, decide_eq_true_eq]; omega)); (· simp only [vcA, Nat.reduceLT, Int.reduceEq, Int.reduceAdd, Int.reduceSub, Nat.reduceBEq, Nat.reduceEqDiff, reduceCtorEq, Nat.reduceAdd, Nat.reduceSub, Nat.reduceMul, Nat.reduceLeDiff, Int.reduceToNat, Int.reduceLT, Int.reduceLE, Int.reduceNeg, reduceIte, pvC_fgt, pvC_ids, pvC_ren, pvC_len, I, S, tv, nv, tyT, RawV.tv, R1.row, rowsGet, rowsLen, row4, Vk, Vn, Vs, Vl]; with_reducible rfl)
    simp only [vcA, Nat.reduceLT, Int.reduceEq, Int.reduceAdd, Int.reduceSub, Nat.reduceBEq, Nat.reduceEqDiff, reduceCtorEq, Nat.reduceAdd, Nat.reduceSub, Nat.reduceMul, Nat.reduceLeDiff, Int.reduceToNat, Int.reduceLT, Int.reduceLE, Int.reduceNeg, reduceIte, pvC_fgt, pvC_ids, pvC_ren, pvC_len, I, S, tv, nv, tyT, RawV.tv, R1.row, rowsGet, rowsLen, row4, Vk, Vn, Vs, Vl]
theorem compare_ok (g : Sh.Glob) (x y : V) (hx : VSmall x) : SCalls Tryz.prog g 32 [tv x, tv y] [] (I (cmpV x y)) [] := compare_n g _ x y (Nat.le_refl _) hx
theorem same_ok (g : Sh.Glob) (x y : V) (hx : VSmall x) : SCalls Tryz.prog g 34 [tv x, tv y] [] (.pv (.v (.bool (decide (cmpV x y = 0))))) [] := by
  refine call_of0 hmix tf_val_Same rfl ?_
  simp only [vcA, Nat.reduceLT, Int.reduceEq, Int.reduceAdd, Int.reduceSub, Nat.reduceBEq, Nat.reduceEqDiff, reduceCtorEq, Nat.reduceAdd, Nat.reduceSub, Nat.reduceMul, Nat.reduceLeDiff, Int.reduceToNat, Int.reduceLT, Int.reduceLE, Int.reduceNeg, reduceIte, pvC_fgt, pvC_ids, pvC_ren, pvC_len, I, S, tv, nv, tyT, RawV.tv, R1.row, rowsGet, rowsLen, row4, Vk, Vn, Vs, Vl]
  (with_reducible apply v_call); (· simp only [vcA, Nat.reduceLT, Int.reduceEq, Int.reduceAdd, Int.reduceSub, Nat.reduceBEq, Nat.reduceEqDiff, reduceCtorEq, Nat.reduceAdd, Nat.reduceSub, Nat.reduceMul, Nat.reduceLeDiff, Int.reduceToNat, Int.reduceLT, Int.reduceLE, Int.reduceNeg, reduceIte, pvC_fgt, pvC_ids, pvC_ren, pvC_len, I, S, tv, nv, tyT, RawV.tv, R1.row, rowsGet, rowsLen, row4, Vk, Vn, Vs, Vl]; with_reducible rfl); (· exact compare_ok g x y hx); (· first | rfl | (simp only [moOk, nbeq, nble, List.length_nil, beq_self_eq_true, Bool.true_and, Bool.and_true, Bool.and_eq_true, decide_eq_true_eq]; omega)); (· simp only [vcA, Nat.reduceLT, Int.reduceEq, Int.reduceAdd, Int.reduceSub, Nat.reduceBEq, Nat.reduceEqDiff, reduceCtorEq, Nat.reduceAdd, Nat.reduceSub, Nat.reduceMul, Nat.reduceLeDiff, Int.reduceToNat, Int.reduceLT, Int.reduceLE, Int.reduceNeg, reduceIte, pvC_fgt, pvC_ids, pvC_ren, pvC_len, I, S, tv, nv, tyT, RawV.tv, R1.row, rowsGet, rowsLen, row4, Vk, Vn, Vs, Vl]; with_reducible rfl)
  simp only [vcA, Nat.reduceLT, Int.reduceEq, Int.reduceAdd, Int.reduceSub, Nat.reduceBEq, Nat.reduceEqDiff, reduceCtorEq, Nat.reduceAdd, Nat.reduceSub, Nat.reduceMul, Nat.reduceLeDiff, Int.reduceToNat, Int.reduceLT, Int.reduceLE, Int.reduceNeg, reduceIte, pvC_fgt, pvC_ids, pvC_ren, pvC_len, I, S, tv, nv, tyT, RawV.tv, R1.row, rowsGet, rowsLen, row4, Vk, Vn, Vs, Vl]
/-- The document's loop over two lists. -/
theorem refLoop (g : Sh.Glob) (x y : V) (hx : VSmall x) (H : ∀ (i : Nat) a b, x.l[i]? = some a → y.l[i]? = some b → SCalls Tryz.prog g 33 [tv a, tv b] [] (I (cmpV a b)) []) (c : Int) :
    swp Tryz.prog g (.loop c_moraineref03_Compare_12) (blockW 0 (thenW (swp Tryz.prog g (.seq (.seq c_moraineref03_Compare_13 (.cond (.tmp 67) (.seq c_moraineref03_Compare_14 .ret) .skip)) (.seq c_moraineref03_Compare_15 .ret)) (Post0 [.tmp 4] (I (thenI c (cmpL x.l y.l))))) (Post0 [.tmp 4] (I (thenI c (cmpL x.l y.l))))))
      ⟨[(2, .ptr 2 0), (3, .ptr 3 0), (5, I c), (6, I 0)], [(2, [I x.k, I x.n, S (str x.s), .pv (.sl 4 (V.rows x.l))]), (3, [I y.k, I y.n, S (str y.s), .pv (.sl 4 (V.rows y.l))])], [], []⟩ := by
  refine v_loop (σ := { p : Nat × Int // p.1 ≤ min x.l.length y.l.length ∧ thenI c (cmpL x.l y.l) = thenI p.2 (cmpL (x.l.drop p.1) (y.l.drop p.1)) })
    (fun p => ⟨[(2, .ptr 2 0), (3, .ptr 3 0), (5, I p.1.2), (6, I (p.1.1 : Int))], [(2, [I x.k, I x.n, S (str x.s), .pv (.sl 4 (V.rows x.l))]), (3, [I y.k, I y.n, S (str y.s), .pv (.sl 4 (V.rows y.l))])], [], []⟩)
    (fun p => min x.l.length y.l.length - p.1.1) ⟨(0, c), Nat.zero_le _, rfl⟩ (lw_eq rfl) ?_
  rintro ⟨⟨i, d⟩, hi, hc⟩
  have hm : maxLen = 9223372036854775807 := rfl
  have hl := hx.len
  simp only at hi hc
  simp only [vcA, Nat.reduceLT, Int.reduceEq, Int.reduceAdd, Int.reduceSub, Nat.reduceBEq, Nat.reduceEqDiff, reduceCtorEq, Nat.reduceAdd, Nat.reduceSub, Nat.reduceMul, Nat.reduceLeDiff, Int.reduceToNat, Int.reduceLT, Int.reduceLE, Int.reduceNeg, reduceIte, pvC_fgt, pvC_ids, pvC_ren, pvC_len, I, S, tv, nv, tyT, RawV.tv, R1.row, rowsGet, rowsLen, row4, Vk, Vn, Vs, Vl]
  refine ⟨fun h0 => ⟨fun h1 => ⟨fun h2 => ⟨by omega, fun a ha => ⟨by omega, fun b hb => ?_⟩⟩, fun h2 => ⟨fun _ => ?_, fun h => absurd h0 h⟩⟩, fun h1 => ⟨fun _ => ?_, fun h => absurd h0 h⟩⟩, fun h0 => ⟨fun h => absurd h h0, fun _ => ?_⟩⟩
  · (with_reducible apply v_call); (· simp only [vcA, Nat.reduceLT, Int.reduceEq, Int.reduceAdd, Int.reduceSub, Nat.reduceBEq, Nat.reduceEqDiff, reduceCtorEq, Nat.reduceAdd, Nat.reduceSub, Nat.reduceMul, Nat.reduceLeDiff, Int.reduceToNat, Int.reduceLT, Int.reduceLE, Int.reduceNeg, reduceIte, pvC_fgt, pvC_ids, pvC_ren, pvC_len, I, S, tv, nv, tyT, RawV.tv, R1.row, rowsGet, rowsLen, row4, Vk, Vn, Vs, Vl]; with_reducible rfl); (· exact H i a b ha hb); (· first | rfl | (simp only [moOk, nbeq, nble, List.length_nil, beq_self_eq_true, Bool.true_and, Bool.and_true, Bool.and_eq_true, decide_eq_true_eq]; omega)); (· simp only [vcA, Nat.reduceLT, Int.reduceEq, Int.reduceAdd, Int.reduceSub, Nat.reduceBEq, Nat.reduceEqDiff, reduceCtorEq, Nat.reduceAdd, Nat.reduceSub, Nat.reduceMul, Nat.reduceLeDiff, Int.reduceToNat, Int.reduceLT, Int.reduceLE, Int.reduceNeg, reduceIte, pvC_fgt, pvC_ids, pvC_ren, pvC_len, I, S, tv, nv, tyT, RawV.tv, R1.row, rowsGet, rowsLen, row4, Vk, Vn, Vs, Vl]; with_reducible rfl)
    simp only [vcA, Nat.reduceLT, Int.reduceEq, Int.reduceAdd, Int.reduceSub, Nat.reduceBEq, Nat.reduceEqDiff, reduceCtorEq, Nat.reduceAdd, Nat.reduceSub, Nat.reduceMul, Nat.reduceLeDiff, Int.reduceToNat, Int.reduceLT, Int.reduceLE, Int.reduceNeg, reduceIte, pvC_fgt, pvC_ids, pvC_ren, pvC_len, I, S, tv, nv, tyT, RawV.tv, R1.row, rowsGet, rowsLen, row4, Vk, Vn, Vs, Vl]
    have w1 : IntKind.i64.wrap ((i : Int) + 1) = (i : Int) + 1 := wrap64 (by omega) (by omega)
    refine loopK_of ⟨(i + 1, cmpV a b), by show i + 1 ≤ _; omega, ?_⟩ (by show _ - (i + 1) < _ - i; omega) ?_
    · show _ = thenI (cmpV a b) (cmpL (x.l.drop (i + 1)) (y.l.drop (i + 1)))
      rw [hc, h0, cmpL_drop ha hb]; simp [thenI]
    apply lw_of <;> simp [leL, lk, sv, Nat.beq, I, S, ES.kill, has, drp, nilT, w1]
  · (with_reducible apply v_call); (· simp only [vcA, Nat.reduceLT, Int.reduceEq, Int.reduceAdd, Int.reduceSub, Nat.reduceBEq, Nat.reduceEqDiff, reduceCtorEq, Nat.reduceAdd, Nat.reduceSub, Nat.reduceMul, Nat.reduceLeDiff, Int.reduceToNat, Int.reduceLT, Int.reduceLE, Int.reduceNeg, reduceIte, pvC_fgt, pvC_ids, pvC_ren, pvC_len, I, S, tv, nv, tyT, RawV.tv, R1.row, rowsGet, rowsLen, row4, Vk, Vn, Vs, Vl]; with_reducible rfl); (· exact order_ok g _ _); (· first | rfl | (simp only [moOk, nbeq, nble, List.length_nil, beq_self_eq_true, Bool.true_and, Bool.and_true, Bool.and_eq_true, decide_eq_true_eq]; omega)); (· simp only [vcA, Nat.reduceLT, Int.reduceEq, Int.reduceAdd, Int.reduceSub, Nat.reduceBEq, Nat.reduceEqDiff, reduceCtorEq, Nat.reduceAdd, Nat.reduceSub, Nat.reduceMul, Nat.reduceLeDiff, Int.reduceToNat, Int.reduceLT, Int.reduceLE, Int.reduceNeg, reduceIte, pvC_fgt, pvC_ids, pvC_ren, pvC_len, I, S, tv, nv, tyT, RawV.tv, R1.row, rowsGet, rowsLen, row4, Vk, Vn, Vs, Vl]; with_reducible rfl)
    simp only [vcA, Nat.reduceLT, Int.reduceEq, Int.reduceAdd, Int.reduceSub, Nat.reduceBEq, Nat.reduceEqDiff, reduceCtorEq, Nat.reduceAdd, Nat.reduceSub, Nat.reduceMul, Nat.reduceLeDiff, Int.reduceToNat, Int.reduceLT, Int.reduceLE, Int.reduceNeg, reduceIte, pvC_fgt, pvC_ids, pvC_ren, pvC_len, I, S, tv, nv, tyT, RawV.tv, R1.row, rowsGet, rowsLen, row4, Vk, Vn, Vs, Vl]
    rw [hc, h0, thenI, if_pos rfl, cmpL_end (by omega)]
  · (with_reducible apply v_call); (· simp only [vcA, Nat.reduceLT, Int.reduceEq, Int.reduceAdd, Int.reduceSub, Nat.reduceBEq, Nat.reduceEqDiff, reduceCtorEq, Nat.reduceAdd, Nat.reduceSub, Nat.reduceMul, Nat.reduceLeDiff, Int.reduceToNat, Int.reduceLT, Int.reduceLE, Int.reduceNeg, reduceIte, pvC_fgt, pvC_ids, pvC_ren, pvC_len, I, S, tv, nv, tyT, RawV.tv, R1.row, rowsGet, rowsLen, row4, Vk, Vn, Vs, Vl]; with_reducible rfl); (· exact order_ok g _ _); (· first | rfl | (simp only [moOk, nbeq, nble, List.length_nil, beq_self_eq_true, Bool.true_and, Bool.and_true, Bool.and_eq_true, decide_eq_true_eq]; omega)); (· simp only [vcA, Nat.reduceLT, Int.reduceEq, Int.reduceAdd, Int.reduceSub, Nat.reduceBEq, Nat.reduceEqDiff, reduceCtorEq, Nat.reduceAdd, Nat.reduceSub, Nat.reduceMul, Nat.reduceLeDiff, Int.reduceToNat, Int.reduceLT, Int.reduceLE, Int.reduceNeg, reduceIte, pvC_fgt, pvC_ids, pvC_ren, pvC_len, I, S, tv, nv, tyT, RawV.tv, R1.row, rowsGet, rowsLen, row4, Vk, Vn, Vs, Vl]; with_reducible rfl)
    simp only [vcA, Nat.reduceLT, Int.reduceEq, Int.reduceAdd, Int.reduceSub, Nat.reduceBEq, Nat.reduceEqDiff, reduceCtorEq, Nat.reduceAdd, Nat.reduceSub, Nat.reduceMul, Nat.reduceLeDiff, Int.reduceToNat, Int.reduceLT, Int.reduceLE, Int.reduceNeg, reduceIte, pvC_fgt, pvC_ids, pvC_ren, pvC_len, I, S, tv, nv, tyT, RawV.tv, R1.row, rowsGet, rowsLen, row4, Vk, Vn, Vs, Vl]
    rw [hc, h0, thenI, if_pos rfl, cmpL_end (by omega)]
  · rw [hc, thenI, if_neg h0]
theorem refCompare_n (g : Sh.Glob) : ∀ (n : Nat) (x y : V), SizeOf.sizeOf x ≤ n → VSmall x → SCalls Tryz.prog g 33 [tv x, tv y] [] (I (cmpV x y)) []
  | 0, x, y, h, _ => by cases x; simp at h
  | n + 1, x, y, h, hx => by
    have H : ∀ (i : Nat) a b, x.l[i]? = some a → y.l[i]? = some b → SCalls Tryz.prog g 33 [tv a, tv b] [] (I (cmpV a b)) [] := fun i a b ha hb => refCompare_n g n a b (by
      have hm := List.mem_of_getElem? ha
      have := List.sizeOf_lt_of_mem hm
      cases x; simp [V.l] at h this ⊢; omega) (hx.sub (List.mem_of_getElem? ha))
    have HL := refLoop g x y hx H
    refine call_of0 hmix tf_moraineref03_Compare rfl ?_
    rw [cmpV_eq]
    by_cases h1 : ordI x.k y.k = 0
    · rw [h1, thenI, if_pos rfl]
      simp only [vcA, Nat.reduceLT, Int.reduceEq, Int.reduceAdd, Int.reduceSub, Nat.reduceBEq, Nat.reduceEqDiff, reduceCtorEq, Nat.reduceAdd, Nat.reduceSub, Nat.reduceMul, Nat.reduceLeDiff, Int.reduceToNat, Int.reduceLT, Int.reduceLE, Int.reduceNeg, reduceIte, pvC_fgt, pvC_ids, pvC_ren, pvC_len, I, S, tv, nv, tyT, RawV.tv, R1.row, rowsGet, rowsLen, row4, Vk, Vn, Vs, Vl]
      (with_reducible apply v_call); (· simp only [vcA, Nat.reduceLT, Int.reduceEq, Int.reduceAdd, Int.reduceSub, Nat.reduceBEq, Nat.reduceEqDiff, reduceCtorEq, Nat.reduceAdd, Nat.reduceSub, Nat.reduceMul, Nat.reduceLeDiff, Int.reduceToNat, Int.reduceLT, Int.reduceLE, Int.reduceNeg, reduceIte, pvC_fgt, pvC_ids, pvC_ren, pvC_len, I, S, tv, nv, tyT, RawV.tv, R1.row, rowsGet, rowsLen, row4, Vk, Vn, Vs, Vl]; with_reducible rfl); (· exact order_ok g _ _); (· first | rfl | (simp only [moOk, nbeq, nble, List.length_nil, beq_self_eq_true, Bool.true_and, Bool.and_true, Bool.and_eq_true, decide_eq_true_eq]; omega)); (· simp only [vcA, Nat.reduceLT, Int.reduceEq, Int.reduceAdd, Int.reduceSub, Nat.reduceBEq, Nat.reduceEqDiff, reduceCtorEq, Nat.reduceAdd, Nat.reduceSub, Nat.reduceMul, Nat.reduceLeDiff, Int.reduceToNat, Int.reduceLT, Int.reduceLE, Int.reduceNeg, reduceIte, pvC_fgt, pvC_ids, pvC_ren, pvC_len, I, S, tv, nv, tyT, RawV.tv, R1.row, rowsGet, rowsLen, row4, Vk, Vn, Vs, Vl]; with_reducible rfl)
      simp only [vcA, Nat.reduceLT, Int.reduceEq, Int.reduceAdd, Int.reduceSub, Nat.reduceBEq, Nat.reduceEqDiff, reduceCtorEq, Nat.reduceAdd, Nat.reduceSub, Nat.reduceMul, Nat.reduceLeDiff, Int.reduceToNat, Int.reduceLT, Int.reduceLE, Int.reduceNeg, reduceIte, pvC_fgt, pvC_ids, pvC_ren, pvC_len, I, S, tv, nv, tyT, RawV.tv, R1.row, rowsGet, rowsLen, row4, Vk, Vn, Vs, Vl, h1]
      (with_reducible apply v_call); (· simp only [vcA, Nat.reduceLT, Int.reduceEq, Int.reduceAdd, Int.reduceSub, Nat.reduceBEq, Nat.reduceEqDiff, reduceCtorEq, Nat.reduceAdd, Nat.reduceSub, Nat.reduceMul, Nat.reduceLeDiff, Int.reduceToNat, Int.reduceLT, Int.reduceLE, Int.reduceNeg, reduceIte, pvC_fgt, pvC_ids, pvC_ren, pvC_len, I, S, tv, nv, tyT, RawV.tv, R1.row, rowsGet, rowsLen, row4, Vk, Vn, Vs, Vl]; with_reducible rfl); (· exact order_ok g _ _); (· first | rfl | (simp only [moOk, nbeq, nble, List.length_nil, beq_self_eq_true, Bool.true_and, Bool.and_true, Bool.and_eq_true, decide_eq_true_eq]; omega)); (· simp only [vcA, Nat.reduceLT, Int.reduceEq, Int.reduceAdd, Int.reduceSub, Nat.reduceBEq, Nat.reduceEqDiff, reduceCtorEq, Nat.reduceAdd, Nat.reduceSub, Nat.reduceMul, Nat.reduceLeDiff, Int.reduceToNat, Int.reduceLT, Int.reduceLE, Int.reduceNeg, reduceIte, pvC_fgt, pvC_ids, pvC_ren, pvC_len, I, S, tv, nv, tyT, RawV.tv, R1.row, rowsGet, rowsLen, row4, Vk, Vn, Vs, Vl]; with_reducible rfl)
      by_cases h2 : ordI x.n y.n = 0
      · rw [h2, thenI, if_pos rfl]
        cases hb : Op.bytesLess x.s y.s
        · by_cases he : x.s = y.s
          · have e : ordS x.s y.s = 0 := by rw [ordS, hb]; simp [he]
            have he' : (x.s == y.s) = true := by simp [he]
            rw [e]
            simp only [vcA, Nat.reduceLT, Int.reduceEq, Int.reduceAdd, Int.reduceSub, Nat.reduceBEq, Nat.reduceEqDiff, reduceCtorEq, Nat.reduceAdd, Nat.reduceSub, Nat.reduceMul, Nat.reduceLeDiff, Int.reduceToNat, Int.reduceLT, Int.reduceLE, Int.reduceNeg, reduceIte, pvC_fgt, pvC_ids, pvC_ren, pvC_len, I, S, tv, nv, tyT, RawV.tv, R1.row, rowsGet, rowsLen, row4, Vk, Vn, Vs, Vl, h2, hb, he']
            exact HL 0
          · have e : ordS x.s y.s = 1 := by simp [ordS, hb, he]
            have he' : (x.s == y.s) = false := by simp [he]
            rw [e]
            simp only [vcA, Nat.reduceLT, Int.reduceEq, Int.reduceAdd, Int.reduceSub, Nat.reduceBEq, Nat.reduceEqDiff, reduceCtorEq, Nat.reduceAdd, Nat.reduceSub, Nat.reduceMul, Nat.reduceLeDiff, Int.reduceToNat, Int.reduceLT, Int.reduceLE, Int.reduceNeg, reduceIte, pvC_fgt, pvC_ids, pvC_ren, pvC_len, I, S, tv, nv, tyT, RawV.tv, R1.row, rowsGet, rowsLen, row4, Vk, Vn, Vs, Vl, h2, hb, he']
            exact HL 1
        · have e : ordS x.s y.s = -1 := by simp [ordS, hb]
          rw [e]
          simp only [vcA, Nat.reduceLT, Int.reduceEq, Int.reduceAdd, Int.reduceSub, Nat.reduceBEq, Nat.reduceEqDiff, reduceCtorEq, Nat.reduceAdd, Nat.reduceSub, Nat.reduceMul, Nat.reduceLeDiff, Int.reduceToNat, Int.reduceLT, Int.reduceLE, Int.reduceNeg, reduceIte, pvC_fgt, pvC_ids, pvC_ren, pvC_len, I, S, tv, nv, tyT, RawV.tv, R1.row, rowsGet, rowsLen, row4, Vk, Vn, Vs, Vl, h2, hb]
          exact HL (-1)
      · rw [show thenI (ordI x.n y.n) (thenI (ordS x.s y.s) (cmpL x.l y.l)) = thenI (ordI x.n y.n) (cmpL x.l y.l) by simp [thenI, h2]]
        simp only [vcA, Nat.reduceLT, Int.reduceEq, Int.reduceAdd, Int.reduceSub, Nat.reduceBEq, Nat.reduceEqDiff, reduceCtorEq, Nat.reduceAdd, Nat.reduceSub, Nat.reduceMul, Nat.reduceLeDiff, Int.reduceToNat, Int.reduceLT, Int.reduceLE, Int.reduceNeg, reduceIte, pvC_fgt, pvC_ids, pvC_ren, pvC_len, I, S, tv, nv, tyT, RawV.tv, R1.row, rowsGet, rowsLen, row4, Vk, Vn, Vs, Vl, h2]
        exact HL _
    · rw [show thenI (ordI x.k y.k) (thenI (ordI x.n y.n) (thenI (ordS x.s y.s) (cmpL x.l y.l))) = thenI (ordI x.k y.k) (cmpL x.l y.l) by simp [thenI, h1]]
      simp only [vcA, Nat.reduceLT, Int.reduceEq, Int.reduceAdd, Int.reduceSub, Nat.reduceBEq, Nat.reduceEqDiff, reduceCtorEq, Nat.reduceAdd, Nat.reduceSub, Nat.reduceMul, Nat.reduceLeDiff, Int.reduceToNat, Int.reduceLT, Int.reduceLE, Int.reduceNeg, reduceIte, pvC_fgt, pvC_ids, pvC_ren, pvC_len, I, S, tv, nv, tyT, RawV.tv, R1.row, rowsGet, rowsLen, row4, Vk, Vn, Vs, Vl]
      (with_reducible apply v_call); (· simp only [vcA, Nat.reduceLT, Int.reduceEq, Int.reduceAdd, Int.reduceSub, Nat.reduceBEq, Nat.reduceEqDiff, reduceCtorEq, Nat.reduceAdd, Nat.reduceSub, Nat.reduceMul, Nat.reduceLeDiff, Int.reduceToNat, Int.reduceLT, Int.reduceLE, Int.reduceNeg, reduceIte, pvC_fgt, pvC_ids, pvC_ren, pvC_len, I, S, tv, nv, tyT, RawV.tv, R1.row, rowsGet, rowsLen, row4, Vk, Vn, Vs, Vl]; with_reducible rfl); (· exact order_ok g _ _); (· first | rfl | (simp only [moOk, nbeq, nble, List.length_nil, beq_self_eq_true, Bool.true_and, Bool.and_true, Bool.and_eq_true, decide_eq_true_eq]; omega)); (· simp only [vcA, Nat.reduceLT, Int.reduceEq, Int.reduceAdd, Int.reduceSub, Nat.reduceBEq, Nat.reduceEqDiff, reduceCtorEq, Nat.reduceAdd, Nat.reduceSub, Nat.reduceMul, Nat.reduceLeDiff, Int.reduceToNat, Int.reduceLT, Int.reduceLE, Int.reduceNeg, reduceIte, pvC_fgt, pvC_ids, pvC_ren, pvC_len, I, S, tv, nv, tyT, RawV.tv, R1.row, rowsGet, rowsLen, row4, Vk, Vn, Vs, Vl]; with_reducible rfl)
      simp only [vcA, Nat.reduceLT, Int.reduceEq, Int.reduceAdd, Int.reduceSub, Nat.reduceBEq, Nat.reduceEqDiff, reduceCtorEq, Nat.reduceAdd, Nat.reduceSub, Nat.reduceMul, Nat.reduceLeDiff, Int.reduceToNat, Int.reduceLT, Int.reduceLE, Int.reduceNeg, reduceIte, pvC_fgt, pvC_ids, pvC_ren, pvC_len, I, S, tv, nv, tyT, RawV.tv, R1.row, rowsGet, rowsLen, row4, Vk, Vn, Vs, Vl, h1]
      exact HL _
theorem refCompare_ok (g : Sh.Glob) (x y : V) (hx : VSmall x) : SCalls Tryz.prog g 33 [tv x, tv y] [] (I (cmpV x y)) [] := refCompare_n g _ x y (Nat.le_refl _) hx
theorem refSame_ok (g : Sh.Glob) (x y : V) (hx : VSmall x) : SCalls Tryz.prog g 19 [tv x, tv y] [] (.pv (.v (.bool (decide (cmpV x y = 0))))) [] := by
  refine call_of0 hmix tf_moraineref03_Same rfl ?_
  simp only [vcA, Nat.reduceLT, Int.reduceEq, Int.reduceAdd, Int.reduceSub, Nat.reduceBEq, Nat.reduceEqDiff, reduceCtorEq, Nat.reduceAdd, Nat.reduceSub, Nat.reduceMul, Nat.reduceLeDiff, Int.reduceToNat, Int.reduceLT, Int.reduceLE, Int.reduceNeg, reduceIte, pvC_fgt, pvC_ids, pvC_ren, pvC_len, I, S, tv, nv, tyT, RawV.tv, R1.row, rowsGet, rowsLen, row4, Vk, Vn, Vs, Vl]
  (with_reducible apply v_call); (· simp only [vcA, Nat.reduceLT, Int.reduceEq, Int.reduceAdd, Int.reduceSub, Nat.reduceBEq, Nat.reduceEqDiff, reduceCtorEq, Nat.reduceAdd, Nat.reduceSub, Nat.reduceMul, Nat.reduceLeDiff, Int.reduceToNat, Int.reduceLT, Int.reduceLE, Int.reduceNeg, reduceIte, pvC_fgt, pvC_ids, pvC_ren, pvC_len, I, S, tv, nv, tyT, RawV.tv, R1.row, rowsGet, rowsLen, row4, Vk, Vn, Vs, Vl]; with_reducible rfl); (· exact refCompare_ok g x y hx); (· first | rfl | (simp only [moOk, nbeq, nble, List.length_nil, beq_self_eq_true, Bool.true_and, Bool.and_true, Bool.and_eq_true, decide_eq_true_eq]; omega)); (· simp only [vcA, Nat.reduceLT, Int.reduceEq, Int.reduceAdd, Int.reduceSub, Nat.reduceBEq, Nat.reduceEqDiff, reduceCtorEq, Nat.reduceAdd, Nat.reduceSub, Nat.reduceMul, Nat.reduceLeDiff, Int.reduceToNat, Int.reduceLT, Int.reduceLE, Int.reduceNeg, reduceIte, pvC_fgt, pvC_ids, pvC_ren, pvC_len, I, S, tv, nv, tyT, RawV.tv, R1.row, rowsGet, rowsLen, row4, Vk, Vn, Vs, Vl]; with_reducible rfl)
  simp only [vcA, Nat.reduceLT, Int.reduceEq, Int.reduceAdd, Int.reduceSub, Nat.reduceBEq, Nat.reduceEqDiff, reduceCtorEq, Nat.reduceAdd, Nat.reduceSub, Nat.reduceMul, Nat.reduceLeDiff, Int.reduceToNat, Int.reduceLT, Int.reduceLE, Int.reduceNeg, reduceIte, pvC_fgt, pvC_ids, pvC_ren, pvC_len, I, S, tv, nv, tyT, RawV.tv, R1.row, rowsGet, rowsLen, row4, Vk, Vn, Vs, Vl]
end Go.Proofs.YthjphllpkcnehaaGreatDoor
end

section
/- The statements' ValOf. No statement of the program is proved here. -/
namespace Go.Proofs.YthjphllpkcnehaaGreatDoor
open Go Go.RowKit Go.Mor Go.Sh Go.Sh.Cd1
set_option maxRecDepth 100000
set_option maxHeartbeats 2000000
def oneOf (r : R1) : V := valOne (pickI r.k 5) r.n r.s
def onesTo (l : List R1) (i : Nat) : List V := (l.take i).map oneOf
theorem onesTo_succ {l : List R1} {i : Nat} {r : R1} (h : l[i]? = some r) : onesTo l (i + 1) = onesTo l i ++ [oneOf r] := by
  unfold onesTo; rw [List.take_add_one, h]; simp
theorem onesTo_len {l : List R1} {i : Nat} (h : i ≤ l.length) : (onesTo l i).length = i := by simp [onesTo]; omega
theorem oneOf_l (r : R1) : (oneOf r).l = [] := valOne_l _ _ _
theorem rowsApp (l : List V) (y : V) : V.rows (l ++ [y]) = V.rows l ++ [V.row y] := by simp [rows_eq]
theorem rowNil {y : V} (h : y.l = []) : V.row y = [.v (.int .i64 y.k), .v (.int .i64 y.n), .v (.string (str y.s)), .sl 4 []] := by rw [row4, h, V.rows_nil]
theorem valOf_list (g : Sh.Glob) (x : RawV) (hx : x.ok) (hk5 : ¬ pickI x.k 7 < 5) : SCalls Tryz.prog g 16 [x.tv] [] (tv (valOf x)) [] := by
  refine call_of1 hmix tf_morainelaw03_ValOf rfl rfl ?_
  obtain ⟨hk, hn, hs, hl, hlen⟩ := hx
  simp only [vcA, Nat.reduceLT, Int.reduceEq, Int.reduceAdd, Int.reduceSub, Nat.reduceBEq, Nat.reduceEqDiff, reduceCtorEq, Nat.reduceAdd, Nat.reduceSub, Nat.reduceMul, Nat.reduceLeDiff, Int.reduceToNat, Int.reduceLT, Int.reduceLE, Int.reduceNeg, reduceIte, RawV.tv, I, S]
  (with_reducible apply v_call); (· simp only [vcA, Nat.reduceLT, Int.reduceEq, Int.reduceAdd, Int.reduceSub, Nat.reduceBEq, Nat.reduceEqDiff, reduceCtorEq, Nat.reduceAdd, Nat.reduceSub, Nat.reduceMul, Nat.reduceLeDiff, Int.reduceToNat, Int.reduceLT, Int.reduceLE, Int.reduceNeg, reduceIte, I, S]; with_reducible rfl); (· exact pickI_ok g _ _ hk (by decide)); (· first | rfl | (simp only [moOk, nbeq, nble, List.length_nil, beq_self_eq_true, Bool.true_and, Bool.and_true, Bool.and_eq_true, decide_eq_true_eq]; omega)); (· simp only [vcA, Nat.reduceLT, Int.reduceEq, Int.reduceAdd, Int.reduceSub, Nat.reduceBEq, Nat.reduceEqDiff, reduceCtorEq, Nat.reduceAdd, Nat.reduceSub, Nat.reduceMul, Nat.reduceLeDiff, Int.reduceToNat, Int.reduceLT, Int.reduceLE, Int.reduceNeg, reduceIte, I, S]; with_reducible rfl)
  simp only [vcA, Nat.reduceLT, Int.reduceEq, Int.reduceAdd, Int.reduceSub, Nat.reduceBEq, Nat.reduceEqDiff, reduceCtorEq, Nat.reduceAdd, Nat.reduceSub, Nat.reduceMul, Nat.reduceLeDiff, Int.reduceToNat, Int.reduceLT, Int.reduceLE, Int.reduceNeg, reduceIte, hk5, I, S]
  refine v_loop (σ := { i : Nat // i ≤ x.l.length ∧ i ≤ 12 })
    (fun i => ⟨[(1, .ptr 1 0), (2, .ptr 2 0), (5, .ptr 5 0), (6, I (i.1 : Int))], [(1, [I x.k, I x.n, S (str x.s), .pv (.sl 3 (x.l.map R1.row))]), (2, [I 0, I 0, S ⟨#[]⟩, nilT]), (5, [I 5, I 0, S ⟨#[]⟩, .own 3000 4 (V.rows (onesTo x.l i.1))])], [(3000, (42, 4, i.1))], []⟩)
    (fun i => 12 - i.1) ⟨0, Nat.zero_le _, Nat.zero_le _⟩ ?_ ?_
  · refine ES.Lw.trans ?_ (adB_lw (x := 5) (j := 3) (d := 3000) (e := 42) (W := 4) (.inr (by decide)) (by decide) rfl (by simp only [vcA, Nat.reduceLT, Int.reduceEq, Int.reduceAdd, Int.reduceSub, Nat.reduceBEq, Nat.reduceEqDiff, reduceCtorEq, Nat.reduceAdd, Nat.reduceSub, Nat.reduceMul, Nat.reduceLeDiff, Int.reduceToNat, Int.reduceLT, Int.reduceLE, Int.reduceNeg, reduceIte]) rfl)
    exact lw_eq rfl
  rintro ⟨i, hi, h12⟩
  have ol := onesTo_len hi
  simp only [vcA, Nat.reduceLT, Int.reduceEq, Int.reduceAdd, Int.reduceSub, Nat.reduceBEq, Nat.reduceEqDiff, reduceCtorEq, Nat.reduceAdd, Nat.reduceSub, Nat.reduceMul, Nat.reduceLeDiff, Int.reduceToNat, Int.reduceLT, Int.reduceLE, Int.reduceNeg, reduceIte, pvC_fgt, pvC_ids, pvC_ren, pvC_len, I, S, tv, nv, tyT, RawV.tv, R1.row, rowsGet, rowsLen, row4, Vk, Vn, Vs, Vl, nilT]
  have he : valOf x = .mk 5 0 [] (oneL x.l) := by unfold valOf; rw [if_neg hk5]
  have hend : (i = x.l.length ∨ i = 12) → onesTo x.l i = oneL x.l := by
    intro h
    unfold oneL onesTo
    rcases h with h | h
    · rw [h, List.take_of_length_le (Nat.le_refl _), List.take_of_length_le (by omega)]; rfl
    · rw [h]; rfl
  refine ⟨fun h1 => ⟨fun h2 => .inl ⟨by omega, fun r hr => ?_⟩, fun h2 => ?_⟩, fun h1 => ?_⟩
  · obtain ⟨o1, o2, o3⟩ := hl r (List.mem_of_getElem? hr)
    (with_reducible apply v_call); (· simp only [vcA, Nat.reduceLT, Int.reduceEq, Int.reduceAdd, Int.reduceSub, Nat.reduceBEq, Nat.reduceEqDiff, reduceCtorEq, Nat.reduceAdd, Nat.reduceSub, Nat.reduceMul, Nat.reduceLeDiff, Int.reduceToNat, Int.reduceLT, Int.reduceLE, Int.reduceNeg, reduceIte, I, S]; with_reducible rfl); (· exact pickI_ok g _ _ o1 (by decide)); (· first | rfl | (simp only [moOk, nbeq, nble, List.length_nil, beq_self_eq_true, Bool.true_and, Bool.and_true, Bool.and_eq_true, decide_eq_true_eq]; omega)); (· simp only [vcA, Nat.reduceLT, Int.reduceEq, Int.reduceAdd, Int.reduceSub, Nat.reduceBEq, Nat.reduceEqDiff, reduceCtorEq, Nat.reduceAdd, Nat.reduceSub, Nat.reduceMul, Nat.reduceLeDiff, Int.reduceToNat, Int.reduceLT, Int.reduceLE, Int.reduceNeg, reduceIte, I, S]; with_reducible rfl)
    simp only [vcA, Nat.reduceLT, Int.reduceEq, Int.reduceAdd, Int.reduceSub, Nat.reduceBEq, Nat.reduceEqDiff, reduceCtorEq, Nat.reduceAdd, Nat.reduceSub, Nat.reduceMul, Nat.reduceLeDiff, Int.reduceToNat, Int.reduceLT, Int.reduceLE, Int.reduceNeg, reduceIte, pvC_fgt, pvC_ids, pvC_ren, pvC_len, I, S, tv, nv, tyT, RawV.tv, R1.row, rowsGet, rowsLen, row4, Vk, Vn, Vs, Vl]
    refine ⟨by omega, fun r' hr' => ?_⟩
    rw [hr] at hr'; cases hr'
    have HV := (valOne_ok g (pickI r.k 5) r.k r.n r.s o2 o3).out (nv_tv (valOne_l _ _ _))
    unfold tv at HV
    rw [valOne_l, V.rows_nil] at HV
    (with_reducible apply v_call); (· simp only [vcA, Nat.reduceLT, Int.reduceEq, Int.reduceAdd, Int.reduceSub, Nat.reduceBEq, Nat.reduceEqDiff, reduceCtorEq, Nat.reduceAdd, Nat.reduceSub, Nat.reduceMul, Nat.reduceLeDiff, Int.reduceToNat, Int.reduceLT, Int.reduceLE, Int.reduceNeg, reduceIte, pvC_fgt, pvC_ids, pvC_ren, pvC_len, I, S, tv, nv, tyT, RawV.tv, R1.row, rowsGet, rowsLen, row4, Vk, Vn, Vs, Vl]; with_reducible rfl); (· exact HV); (· first | rfl | (simp only [moOk, nbeq, nble, List.length_nil, beq_self_eq_true, Bool.true_and, Bool.and_true, Bool.and_eq_true, decide_eq_true_eq]; omega)); (· simp only [vcA, Nat.reduceLT, Int.reduceEq, Int.reduceAdd, Int.reduceSub, Nat.reduceBEq, Nat.reduceEqDiff, reduceCtorEq, Nat.reduceAdd, Nat.reduceSub, Nat.reduceMul, Nat.reduceLeDiff, Int.reduceToNat, Int.reduceLT, Int.reduceLE, Int.reduceNeg, reduceIte, pvC_fgt, pvC_ids, pvC_ren, pvC_len, I, S, tv, nv, tyT, RawV.tv, R1.row, rowsGet, rowsLen, row4, Vk, Vn, Vs, Vl]; with_reducible rfl)
    simp only [vcA, Nat.reduceLT, Int.reduceEq, Int.reduceAdd, Int.reduceSub, Nat.reduceBEq, Nat.reduceEqDiff, reduceCtorEq, Nat.reduceAdd, Nat.reduceSub, Nat.reduceMul, Nat.reduceLeDiff, Int.reduceToNat, Int.reduceLT, Int.reduceLE, Int.reduceNeg, reduceIte, pvC_fgt, pvC_ids, pvC_ren, pvC_len, I, S, tv, nv, tyT, RawV.tv, R1.row, rowsGet, rowsLen, row4, Vk, Vn, Vs, Vl, ol]
    refine ⟨⟨by omega, by have hm : maxLen = 9223372036854775807 := rfl; omega⟩, loopK_of ⟨i + 1, by omega, by omega⟩ (by show 12 - (i + 1) < 12 - i; omega) ?_⟩
    have w1 : IntKind.i64.wrap ((i : Int) + 1) = ((i + 1 : Nat) : Int) := by rw [wrap64 (by omega) (by omega)]; omega
    refine lw_eq ?_
    simp only [onesTo_succ hr, rowsApp, rowNil (oneOf_l r), w1]
    rfl
  · rw [he, hend (.inr (by omega))]; rfl
  · rw [he, hend (.inl (by omega))]; rfl
theorem valOf_l_small {x : RawV} (h : pickI x.k 7 < 5) : (valOf x).l = [] := by
  unfold valOf; rw [if_pos h]; split
  · rfl
  · exact valOne_l _ _ _
theorem valOf_ok (g : Sh.Glob) (x : RawV) (hx : x.ok) : SCalls Tryz.prog g 16 [x.tv] [] (tv (valOf x)) [] := by
  by_cases h : pickI x.k 7 < 5
  · exact (valOf_small g x hx h).out (nv_tv (valOf_l_small h))
  · exact valOf_list g x hx h
end Go.Proofs.YthjphllpkcnehaaGreatDoor
end

section
/- Calls of package val that are known, with the package's variables. No statement of the program is proved here. -/
namespace Go.Proofs.YthjphllpkcnehaaGreatDoor
open Go Go.RowKit Go.Mor Go.Sh Go.Sh.Cd1
theorem fits_ok (a0 a1 : Addr) (n : Nat) (x : V) (t : Ty) (hx : VOk x) (hl : x.l.length ≤ maxLen) : SCalls Tryz.prog (gl a0 a1 n) 36 [tv x, tyT t] [] (.pv (.v (.bool (fitsV x t)))) [] := sc_up (fits_ok0 n x t hx hl)
theorem rightV_ok (a0 a1 : Addr) (n : Nat) (x : V) (hx : VOk x) : SCalls Tryz.prog (gl a0 a1 n) 28 [tv x] [] (.pv (.v (.bool (rightV x)))) [] := sc_up (rightV_ok0 n x hx)
theorem rightText_ok (a0 a1 : Addr) (m : Nat) (t : List UInt8) (ht : t.length ≤ 9223372036854775807) : SCalls Tryz.prog (gl a0 a1 m) 64 [S (str t)] [] (.pv (.v (.bool (rightText t)))) [] := sc_up (rightText_ok0 m t ht)
end Go.Proofs.YthjphllpkcnehaaGreatDoor
end

section
/- Values as bytes: the program's way. No statement of the program is proved here. -/
namespace Go.Proofs.YthjphllpkcnehaaGreatDoor
open Go Go.RowKit Go.Mor Go.Sh Go.Sh.Cd1
set_option maxRecDepth 100000
set_option maxHeartbeats 2000000
theorem bl_str (l : List UInt8) : bl (str l) = l := by simp [bl, str]
theorem in64_T {x : Int} (h : I64 x) : in64 x = true := by unfold in64; obtain ⟨h1, h2⟩ := h; simp [h1, h2]
theorem num_ok (a0 a1 : Addr) (m : Nat) (x : Int) (h : I64 x) : SCalls Tryz.prog (gl a0 a1 m) 110 [I x] [] (S (str (num x))) [] :=
  prim1_sound a0 a1 m _ _ _ _ _ (by simp [prim1, I, Nat.beq, in64_T h])
theorem text_ok (a0 a1 : Addr) (m : Nat) (l : List UInt8) (h : l.length ≤ 10000) : SCalls Tryz.prog (gl a0 a1 m) 111 [S (str l)] [] (.tuple [S (str (text l)), I 0]) [] :=
  prim1_sound a0 a1 m _ _ _ _ _ (by simp [prim1, S, Nat.beq, bl_str, textTV, h]; omega)
theorem readNum_ok (a0 a1 : Addr) (m : Nat) (l : List UInt8) (a : Int) (hl : l.length < 1125899906842624) (h : I64 a) : SCalls Tryz.prog (gl a0 a1 m) 152 [S (str l), I a] [] (numTV (readNum l a)) [] :=
  prim1_sound a0 a1 m _ _ _ _ _ (by simp [prim1, S, I, Nat.beq, bl_str, in64_T h, hl])
theorem readText_ok (a0 a1 : Addr) (m : Nat) (l : List UInt8) (a : Int) (hl : l.length < 1125899906842624) (h : I64 a) : SCalls Tryz.prog (gl a0 a1 m) 153 [S (str l), I a] [] (readTV (readText l a)) [] :=
  prim1_sound a0 a1 m _ _ _ _ _ (by simp [prim1, S, I, Nat.beq, bl_str, in64_T h, hl])
/-- Bytes as a slice's elements. -/
def byR (l : List UInt8) : List (List PV) := l.map fun u => [.v (.int .u8 u.toNat)]
theorem byP (l : List UInt8) : bytesP (str l) = byR l := by simp [bytesP, byR, str]
theorem byApp (a b : List UInt8) : byR a ++ byR b = byR (a ++ b) := by simp [byR]
theorem byLen (a : List UInt8) : (byR a).length = a.length := by simp [byR]
theorem bySeq : ∀ (a : List UInt8), seqO Sh.byteOf (byR a) = some a
  | [] => rfl
  | u :: a => by
    have ih := bySeq a
    unfold byR at ih ⊢
    simp only [List.map_cons, seqO, ih, Sh.byteOf]
    simp
theorem strMk (l : List UInt8) : (⟨l.toArray⟩ : ByteArray) = str l := rfl
/-- The bytes of a value that is no list. -/
def enc1 (x : V) : List UInt8 := num x.k ++ (if x.k = 1 ∨ x.k = 3 ∨ x.k = 4 then num x.n else if x.k = 2 then text x.s else [])
def encV (x : V) : List UInt8 := if x.k = 5 then num 5 ++ num x.l.length ++ x.l.flatMap enc1 else enc1 x
theorem text_len {l : List UInt8} (h : l.length ≤ 60) : (text l).length ≤ 70 := by
  have := num_length l.length
  simp [text]; omega
theorem lay_one (a0 a1 : Addr) (m : Nat) (x : V) (b : List UInt8) (hk : I64 x.k) (hn : I64 x.n) (hs : x.s.length ≤ 60) (h5 : x.k ≠ 5) (hb : b.length ≤ 100000) :
    SCalls Tryz.prog (gl a0 a1 m) 58 [.own 1000 1 (byR b), tv x] [.row 5 1 b.length] (.own 1000 1 (byR (b ++ enc1 x))) [.row 5 1 (b ++ enc1 x).length] := by
  have HK := num_ok a0 a1 m x.k hk
  have HN := num_ok a0 a1 m x.n hn
  have lk' := num_length x.k
  have ln := num_length x.n
  have hm : maxLen = 9223372036854775807 := rfl
  refine call_of hmix tf_val_lay rfl rfl (by simp [moOk, Nat.beq_refl, nble]) ?_
  simp only [vcA, Nat.reduceLT, Int.reduceEq, Int.reduceAdd, Int.reduceSub, Nat.reduceBEq, Nat.reduceEqDiff, reduceCtorEq, Nat.reduceAdd, Nat.reduceSub, Nat.reduceMul, Nat.reduceLeDiff, Int.reduceToNat, Int.reduceLT, Int.reduceLE, Int.reduceNeg, reduceIte, pvC_fgt, pvC_ids, pvC_ren, pvC_len, I, S, tv, nv, tyT, RawV.tv, R1.row, rowsGet, rowsLen, row4, Vk, Vn, Vs, Vl]
  refine .inl ?_
  (with_reducible apply v_call); (· simp only [vcA, Nat.reduceLT, Int.reduceEq, Int.reduceAdd, Int.reduceSub, Nat.reduceBEq, Nat.reduceEqDiff, reduceCtorEq, Nat.reduceAdd, Nat.reduceSub, Nat.reduceMul, Nat.reduceLeDiff, Int.reduceToNat, Int.reduceLT, Int.reduceLE, Int.reduceNeg, reduceIte, pvC_fgt, pvC_ids, pvC_ren, pvC_len, I, S, tv, nv, tyT, RawV.tv, R1.row, rowsGet, rowsLen, row4, Vk, Vn, Vs, Vl, byP, byApp, byLen, bySeq, strMk]; with_reducible rfl); (· exact HK); (· first | rfl | (simp only [moOk, nbeq, nble, List.length_nil, beq_self_eq_true, Bool.true_and, Bool.and_true, Bool.and_eq_true, decide_eq_true_eq]; omega)); (· simp only [vcA, Nat.reduceLT, Int.reduceEq, Int.reduceAdd, Int.reduceSub, Nat.reduceBEq, Nat.reduceEqDiff, reduceCtorEq, Nat.reduceAdd, Nat.reduceSub, Nat.reduceMul, Nat.reduceLeDiff, Int.reduceToNat, Int.reduceLT, Int.reduceLE, Int.reduceNeg, reduceIte, pvC_fgt, pvC_ids, pvC_ren, pvC_len, I, S, tv, nv, tyT, RawV.tv, R1.row, rowsGet, rowsLen, row4, Vk, Vn, Vs, Vl, byP, byApp, byLen, bySeq, strMk]; with_reducible rfl)
  by_cases e1 : x.k = 1
  · have nk := num_length 1
    rw [show enc1 x = num x.k ++ num x.n by unfold enc1; rw [if_pos (by omega)]]
    simp only [vcA, Nat.reduceLT, Int.reduceEq, Int.reduceAdd, Int.reduceSub, Nat.reduceBEq, Nat.reduceEqDiff, reduceCtorEq, Nat.reduceAdd, Nat.reduceSub, Nat.reduceMul, Nat.reduceLeDiff, Int.reduceToNat, Int.reduceLT, Int.reduceLE, Int.reduceNeg, reduceIte, pvC_fgt, pvC_ids, pvC_ren, pvC_len, I, S, tv, nv, tyT, RawV.tv, R1.row, rowsGet, rowsLen, row4, Vk, Vn, Vs, Vl, byP, byApp, byLen, bySeq, strMk, e1, List.nil_append, Nat.zero_add]
    refine ⟨⟨by omega, by omega⟩, .inl ?_⟩
    (with_reducible apply v_call); (· simp only [vcA, Nat.reduceLT, Int.reduceEq, Int.reduceAdd, Int.reduceSub, Nat.reduceBEq, Nat.reduceEqDiff, reduceCtorEq, Nat.reduceAdd, Nat.reduceSub, Nat.reduceMul, Nat.reduceLeDiff, Int.reduceToNat, Int.reduceLT, Int.reduceLE, Int.reduceNeg, reduceIte, pvC_fgt, pvC_ids, pvC_ren, pvC_len, I, S, tv, nv, tyT, RawV.tv, R1.row, rowsGet, rowsLen, row4, Vk, Vn, Vs, Vl, byP, byApp, byLen, bySeq, strMk]; with_reducible rfl); (· exact HN); (· first | rfl | (simp only [moOk, nbeq, nble, List.length_nil, beq_self_eq_true, Bool.true_and, Bool.and_true, Bool.and_eq_true, decide_eq_true_eq]; omega)); (· simp only [vcA, Nat.reduceLT, Int.reduceEq, Int.reduceAdd, Int.reduceSub, Nat.reduceBEq, Nat.reduceEqDiff, reduceCtorEq, Nat.reduceAdd, Nat.reduceSub, Nat.reduceMul, Nat.reduceLeDiff, Int.reduceToNat, Int.reduceLT, Int.reduceLE, Int.reduceNeg, reduceIte, pvC_fgt, pvC_ids, pvC_ren, pvC_len, I, S, tv, nv, tyT, RawV.tv, R1.row, rowsGet, rowsLen, row4, Vk, Vn, Vs, Vl, byP, byApp, byLen, bySeq, strMk]; with_reducible rfl)
    simp only [vcA, Nat.reduceLT, Int.reduceEq, Int.reduceAdd, Int.reduceSub, Nat.reduceBEq, Nat.reduceEqDiff, reduceCtorEq, Nat.reduceAdd, Nat.reduceSub, Nat.reduceMul, Nat.reduceLeDiff, Int.reduceToNat, Int.reduceLT, Int.reduceLE, Int.reduceNeg, reduceIte, pvC_fgt, pvC_ids, pvC_ren, pvC_len, I, S, tv, nv, tyT, RawV.tv, R1.row, rowsGet, rowsLen, row4, Vk, Vn, Vs, Vl, byP, byApp, byLen, bySeq, strMk]
    exact ⟨⟨by omega, by omega⟩, by simp only [List.append_assoc, Nat.add_assoc, List.nil_append]⟩
  by_cases e3 : x.k = 3
  · have nk := num_length 3
    rw [show enc1 x = num x.k ++ num x.n by unfold enc1; rw [if_pos (by omega)]]
    simp only [vcA, Nat.reduceLT, Int.reduceEq, Int.reduceAdd, Int.reduceSub, Nat.reduceBEq, Nat.reduceEqDiff, reduceCtorEq, Nat.reduceAdd, Nat.reduceSub, Nat.reduceMul, Nat.reduceLeDiff, Int.reduceToNat, Int.reduceLT, Int.reduceLE, Int.reduceNeg, reduceIte, pvC_fgt, pvC_ids, pvC_ren, pvC_len, I, S, tv, nv, tyT, RawV.tv, R1.row, rowsGet, rowsLen, row4, Vk, Vn, Vs, Vl, byP, byApp, byLen, bySeq, strMk, e3, List.nil_append, Nat.zero_add]
    refine ⟨⟨by omega, by omega⟩, .inl ?_⟩
    (with_reducible apply v_call); (· simp only [vcA, Nat.reduceLT, Int.reduceEq, Int.reduceAdd, Int.reduceSub, Nat.reduceBEq, Nat.reduceEqDiff, reduceCtorEq, Nat.reduceAdd, Nat.reduceSub, Nat.reduceMul, Nat.reduceLeDiff, Int.reduceToNat, Int.reduceLT, Int.reduceLE, Int.reduceNeg, reduceIte, pvC_fgt, pvC_ids, pvC_ren, pvC_len, I, S, tv, nv, tyT, RawV.tv, R1.row, rowsGet, rowsLen, row4, Vk, Vn, Vs, Vl, byP, byApp, byLen, bySeq, strMk]; with_reducible rfl); (· exact HN); (· first | rfl | (simp only [moOk, nbeq, nble, List.length_nil, beq_self_eq_true, Bool.true_and, Bool.and_true, Bool.and_eq_true, decide_eq_true_eq]; omega)); (· simp only [vcA, Nat.reduceLT, Int.reduceEq, Int.reduceAdd, Int.reduceSub, Nat.reduceBEq, Nat.reduceEqDiff, reduceCtorEq, Nat.reduceAdd, Nat.reduceSub, Nat.reduceMul, Nat.reduceLeDiff, Int.reduceToNat, Int.reduceLT, Int.reduceLE, Int.reduceNeg, reduceIte, pvC_fgt, pvC_ids, pvC_ren, pvC_len, I, S, tv, nv, tyT, RawV.tv, R1.row, rowsGet, rowsLen, row4, Vk, Vn, Vs, Vl, byP, byApp, byLen, bySeq, strMk]; with_reducible rfl)
    simp only [vcA, Nat.reduceLT, Int.reduceEq, Int.reduceAdd, Int.reduceSub, Nat.reduceBEq, Nat.reduceEqDiff, reduceCtorEq, Nat.reduceAdd, Nat.reduceSub, Nat.reduceMul, Nat.reduceLeDiff, Int.reduceToNat, Int.reduceLT, Int.reduceLE, Int.reduceNeg, reduceIte, pvC_fgt, pvC_ids, pvC_ren, pvC_len, I, S, tv, nv, tyT, RawV.tv, R1.row, rowsGet, rowsLen, row4, Vk, Vn, Vs, Vl, byP, byApp, byLen, bySeq, strMk]
    exact ⟨⟨by omega, by omega⟩, by simp only [List.append_assoc, Nat.add_assoc, List.nil_append]⟩
  by_cases e4 : x.k = 4
  · have nk := num_length 4
    rw [show enc1 x = num x.k ++ num x.n by unfold enc1; rw [if_pos (by omega)]]
    simp only [vcA, Nat.reduceLT, Int.reduceEq, Int.reduceAdd, Int.reduceSub, Nat.reduceBEq, Nat.reduceEqDiff, reduceCtorEq, Nat.reduceAdd, Nat.reduceSub, Nat.reduceMul, Nat.reduceLeDiff, Int.reduceToNat, Int.reduceLT, Int.reduceLE, Int.reduceNeg, reduceIte, pvC_fgt, pvC_ids, pvC_ren, pvC_len, I, S, tv, nv, tyT, RawV.tv, R1.row, rowsGet, rowsLen, row4, Vk, Vn, Vs, Vl, byP, byApp, byLen, bySeq, strMk, e4, List.nil_append, Nat.zero_add]
    refine ⟨⟨by omega, by omega⟩, .inl ?_⟩
    (with_reducible apply v_call); (· simp only [vcA, Nat.reduceLT, Int.reduceEq, Int.reduceAdd, Int.reduceSub, Nat.reduceBEq, Nat.reduceEqDiff, reduceCtorEq, Nat.reduceAdd, Nat.reduceSub, Nat.reduceMul, Nat.reduceLeDiff, Int.reduceToNat, Int.reduceLT, Int.reduceLE, Int.reduceNeg, reduceIte, pvC_fgt, pvC_ids, pvC_ren, pvC_len, I, S, tv, nv, tyT, RawV.tv, R1.row, rowsGet, rowsLen, row4, Vk, Vn, Vs, Vl, byP, byApp, byLen, bySeq, strMk]; with_reducible rfl); (· exact HN); (· first | rfl | (simp only [moOk, nbeq, nble, List.length_nil, beq_self_eq_true, Bool.true_and, Bool.and_true, Bool.and_eq_true, decide_eq_true_eq]; omega)); (· simp only [vcA, Nat.reduceLT, Int.reduceEq, Int.reduceAdd, Int.reduceSub, Nat.reduceBEq, Nat.reduceEqDiff, reduceCtorEq, Nat.reduceAdd, Nat.reduceSub, Nat.reduceMul, Nat.reduceLeDiff, Int.reduceToNat, Int.reduceLT, Int.reduceLE, Int.reduceNeg, reduceIte, pvC_fgt, pvC_ids, pvC_ren, pvC_len, I, S, tv, nv, tyT, RawV.tv, R1.row, rowsGet, rowsLen, row4, Vk, Vn, Vs, Vl, byP, byApp, byLen, bySeq, strMk]; with_reducible rfl)
    simp only [vcA, Nat.reduceLT, Int.reduceEq, Int.reduceAdd, Int.reduceSub, Nat.reduceBEq, Nat.reduceEqDiff, reduceCtorEq, Nat.reduceAdd, Nat.reduceSub, Nat.reduceMul, Nat.reduceLeDiff, Int.reduceToNat, Int.reduceLT, Int.reduceLE, Int.reduceNeg, reduceIte, pvC_fgt, pvC_ids, pvC_ren, pvC_len, I, S, tv, nv, tyT, RawV.tv, R1.row, rowsGet, rowsLen, row4, Vk, Vn, Vs, Vl, byP, byApp, byLen, bySeq, strMk]
    exact ⟨⟨by omega, by omega⟩, by simp only [List.append_assoc, Nat.add_assoc, List.nil_append]⟩
  by_cases e2 : x.k = 2
  · have nk := num_length 2
    have tk := text_len hs
    rw [show enc1 x = num x.k ++ text x.s by unfold enc1; rw [if_neg (by omega), if_pos e2]]
    simp only [vcA, Nat.reduceLT, Int.reduceEq, Int.reduceAdd, Int.reduceSub, Nat.reduceBEq, Nat.reduceEqDiff, reduceCtorEq, Nat.reduceAdd, Nat.reduceSub, Nat.reduceMul, Nat.reduceLeDiff, Int.reduceToNat, Int.reduceLT, Int.reduceLE, Int.reduceNeg, reduceIte, pvC_fgt, pvC_ids, pvC_ren, pvC_len, I, S, tv, nv, tyT, RawV.tv, R1.row, rowsGet, rowsLen, row4, Vk, Vn, Vs, Vl, byP, byApp, byLen, bySeq, strMk, e2, List.nil_append, Nat.zero_add]
    refine ⟨⟨by omega, by omega⟩, ?_⟩
    (with_reducible apply v_call); (· simp only [vcA, Nat.reduceLT, Int.reduceEq, Int.reduceAdd, Int.reduceSub, Nat.reduceBEq, Nat.reduceEqDiff, reduceCtorEq, Nat.reduceAdd, Nat.reduceSub, Nat.reduceMul, Nat.reduceLeDiff, Int.reduceToNat, Int.reduceLT, Int.reduceLE, Int.reduceNeg, reduceIte, pvC_fgt, pvC_ids, pvC_ren, pvC_len, I, S, tv, nv, tyT, RawV.tv, R1.row, rowsGet, rowsLen, row4, Vk, Vn, Vs, Vl, byP, byApp, byLen, bySeq, strMk]; with_reducible rfl); (· exact text_ok a0 a1 m x.s (by omega)); (· first | rfl | (simp only [moOk, nbeq, nble, List.length_nil, beq_self_eq_true, Bool.true_and, Bool.and_true, Bool.and_eq_true, decide_eq_true_eq]; omega)); (· simp only [vcA, Nat.reduceLT, Int.reduceEq, Int.reduceAdd, Int.reduceSub, Nat.reduceBEq, Nat.reduceEqDiff, reduceCtorEq, Nat.reduceAdd, Nat.reduceSub, Nat.reduceMul, Nat.reduceLeDiff, Int.reduceToNat, Int.reduceLT, Int.reduceLE, Int.reduceNeg, reduceIte, pvC_fgt, pvC_ids, pvC_ren, pvC_len, I, S, tv, nv, tyT, RawV.tv, R1.row, rowsGet, rowsLen, row4, Vk, Vn, Vs, Vl, byP, byApp, byLen, bySeq, strMk]; with_reducible rfl)
    simp only [vcA, Nat.reduceLT, Int.reduceEq, Int.reduceAdd, Int.reduceSub, Nat.reduceBEq, Nat.reduceEqDiff, reduceCtorEq, Nat.reduceAdd, Nat.reduceSub, Nat.reduceMul, Nat.reduceLeDiff, Int.reduceToNat, Int.reduceLT, Int.reduceLE, Int.reduceNeg, reduceIte, pvC_fgt, pvC_ids, pvC_ren, pvC_len, I, S, tv, nv, tyT, RawV.tv, R1.row, rowsGet, rowsLen, row4, Vk, Vn, Vs, Vl, byP, byApp, byLen, bySeq, strMk]
    exact ⟨⟨by omega, by omega⟩, by simp only [List.append_assoc, Nat.add_assoc, List.nil_append]⟩
  rw [show enc1 x = num x.k by unfold enc1; rw [if_neg (by omega), if_neg e2, List.append_nil]]
  simp only [vcA, Nat.reduceLT, Int.reduceEq, Int.reduceAdd, Int.reduceSub, Nat.reduceBEq, Nat.reduceEqDiff, reduceCtorEq, Nat.reduceAdd, Nat.reduceSub, Nat.reduceMul, Nat.reduceLeDiff, Int.reduceToNat, Int.reduceLT, Int.reduceLE, Int.reduceNeg, reduceIte, pvC_fgt, pvC_ids, pvC_ren, pvC_len, I, S, tv, nv, tyT, RawV.tv, R1.row, rowsGet, rowsLen, row4, Vk, Vn, Vs, Vl, byP, byApp, byLen, bySeq, strMk, e1, e2, e3, e4, h5, List.nil_append, Nat.zero_add]
  exact ⟨by omega, by omega⟩
/-- A value that is no list, onto nothing. -/
theorem lay_nil1 (a0 a1 : Addr) (m : Nat) (x : V) (hk : I64 x.k) (hn : I64 x.n) (hs : x.s.length ≤ 60) (h5 : x.k ≠ 5) :
    SCalls Tryz.prog (gl a0 a1 m) 58 [nilT, tv x] [] (.own 1000 1 (byR (enc1 x))) [.row 5 1 (enc1 x).length] := by
  have HK := num_ok a0 a1 m x.k hk
  have HN := num_ok a0 a1 m x.n hn
  have lk' := num_length x.k
  have ln := num_length x.n
  have hm : maxLen = 9223372036854775807 := rfl
  refine call_of hmix tf_val_lay rfl rfl (by simp [moOk, nble]) ?_
  simp only [vcA, Nat.reduceLT, Int.reduceEq, Int.reduceAdd, Int.reduceSub, Nat.reduceBEq, Nat.reduceEqDiff, reduceCtorEq, Nat.reduceAdd, Nat.reduceSub, Nat.reduceMul, Nat.reduceLeDiff, Int.reduceToNat, Int.reduceLT, Int.reduceLE, Int.reduceNeg, reduceIte, pvC_fgt, pvC_ids, pvC_ren, pvC_len, I, S, tv, nv, tyT, RawV.tv, R1.row, rowsGet, rowsLen, row4, Vk, Vn, Vs, Vl, nilT]
  refine .inr ?_
  (with_reducible apply v_call); (· simp only [vcA, Nat.reduceLT, Int.reduceEq, Int.reduceAdd, Int.reduceSub, Nat.reduceBEq, Nat.reduceEqDiff, reduceCtorEq, Nat.reduceAdd, Nat.reduceSub, Nat.reduceMul, Nat.reduceLeDiff, Int.reduceToNat, Int.reduceLT, Int.reduceLE, Int.reduceNeg, reduceIte, pvC_fgt, pvC_ids, pvC_ren, pvC_len, I, S, tv, nv, tyT, RawV.tv, R1.row, rowsGet, rowsLen, row4, Vk, Vn, Vs, Vl, byP, byApp, byLen, bySeq, strMk]; with_reducible rfl); (· exact HK); (· first | rfl | (simp only [moOk, nbeq, nble, List.length_nil, beq_self_eq_true, Bool.true_and, Bool.and_true, Bool.and_eq_true, decide_eq_true_eq]; omega)); (· simp only [vcA, Nat.reduceLT, Int.reduceEq, Int.reduceAdd, Int.reduceSub, Nat.reduceBEq, Nat.reduceEqDiff, reduceCtorEq, Nat.reduceAdd, Nat.reduceSub, Nat.reduceMul, Nat.reduceLeDiff, Int.reduceToNat, Int.reduceLT, Int.reduceLE, Int.reduceNeg, reduceIte, pvC_fgt, pvC_ids, pvC_ren, pvC_len, I, S, tv, nv, tyT, RawV.tv, R1.row, rowsGet, rowsLen, row4, Vk, Vn, Vs, Vl, byP, byApp, byLen, bySeq, strMk]; with_reducible rfl)
  by_cases e1 : x.k = 1
  · have nk := num_length 1
    rw [show enc1 x = num x.k ++ num x.n by unfold enc1; rw [if_pos (by omega)]]
    simp only [vcA, Nat.reduceLT, Int.reduceEq, Int.reduceAdd, Int.reduceSub, Nat.reduceBEq, Nat.reduceEqDiff, reduceCtorEq, Nat.reduceAdd, Nat.reduceSub, Nat.reduceMul, Nat.reduceLeDiff, Int.reduceToNat, Int.reduceLT, Int.reduceLE, Int.reduceNeg, reduceIte, pvC_fgt, pvC_ids, pvC_ren, pvC_len, I, S, tv, nv, tyT, RawV.tv, R1.row, rowsGet, rowsLen, row4, Vk, Vn, Vs, Vl, byP, byApp, byLen, bySeq, strMk, e1, List.nil_append, Nat.zero_add]
    refine ⟨⟨by omega, by omega⟩, .inl ?_⟩
    (with_reducible apply v_call); (· simp only [vcA, Nat.reduceLT, Int.reduceEq, Int.reduceAdd, Int.reduceSub, Nat.reduceBEq, Nat.reduceEqDiff, reduceCtorEq, Nat.reduceAdd, Nat.reduceSub, Nat.reduceMul, Nat.reduceLeDiff, Int.reduceToNat, Int.reduceLT, Int.reduceLE, Int.reduceNeg, reduceIte, pvC_fgt, pvC_ids, pvC_ren, pvC_len, I, S, tv, nv, tyT, RawV.tv, R1.row, rowsGet, rowsLen, row4, Vk, Vn, Vs, Vl, byP, byApp, byLen, bySeq, strMk]; with_reducible rfl); (· exact HN); (· first | rfl | (simp only [moOk, nbeq, nble, List.length_nil, beq_self_eq_true, Bool.true_and, Bool.and_true, Bool.and_eq_true, decide_eq_true_eq]; omega)); (· simp only [vcA, Nat.reduceLT, Int.reduceEq, Int.reduceAdd, Int.reduceSub, Nat.reduceBEq, Nat.reduceEqDiff, reduceCtorEq, Nat.reduceAdd, Nat.reduceSub, Nat.reduceMul, Nat.reduceLeDiff, Int.reduceToNat, Int.reduceLT, Int.reduceLE, Int.reduceNeg, reduceIte, pvC_fgt, pvC_ids, pvC_ren, pvC_len, I, S, tv, nv, tyT, RawV.tv, R1.row, rowsGet, rowsLen, row4, Vk, Vn, Vs, Vl, byP, byApp, byLen, bySeq, strMk]; with_reducible rfl)
    simp only [vcA, Nat.reduceLT, Int.reduceEq, Int.reduceAdd, Int.reduceSub, Nat.reduceBEq, Nat.reduceEqDiff, reduceCtorEq, Nat.reduceAdd, Nat.reduceSub, Nat.reduceMul, Nat.reduceLeDiff, Int.reduceToNat, Int.reduceLT, Int.reduceLE, Int.reduceNeg, reduceIte, pvC_fgt, pvC_ids, pvC_ren, pvC_len, I, S, tv, nv, tyT, RawV.tv, R1.row, rowsGet, rowsLen, row4, Vk, Vn, Vs, Vl, byP, byApp, byLen, bySeq, strMk]
    exact ⟨by omega, by omega⟩
  by_cases e3 : x.k = 3
  · have nk := num_length 3
    rw [show enc1 x = num x.k ++ num x.n by unfold enc1; rw [if_pos (by omega)]]
    simp only [vcA, Nat.reduceLT, Int.reduceEq, Int.reduceAdd, Int.reduceSub, Nat.reduceBEq, Nat.reduceEqDiff, reduceCtorEq, Nat.reduceAdd, Nat.reduceSub, Nat.reduceMul, Nat.reduceLeDiff, Int.reduceToNat, Int.reduceLT, Int.reduceLE, Int.reduceNeg, reduceIte, pvC_fgt, pvC_ids, pvC_ren, pvC_len, I, S, tv, nv, tyT, RawV.tv, R1.row, rowsGet, rowsLen, row4, Vk, Vn, Vs, Vl, byP, byApp, byLen, bySeq, strMk, e3, List.nil_append, Nat.zero_add]
    refine ⟨⟨by omega, by omega⟩, .inl ?_⟩
    (with_reducible apply v_call); (· simp only [vcA, Nat.reduceLT, Int.reduceEq, Int.reduceAdd, Int.reduceSub, Nat.reduceBEq, Nat.reduceEqDiff, reduceCtorEq, Nat.reduceAdd, Nat.reduceSub, Nat.reduceMul, Nat.reduceLeDiff, Int.reduceToNat, Int.reduceLT, Int.reduceLE, Int.reduceNeg, reduceIte, pvC_fgt, pvC_ids, pvC_ren, pvC_len, I, S, tv, nv, tyT, RawV.tv, R1.row, rowsGet, rowsLen, row4, Vk, Vn, Vs, Vl, byP, byApp, byLen, bySeq, strMk]; with_reducible rfl); (· exact HN); (· first | rfl | (simp only [moOk, nbeq, nble, List.length_nil, beq_self_eq_true, Bool.true_and, Bool.and_true, Bool.and_eq_true, decide_eq_true_eq]; omega)); (· simp only [vcA, Nat.reduceLT, Int.reduceEq, Int.reduceAdd, Int.reduceSub, Nat.reduceBEq, Nat.reduceEqDiff, reduceCtorEq, Nat.reduceAdd, Nat.reduceSub, Nat.reduceMul, Nat.reduceLeDiff, Int.reduceToNat, Int.reduceLT, Int.reduceLE, Int.reduceNeg, reduceIte, pvC_fgt, pvC_ids, pvC_ren, pvC_len, I, S, tv, nv, tyT, RawV.tv, R1.row, rowsGet, rowsLen, row4, Vk, Vn, Vs, Vl, byP, byApp, byLen, bySeq, strMk]; with_reducible rfl)
    simp only [vcA, Nat.reduceLT, Int.reduceEq, Int.reduceAdd, Int.reduceSub, Nat.reduceBEq, Nat.reduceEqDiff, reduceCtorEq, Nat.reduceAdd, Nat.reduceSub, Nat.reduceMul, Nat.reduceLeDiff, Int.reduceToNat, Int.reduceLT, Int.reduceLE, Int.reduceNeg, reduceIte, pvC_fgt, pvC_ids, pvC_ren, pvC_len, I, S, tv, nv, tyT, RawV.tv, R1.row, rowsGet, rowsLen, row4, Vk, Vn, Vs, Vl, byP, byApp, byLen, bySeq, strMk]
    exact ⟨by omega, by omega⟩
  by_cases e4 : x.k = 4
  · have nk := num_length 4
    rw [show enc1 x = num x.k ++ num x.n by unfold enc1; rw [if_pos (by omega)]]
    simp only [vcA, Nat.reduceLT, Int.reduceEq, Int.reduceAdd, Int.reduceSub, Nat.reduceBEq, Nat.reduceEqDiff, reduceCtorEq, Nat.reduceAdd, Nat.reduceSub, Nat.reduceMul, Nat.reduceLeDiff, Int.reduceToNat, Int.reduceLT, Int.reduceLE, Int.reduceNeg, reduceIte, pvC_fgt, pvC_ids, pvC_ren, pvC_len, I, S, tv, nv, tyT, RawV.tv, R1.row, rowsGet, rowsLen, row4, Vk, Vn, Vs, Vl, byP, byApp, byLen, bySeq, strMk, e4, List.nil_append, Nat.zero_add]
    refine ⟨⟨by omega, by omega⟩, .inl ?_⟩
    (with_reducible apply v_call); (· simp only [vcA, Nat.reduceLT, Int.reduceEq, Int.reduceAdd, Int.reduceSub, Nat.reduceBEq, Nat.reduceEqDiff, reduceCtorEq, Nat.reduceAdd, Nat.reduceSub, Nat.reduceMul, Nat.reduceLeDiff, Int.reduceToNat, Int.reduceLT, Int.reduceLE, Int.reduceNeg, reduceIte, pvC_fgt, pvC_ids, pvC_ren, pvC_len, I, S, tv, nv, tyT, RawV.tv, R1.row, rowsGet, rowsLen, row4, Vk, Vn, Vs, Vl, byP, byApp, byLen, bySeq, strMk]; with_reducible rfl); (· exact HN); (· first | rfl | (simp only [moOk, nbeq, nble, List.length_nil, beq_self_eq_true, Bool.true_and, Bool.and_true, Bool.and_eq_true, decide_eq_true_eq]; omega)); (· simp only [vcA, Nat.reduceLT, Int.reduceEq, Int.reduceAdd, Int.reduceSub, Nat.reduceBEq, Nat.reduceEqDiff, reduceCtorEq, Nat.reduceAdd, Nat.reduceSub, Nat.reduceMul, Nat.reduceLeDiff, Int.reduceToNat, Int.reduceLT, Int.reduceLE, Int.reduceNeg, reduceIte, pvC_fgt, pvC_ids, pvC_ren, pvC_len, I, S, tv, nv, tyT, RawV.tv, R1.row, rowsGet, rowsLen, row4, Vk, Vn, Vs, Vl, byP, byApp, byLen, bySeq, strMk]; with_reducible rfl)
    simp only [vcA, Nat.reduceLT, Int.reduceEq, Int.reduceAdd, Int.reduceSub, Nat.reduceBEq, Nat.reduceEqDiff, reduceCtorEq, Nat.reduceAdd, Nat.reduceSub, Nat.reduceMul, Nat.reduceLeDiff, Int.reduceToNat, Int.reduceLT, Int.reduceLE, Int.reduceNeg, reduceIte, pvC_fgt, pvC_ids, pvC_ren, pvC_len, I, S, tv, nv, tyT, RawV.tv, R1.row, rowsGet, rowsLen, row4, Vk, Vn, Vs, Vl, byP, byApp, byLen, bySeq, strMk]
    exact ⟨by omega, by omega⟩
  by_cases e2 : x.k = 2
  · have nk := num_length 2
    have tk := text_len hs
    rw [show enc1 x = num x.k ++ text x.s by unfold enc1; rw [if_neg (by omega), if_pos e2]]
    simp only [vcA, Nat.reduceLT, Int.reduceEq, Int.reduceAdd, Int.reduceSub, Nat.reduceBEq, Nat.reduceEqDiff, reduceCtorEq, Nat.reduceAdd, Nat.reduceSub, Nat.reduceMul, Nat.reduceLeDiff, Int.reduceToNat, Int.reduceLT, Int.reduceLE, Int.reduceNeg, reduceIte, pvC_fgt, pvC_ids, pvC_ren, pvC_len, I, S, tv, nv, tyT, RawV.tv, R1.row, rowsGet, rowsLen, row4, Vk, Vn, Vs, Vl, byP, byApp, byLen, bySeq, strMk, e2, List.nil_append, Nat.zero_add]
    refine ⟨⟨by omega, by omega⟩, ?_⟩
    (with_reducible apply v_call); (· simp only [vcA, Nat.reduceLT, Int.reduceEq, Int.reduceAdd, Int.reduceSub, Nat.reduceBEq, Nat.reduceEqDiff, reduceCtorEq, Nat.reduceAdd, Nat.reduceSub, Nat.reduceMul, Nat.reduceLeDiff, Int.reduceToNat, Int.reduceLT, Int.reduceLE, Int.reduceNeg, reduceIte, pvC_fgt, pvC_ids, pvC_ren, pvC_len, I, S, tv, nv, tyT, RawV.tv, R1.row, rowsGet, rowsLen, row4, Vk, Vn, Vs, Vl, byP, byApp, byLen, bySeq, strMk]; with_reducible rfl); (· exact text_ok a0 a1 m x.s (by omega)); (· first | rfl | (simp only [moOk, nbeq, nble, List.length_nil, beq_self_eq_true, Bool.true_and, Bool.and_true, Bool.and_eq_true, decide_eq_true_eq]; omega)); (· simp only [vcA, Nat.reduceLT, Int.reduceEq, Int.reduceAdd, Int.reduceSub, Nat.reduceBEq, Nat.reduceEqDiff, reduceCtorEq, Nat.reduceAdd, Nat.reduceSub, Nat.reduceMul, Nat.reduceLeDiff, Int.reduceToNat, Int.reduceLT, Int.reduceLE, Int.reduceNeg, reduceIte, pvC_fgt, pvC_ids, pvC_ren, pvC_len, I, S, tv, nv, tyT, RawV.tv, R1.row, rowsGet, rowsLen, row4, Vk, Vn, Vs, Vl, byP, byApp, byLen, bySeq, strMk]; with_reducible rfl)
    simp only [vcA, Nat.reduceLT, Int.reduceEq, Int.reduceAdd, Int.reduceSub, Nat.reduceBEq, Nat.reduceEqDiff, reduceCtorEq, Nat.reduceAdd, Nat.reduceSub, Nat.reduceMul, Nat.reduceLeDiff, Int.reduceToNat, Int.reduceLT, Int.reduceLE, Int.reduceNeg, reduceIte, pvC_fgt, pvC_ids, pvC_ren, pvC_len, I, S, tv, nv, tyT, RawV.tv, R1.row, rowsGet, rowsLen, row4, Vk, Vn, Vs, Vl, byP, byApp, byLen, bySeq, strMk]
    exact ⟨by omega, by omega⟩
  rw [show enc1 x = num x.k by unfold enc1; rw [if_neg (by omega), if_neg e2, List.append_nil]]
  simp only [vcA, Nat.reduceLT, Int.reduceEq, Int.reduceAdd, Int.reduceSub, Nat.reduceBEq, Nat.reduceEqDiff, reduceCtorEq, Nat.reduceAdd, Nat.reduceSub, Nat.reduceMul, Nat.reduceLeDiff, Int.reduceToNat, Int.reduceLT, Int.reduceLE, Int.reduceNeg, reduceIte, pvC_fgt, pvC_ids, pvC_ren, pvC_len, I, S, tv, nv, tyT, RawV.tv, R1.row, rowsGet, rowsLen, row4, Vk, Vn, Vs, Vl, byP, byApp, byLen, bySeq, strMk, e1, e2, e3, e4, h5, List.nil_append, Nat.zero_add]
  exact ⟨by omega, by omega⟩
theorem enc1_len {x : V} (hs : x.s.length ≤ 60) : (enc1 x).length ≤ 80 := by
  have h1 := num_length x.k
  have h2 := num_length x.n
  have h3 := text_len hs
  unfold enc1
  rw [List.length_append]
  split
  · omega
  split
  · omega
  · simp; omega
/-- What may be laid as bytes. -/
def V1Ok (x : V) : Prop := I64 x.k ∧ I64 x.n ∧ x.s.length ≤ 60
def encTo (l : List V) (i : Nat) : List UInt8 := num 5 ++ num l.length ++ (l.take i).flatMap enc1
theorem encTo_succ {l : List V} {i : Nat} {y : V} (h : l[i]? = some y) : encTo l (i + 1) = encTo l i ++ enc1 y := by
  unfold encTo; rw [List.take_add_one, h]; simp
theorem encTo_len {l : List V} (h : ∀ y ∈ l, y.s.length ≤ 60) : ∀ i, (encTo l i).length ≤ 20 + i * 80
  | 0 => by have h1 := num_length 5; have h2 := num_length l.length; simp [encTo]; omega
  | i + 1 => by
    have ih := encTo_len h i
    cases hy : l[i]? with
    | none =>
      have : encTo l (i + 1) = encTo l i := by unfold encTo; rw [List.take_add_one, hy]; simp
      rw [this]; omega
    | some y =>
      have := enc1_len (h y (List.mem_of_getElem? hy))
      rw [encTo_succ hy, List.length_append]; omega
theorem lay_nilL (a0 a1 : Addr) (m : Nat) (x : V) (h5 : x.k = 5) (hl : x.l.length ≤ 12) (hx : ∀ y ∈ x.l, V1Ok y ∧ y.k ≠ 5) :
    SCalls Tryz.prog (gl a0 a1 m) 58 [nilT, tv x] [] (.own 1000 1 (byR (encTo x.l x.l.length))) [.row 5 1 (encTo x.l x.l.length).length] := by
  have HK := num_ok a0 a1 m 5 (by unfold I64; decide)
  have HN := num_ok a0 a1 m x.l.length (by unfold I64; omega)
  have lk' := num_length 5
  have ln := num_length x.l.length
  have hm : maxLen = 9223372036854775807 := rfl
  have hL := encTo_len (l := x.l) (fun y hy => (hx y hy).1.2.2)
  refine call_of hmix tf_val_lay rfl rfl (by simp [moOk, nble]) ?_
  simp only [vcA, Nat.reduceLT, Int.reduceEq, Int.reduceAdd, Int.reduceSub, Nat.reduceBEq, Nat.reduceEqDiff, reduceCtorEq, Nat.reduceAdd, Nat.reduceSub, Nat.reduceMul, Nat.reduceLeDiff, Int.reduceToNat, Int.reduceLT, Int.reduceLE, Int.reduceNeg, reduceIte, pvC_fgt, pvC_ids, pvC_ren, pvC_len, I, S, tv, nv, tyT, RawV.tv, R1.row, rowsGet, rowsLen, row4, Vk, Vn, Vs, Vl, nilT, h5]
  refine .inr ?_
  (with_reducible apply v_call); (· simp only [vcA, Nat.reduceLT, Int.reduceEq, Int.reduceAdd, Int.reduceSub, Nat.reduceBEq, Nat.reduceEqDiff, reduceCtorEq, Nat.reduceAdd, Nat.reduceSub, Nat.reduceMul, Nat.reduceLeDiff, Int.reduceToNat, Int.reduceLT, Int.reduceLE, Int.reduceNeg, reduceIte, pvC_fgt, pvC_ids, pvC_ren, pvC_len, I, S, tv, nv, tyT, RawV.tv, R1.row, rowsGet, rowsLen, row4, Vk, Vn, Vs, Vl, byP, byApp, byLen, bySeq, strMk]; with_reducible rfl); (· exact HK); (· first | rfl | (simp only [moOk, nbeq, nble, List.length_nil, beq_self_eq_true, Bool.true_and, Bool.and_true, Bool.and_eq_true, decide_eq_true_eq]; omega)); (· simp only [vcA, Nat.reduceLT, Int.reduceEq, Int.reduceAdd, Int.reduceSub, Nat.reduceBEq, Nat.reduceEqDiff, reduceCtorEq, Nat.reduceAdd, Nat.reduceSub, Nat.reduceMul, Nat.reduceLeDiff, Int.reduceToNat, Int.reduceLT, Int.reduceLE, Int.reduceNeg, reduceIte, pvC_fgt, pvC_ids, pvC_ren, pvC_len, I, S, tv, nv, tyT, RawV.tv, R1.row, rowsGet, rowsLen, row4, Vk, Vn, Vs, Vl, byP, byApp, byLen, bySeq, strMk]; with_reducible rfl)
  simp only [vcA, Nat.reduceLT, Int.reduceEq, Int.reduceAdd, Int.reduceSub, Nat.reduceBEq, Nat.reduceEqDiff, reduceCtorEq, Nat.reduceAdd, Nat.reduceSub, Nat.reduceMul, Nat.reduceLeDiff, Int.reduceToNat, Int.reduceLT, Int.reduceLE, Int.reduceNeg, reduceIte, pvC_fgt, pvC_ids, pvC_ren, pvC_len, I, S, tv, nv, tyT, RawV.tv, R1.row, rowsGet, rowsLen, row4, Vk, Vn, Vs, Vl, byP, byApp, byLen, bySeq, strMk]
  refine ⟨⟨by omega, by omega⟩, .inl ?_⟩
  (with_reducible apply v_call); (· simp only [vcA, Nat.reduceLT, Int.reduceEq, Int.reduceAdd, Int.reduceSub, Nat.reduceBEq, Nat.reduceEqDiff, reduceCtorEq, Nat.reduceAdd, Nat.reduceSub, Nat.reduceMul, Nat.reduceLeDiff, Int.reduceToNat, Int.reduceLT, Int.reduceLE, Int.reduceNeg, reduceIte, pvC_fgt, pvC_ids, pvC_ren, pvC_len, I, S, tv, nv, tyT, RawV.tv, R1.row, rowsGet, rowsLen, row4, Vk, Vn, Vs, Vl, byP, byApp, byLen, bySeq, strMk]; with_reducible rfl); (· exact HN); (· first | rfl | (simp only [moOk, nbeq, nble, List.length_nil, beq_self_eq_true, Bool.true_and, Bool.and_true, Bool.and_eq_true, decide_eq_true_eq]; omega)); (· simp only [vcA, Nat.reduceLT, Int.reduceEq, Int.reduceAdd, Int.reduceSub, Nat.reduceBEq, Nat.reduceEqDiff, reduceCtorEq, Nat.reduceAdd, Nat.reduceSub, Nat.reduceMul, Nat.reduceLeDiff, Int.reduceToNat, Int.reduceLT, Int.reduceLE, Int.reduceNeg, reduceIte, pvC_fgt, pvC_ids, pvC_ren, pvC_len, I, S, tv, nv, tyT, RawV.tv, R1.row, rowsGet, rowsLen, row4, Vk, Vn, Vs, Vl, byP, byApp, byLen, bySeq, strMk]; with_reducible rfl)
  simp only [vcA, Nat.reduceLT, Int.reduceEq, Int.reduceAdd, Int.reduceSub, Nat.reduceBEq, Nat.reduceEqDiff, reduceCtorEq, Nat.reduceAdd, Nat.reduceSub, Nat.reduceMul, Nat.reduceLeDiff, Int.reduceToNat, Int.reduceLT, Int.reduceLE, Int.reduceNeg, reduceIte, pvC_fgt, pvC_ids, pvC_ren, pvC_len, I, S, tv, nv, tyT, RawV.tv, R1.row, rowsGet, rowsLen, row4, Vk, Vn, Vs, Vl, byP, byApp, byLen, bySeq, strMk]
  refine ⟨⟨by omega, by omega⟩, ?_⟩
  have e0 : encTo x.l 0 = num 5 ++ num x.l.length := by simp [encTo]
  refine v_loop (σ := { i : Nat // i ≤ x.l.length })
    (fun i => ⟨[(0, .own 13 1 (byR (encTo x.l i.1))), (45, .pv (.sl 4 (V.rows x.l))), (46, I (x.l.length : Int)), (47, I (i.1 : Int))], [], [(13, (5, 1, (encTo x.l i.1).length))], []⟩)
    (fun i => x.l.length - i.1) ⟨0, Nat.zero_le _⟩ ?_ ?_
  · simp only [e0, List.length_append]
    apply lw_of <;> simp [leL, lk, sv, Nat.beq, I, S, ES.kill, has, drp, nilT]
  rintro ⟨i, hi⟩
  have hLi := hL i
  simp only [vcA, Nat.reduceLT, Int.reduceEq, Int.reduceAdd, Int.reduceSub, Nat.reduceBEq, Nat.reduceEqDiff, reduceCtorEq, Nat.reduceAdd, Nat.reduceSub, Nat.reduceMul, Nat.reduceLeDiff, Int.reduceToNat, Int.reduceLT, Int.reduceLE, Int.reduceNeg, reduceIte, pvC_fgt, pvC_ids, pvC_ren, pvC_len, I, S, tv, nv, tyT, RawV.tv, R1.row, rowsGet, rowsLen, row4, Vk, Vn, Vs, Vl, byP, byApp, byLen, bySeq, strMk]
  refine ⟨fun hlt => ⟨by omega, fun y hy => ?_⟩, fun hge => ?_⟩
  · obtain ⟨⟨o1, o2, o3⟩, o4⟩ := hx y (List.mem_of_getElem? hy)
    have hH := lay_one a0 a1 m y (encTo x.l i) o1 o2 o3 o4 (by omega)
    have hle : (encTo x.l i).length ≤ (encTo x.l (i + 1)).length := by rw [encTo_succ hy]; simp
    have hle0 : Nat.ble 0 4 = true := rfl
    rw [← encTo_succ hy] at hH
    (with_reducible apply v_call); (· simp only [vcA, Nat.reduceLT, Int.reduceEq, Int.reduceAdd, Int.reduceSub, Nat.reduceBEq, Nat.reduceEqDiff, reduceCtorEq, Nat.reduceAdd, Nat.reduceSub, Nat.reduceMul, Nat.reduceLeDiff, Int.reduceToNat, Int.reduceLT, Int.reduceLE, Int.reduceNeg, reduceIte, pvC_fgt, pvC_ids, pvC_ren, pvC_len, I, S, tv, nv, tyT, RawV.tv, R1.row, rowsGet, rowsLen, row4, Vk, Vn, Vs, Vl, byP, byApp, byLen, bySeq, strMk]; with_reducible rfl); (· exact hH); (· first | rfl | (simp only [moOk, nbeq, nble, List.length_nil, beq_self_eq_true, Bool.true_and, Bool.and_true, Bool.and_eq_true, decide_eq_true_eq]; omega)); (· simp only [vcA, Nat.reduceLT, Int.reduceEq, Int.reduceAdd, Int.reduceSub, Nat.reduceBEq, Nat.reduceEqDiff, reduceCtorEq, Nat.reduceAdd, Nat.reduceSub, Nat.reduceMul, Nat.reduceLeDiff, Int.reduceToNat, Int.reduceLT, Int.reduceLE, Int.reduceNeg, reduceIte, pvC_fgt, pvC_ids, pvC_ren, pvC_len, I, S, tv, nv, tyT, RawV.tv, R1.row, rowsGet, rowsLen, row4, Vk, Vn, Vs, Vl, byP, byApp, byLen, bySeq, strMk]; with_reducible rfl)
    simp only [vcA, Nat.reduceLT, Int.reduceEq, Int.reduceAdd, Int.reduceSub, Nat.reduceBEq, Nat.reduceEqDiff, reduceCtorEq, Nat.reduceAdd, Nat.reduceSub, Nat.reduceMul, Nat.reduceLeDiff, Int.reduceToNat, Int.reduceLT, Int.reduceLE, Int.reduceNeg, reduceIte, pvC_fgt, pvC_ids, pvC_ren, pvC_len, I, S, tv, nv, tyT, RawV.tv, R1.row, rowsGet, rowsLen, row4, Vk, Vn, Vs, Vl, byP, byApp, byLen, bySeq, strMk]
    refine loopK_of ⟨i + 1, by omega⟩ (by show x.l.length - (i + 1) < x.l.length - i; omega) ?_
    have w1 : IntKind.i64.wrap ((i : Int) + 1) = (i : Int) + 1 := wrap64 (by omega) (by omega)
    apply lw_of <;> simp [leL, lk, sv, Nat.beq, I, S, ES.kill, has, drp, nilT, w1]
  · obtain rfl : i = x.l.length := by omega
    trivial
end Go.Proofs.YthjphllpkcnehaaGreatDoor
end
