/- Merged texts: Zy8 Zy3 Pz1 PRead Aw1 Zk1 Pz2 Zc1. No statement of the program is proved here. -/
import Derived.Test.YtdlolkogifigpaaDoorM5
set_option linter.unusedSimpArgs false
set_option linter.unusedVariables false
section
/- Decode, walked. No statement of the program is proved here. -/
namespace Go.Proofs.YtdlolkogifigpaaDoor
open Go Go.RowKit Go.Mor Go.Sh Go.Sh.Cd1
set_option maxRecDepth 100000
set_option maxHeartbeats 2000000
theorem wk_tuple2 {a b c : TV} (h : Wk a b) : Wk (.tuple [a, c]) (.tuple [b, c]) := by
  intro w E r v hr
  cases hr with
  | tuple cs vs hl hv =>
    refine .tuple _ vs (by simpa using hl) (fun j d v hd hv' => ?_)
    match j with
    | 0 => simp at hd; subst hd; exact h w E r v (hv 0 _ v rfl hv')
    | 1 => simp at hd; subst hd; exact hv 1 _ v rfl hv'
    | j + 2 => simp at hd
theorem dRest_l {s : List UInt8} {k b c : Int} {v : V} (h : dRest s k b = .ok (v, c)) : v.l = [] := by
  unfold dRest at h
  by_cases e1 : k = 1
  · rw [if_pos e1] at h
    cases hn : dNum s b (-1000000000000000) 1000000000000000 with
    | error e => rw [hn] at h; cases h
    | ok q => rw [hn] at h; cases h; rfl
  rw [if_neg e1] at h
  by_cases e2 : k = 2
  · rw [if_pos e2] at h
    cases hn : dText s b with
    | error e => rw [hn] at h; cases h
    | ok q => rw [hn] at h; cases h; rfl
  rw [if_neg e2] at h
  by_cases e3 : k = 3 ∨ k = 4
  · rw [if_pos e3] at h
    cases hn : dNum s b (-20) 100000 with
    | error e => rw [hn] at h; cases h
    | ok q =>
      obtain ⟨n, c'⟩ := q
      rw [hn] at h
      simp only [] at h
      by_cases hz : n = 0
      · rw [if_pos hz] at h; cases h
      · rw [if_neg hz] at h; cases h; rfl
  rw [if_neg e3] at h; cases h; rfl
theorem val5_ok (a0 a1 : Addr) (m : Nat) (s : List UInt8) (a : Int) (hs : SmallS s) (ha : I64 a) {v : V} {c : Int} (h : dVal s a = .ok (v, c)) :
    SCalls Tryd.prog (gl a0 a1 m) 60 [.ptr 1000 0, I 5] [dec s a] (.tuple [tv v, I 0]) [dec s c] := by
  unfold dVal at h
  cases hk : dNum s a 0 5 with
  | error e => rw [hk] at h; cases h
  | ok q =>
    obtain ⟨k, b⟩ := q
    rw [hk] at h
    simp only [] at h
    by_cases h5 : k = 5
    · rw [if_pos h5] at h
      subst h5
      cases hi : dItems s b with
      | error e => rw [hi] at h; cases h
      | ok q =>
        obtain ⟨l, c'⟩ := q
        rw [hi] at h; cases h
        have HK := number_ok a0 a1 m s a 0 5 hs ha hk
        have HI := items_ok a0 a1 m s b hs (dNum_pos hs hk).1 hi
        refine call_of hmix tf___val_decoder__value rfl rfl rfl ?_
        unfold dec at HK HI ⊢
        simp only [vcA, Nat.reduceLT, Int.reduceEq, Int.reduceAdd, Int.reduceSub, Nat.reduceBEq, Nat.reduceEqDiff, reduceCtorEq, Nat.reduceAdd, Nat.reduceSub, Nat.reduceMul, Nat.reduceLeDiff, Int.reduceToNat, Int.reduceLT, Int.reduceLE, Int.reduceNeg, reduceIte, I, S, tv, nv, tyT, RawV.tv, R1.row, rowsGet, rowsLen, row4, Vk, Vn, Vs, Vl]
        (with_reducible apply v_call); (· simp only [vcA, Nat.reduceLT, Int.reduceEq, Int.reduceAdd, Int.reduceSub, Nat.reduceBEq, Nat.reduceEqDiff, reduceCtorEq, Nat.reduceAdd, Nat.reduceSub, Nat.reduceMul, Nat.reduceLeDiff, Int.reduceToNat, Int.reduceLT, Int.reduceLE, Int.reduceNeg, reduceIte, I, S, tv, nv, tyT, RawV.tv, R1.row, rowsGet, rowsLen, row4, Vk, Vn, Vs, Vl]; with_reducible rfl); (· exact HK); (· first | rfl | (simp only [moOk, nbeq, nble, List.length_nil, beq_self_eq_true, Bool.true_and, Bool.and_true, Bool.and_eq_true, decide_eq_true_eq]; omega)); (· simp only [vcA, Nat.reduceLT, Int.reduceEq, Int.reduceAdd, Int.reduceSub, Nat.reduceBEq, Nat.reduceEqDiff, reduceCtorEq, Nat.reduceAdd, Nat.reduceSub, Nat.reduceMul, Nat.reduceLeDiff, Int.reduceToNat, Int.reduceLT, Int.reduceLE, Int.reduceNeg, reduceIte, I, S, tv, nv, tyT, RawV.tv, R1.row, rowsGet, rowsLen, row4, Vk, Vn, Vs, Vl]; with_reducible rfl)
        simp only [vcA, Nat.reduceLT, Int.reduceEq, Int.reduceAdd, Int.reduceSub, Nat.reduceBEq, Nat.reduceEqDiff, reduceCtorEq, Nat.reduceAdd, Nat.reduceSub, Nat.reduceMul, Nat.reduceLeDiff, Int.reduceToNat, Int.reduceLT, Int.reduceLE, Int.reduceNeg, reduceIte, I, S, tv, nv, tyT, RawV.tv, R1.row, rowsGet, rowsLen, row4, Vk, Vn, Vs, Vl]
        (with_reducible apply v_call); (· simp only [vcA, Nat.reduceLT, Int.reduceEq, Int.reduceAdd, Int.reduceSub, Nat.reduceBEq, Nat.reduceEqDiff, reduceCtorEq, Nat.reduceAdd, Nat.reduceSub, Nat.reduceMul, Nat.reduceLeDiff, Int.reduceToNat, Int.reduceLT, Int.reduceLE, Int.reduceNeg, reduceIte, I, S, tv, nv, tyT, RawV.tv, R1.row, rowsGet, rowsLen, row4, Vk, Vn, Vs, Vl]; with_reducible rfl); (· exact HI); (· first | rfl | (simp only [moOk, nbeq, nble, List.length_nil, beq_self_eq_true, Bool.true_and, Bool.and_true, Bool.and_eq_true, decide_eq_true_eq]; omega)); (· simp only [vcA, Nat.reduceLT, Int.reduceEq, Int.reduceAdd, Int.reduceSub, Nat.reduceBEq, Nat.reduceEqDiff, reduceCtorEq, Nat.reduceAdd, Nat.reduceSub, Nat.reduceMul, Nat.reduceLeDiff, Int.reduceToNat, Int.reduceLT, Int.reduceLE, Int.reduceNeg, reduceIte, I, S, tv, nv, tyT, RawV.tv, R1.row, rowsGet, rowsLen, row4, Vk, Vn, Vs, Vl]; with_reducible rfl)
        simp only [vcA, Nat.reduceLT, Int.reduceEq, Int.reduceAdd, Int.reduceSub, Nat.reduceBEq, Nat.reduceEqDiff, reduceCtorEq, Nat.reduceAdd, Nat.reduceSub, Nat.reduceMul, Nat.reduceLeDiff, Int.reduceToNat, Int.reduceLT, Int.reduceLE, Int.reduceNeg, reduceIte, I, S, tv, nv, tyT, RawV.tv, R1.row, rowsGet, rowsLen, row4, Vk, Vn, Vs, Vl]
        rfl
    · rw [if_neg h5] at h
      exact (value1_ok a0 a1 m s a 5 hs ha hk h5 h).out (wk_tuple2 (nv_tv (dRest_l h)))
theorem val5_err (a0 a1 : Addr) (m : Nat) (s : List UInt8) (a : Int) (hs : SmallS s) (ha : I64 a) {e : Int} (h : dVal s a = .error e) :
    (∃ c, SCalls Tryd.prog (gl a0 a1 m) 60 [.ptr 1000 0, I 5] [dec s a] (.tuple [nv V.nil, I e]) [dec s c]) ∧ e ≠ 0 := by
  unfold dVal at h
  cases hk : dNum s a 0 5 with
  | error e =>
    rw [hk] at h; cases h
    have := value_err0 a0 a1 m s a 5 hs ha hk
    exact ⟨⟨a, this.1⟩, this.2⟩
  | ok q =>
    obtain ⟨k, b⟩ := q
    rw [hk] at h
    simp only [] at h
    by_cases h5 : k = 5
    · rw [if_pos h5] at h
      subst h5
      cases hi : dItems s b with
      | ok q => rw [hi] at h; cases h
      | error e =>
        rw [hi] at h; cases h
        have HK := number_ok a0 a1 m s a 0 5 hs ha hk
        obtain ⟨⟨c, HI⟩, he⟩ := items_err a0 a1 m s b hs (dNum_pos hs hk).1 hi
        refine ⟨⟨c, call_of hmix tf___val_decoder__value rfl rfl rfl ?_⟩, he⟩
        unfold dec at HK HI ⊢
        simp only [vcA, Nat.reduceLT, Int.reduceEq, Int.reduceAdd, Int.reduceSub, Nat.reduceBEq, Nat.reduceEqDiff, reduceCtorEq, Nat.reduceAdd, Nat.reduceSub, Nat.reduceMul, Nat.reduceLeDiff, Int.reduceToNat, Int.reduceLT, Int.reduceLE, Int.reduceNeg, reduceIte, I, S, tv, nv, tyT, RawV.tv, R1.row, rowsGet, rowsLen, row4, Vk, Vn, Vs, Vl]
        (with_reducible apply v_call); (· simp only [vcA, Nat.reduceLT, Int.reduceEq, Int.reduceAdd, Int.reduceSub, Nat.reduceBEq, Nat.reduceEqDiff, reduceCtorEq, Nat.reduceAdd, Nat.reduceSub, Nat.reduceMul, Nat.reduceLeDiff, Int.reduceToNat, Int.reduceLT, Int.reduceLE, Int.reduceNeg, reduceIte, I, S, tv, nv, tyT, RawV.tv, R1.row, rowsGet, rowsLen, row4, Vk, Vn, Vs, Vl]; with_reducible rfl); (· exact HK); (· first | rfl | (simp only [moOk, nbeq, nble, List.length_nil, beq_self_eq_true, Bool.true_and, Bool.and_true, Bool.and_eq_true, decide_eq_true_eq]; omega)); (· simp only [vcA, Nat.reduceLT, Int.reduceEq, Int.reduceAdd, Int.reduceSub, Nat.reduceBEq, Nat.reduceEqDiff, reduceCtorEq, Nat.reduceAdd, Nat.reduceSub, Nat.reduceMul, Nat.reduceLeDiff, Int.reduceToNat, Int.reduceLT, Int.reduceLE, Int.reduceNeg, reduceIte, I, S, tv, nv, tyT, RawV.tv, R1.row, rowsGet, rowsLen, row4, Vk, Vn, Vs, Vl]; with_reducible rfl)
        simp only [vcA, Nat.reduceLT, Int.reduceEq, Int.reduceAdd, Int.reduceSub, Nat.reduceBEq, Nat.reduceEqDiff, reduceCtorEq, Nat.reduceAdd, Nat.reduceSub, Nat.reduceMul, Nat.reduceLeDiff, Int.reduceToNat, Int.reduceLT, Int.reduceLE, Int.reduceNeg, reduceIte, I, S, tv, nv, tyT, RawV.tv, R1.row, rowsGet, rowsLen, row4, Vk, Vn, Vs, Vl]
        (with_reducible apply v_call); (· simp only [vcA, Nat.reduceLT, Int.reduceEq, Int.reduceAdd, Int.reduceSub, Nat.reduceBEq, Nat.reduceEqDiff, reduceCtorEq, Nat.reduceAdd, Nat.reduceSub, Nat.reduceMul, Nat.reduceLeDiff, Int.reduceToNat, Int.reduceLT, Int.reduceLE, Int.reduceNeg, reduceIte, I, S, tv, nv, tyT, RawV.tv, R1.row, rowsGet, rowsLen, row4, Vk, Vn, Vs, Vl, nilT]; with_reducible rfl); (· exact HI); (· first | rfl | (simp only [moOk, nbeq, nble, List.length_nil, beq_self_eq_true, Bool.true_and, Bool.and_true, Bool.and_eq_true, decide_eq_true_eq]; omega)); (· simp only [vcA, Nat.reduceLT, Int.reduceEq, Int.reduceAdd, Int.reduceSub, Nat.reduceBEq, Nat.reduceEqDiff, reduceCtorEq, Nat.reduceAdd, Nat.reduceSub, Nat.reduceMul, Nat.reduceLeDiff, Int.reduceToNat, Int.reduceLT, Int.reduceLE, Int.reduceNeg, reduceIte, I, S, tv, nv, tyT, RawV.tv, R1.row, rowsGet, rowsLen, row4, Vk, Vn, Vs, Vl, nilT]; with_reducible rfl)
        simp only [vcA, Nat.reduceLT, Int.reduceEq, Int.reduceAdd, Int.reduceSub, Nat.reduceBEq, Nat.reduceEqDiff, reduceCtorEq, Nat.reduceAdd, Nat.reduceSub, Nat.reduceMul, Nat.reduceLeDiff, Int.reduceToNat, Int.reduceLT, Int.reduceLE, Int.reduceNeg, reduceIte, I, S, tv, nv, tyT, RawV.tv, R1.row, rowsGet, rowsLen, row4, Vk, Vn, Vs, Vl, he]
        rfl
    · rw [if_neg h5] at h
      exact value1_err a0 a1 m s a 5 hs ha hk h5 h
theorem decode_ok (a0 a1 : Addr) (m : Nat) (s : List UInt8) (a : Int) (hs : SmallS s) (ha : 0 ≤ a) (hb : a ≤ s.length) {v : V} {c : Int} (h : dVal s a = .ok (v, c)) :
    SCalls Tryd.prog (gl a0 a1 m) 29 [S (str s), I a] [] (.tuple [tv v, I c, I 0]) [] := by
  have hs' : s.length < 1125899906842624 := hs
  have HV := val5_ok a0 a1 m s a hs (by unfold I64; omega) h
  refine call_of0 hmix tf_val_Decode rfl ?_
  have l1 : ¬ a < 0 := by omega
  have l2 : ¬ (s.length : Int) < a := by omega
  unfold dec at HV
  simp only [vcA, Nat.reduceLT, Int.reduceEq, Int.reduceAdd, Int.reduceSub, Nat.reduceBEq, Nat.reduceEqDiff, reduceCtorEq, Nat.reduceAdd, Nat.reduceSub, Nat.reduceMul, Nat.reduceLeDiff, Int.reduceToNat, Int.reduceLT, Int.reduceLE, Int.reduceNeg, reduceIte, I, S, tv, nv, tyT, RawV.tv, R1.row, rowsGet, rowsLen, row4, Vk, Vn, Vs, Vl, l1, l2]
  (with_reducible apply v_call); (· simp only [vcA, Nat.reduceLT, Int.reduceEq, Int.reduceAdd, Int.reduceSub, Nat.reduceBEq, Nat.reduceEqDiff, reduceCtorEq, Nat.reduceAdd, Nat.reduceSub, Nat.reduceMul, Nat.reduceLeDiff, Int.reduceToNat, Int.reduceLT, Int.reduceLE, Int.reduceNeg, reduceIte, I, S, tv, nv, tyT, RawV.tv, R1.row, rowsGet, rowsLen, row4, Vk, Vn, Vs, Vl]; with_reducible rfl); (· exact HV); (· first | rfl | (simp only [moOk, nbeq, nble, List.length_nil, beq_self_eq_true, Bool.true_and, Bool.and_true, Bool.and_eq_true, decide_eq_true_eq]; omega)); (· simp only [vcA, Nat.reduceLT, Int.reduceEq, Int.reduceAdd, Int.reduceSub, Nat.reduceBEq, Nat.reduceEqDiff, reduceCtorEq, Nat.reduceAdd, Nat.reduceSub, Nat.reduceMul, Nat.reduceLeDiff, Int.reduceToNat, Int.reduceLT, Int.reduceLE, Int.reduceNeg, reduceIte, I, S, tv, nv, tyT, RawV.tv, R1.row, rowsGet, rowsLen, row4, Vk, Vn, Vs, Vl]; with_reducible rfl)
  simp only [vcA, Nat.reduceLT, Int.reduceEq, Int.reduceAdd, Int.reduceSub, Nat.reduceBEq, Nat.reduceEqDiff, reduceCtorEq, Nat.reduceAdd, Nat.reduceSub, Nat.reduceMul, Nat.reduceLeDiff, Int.reduceToNat, Int.reduceLT, Int.reduceLE, Int.reduceNeg, reduceIte, I, S, tv, nv, tyT, RawV.tv, R1.row, rowsGet, rowsLen, row4, Vk, Vn, Vs, Vl]
theorem decode_err (a0 a1 : Addr) (m : Nat) (s : List UInt8) (a : Int) (hs : SmallS s) (ha : 0 ≤ a) (hb : a ≤ s.length) {e : Int} (h : dVal s a = .error e) :
    SCalls Tryd.prog (gl a0 a1 m) 29 [S (str s), I a] [] (.tuple [nv V.nil, I 0, I e]) [] := by
  have hs' : s.length < 1125899906842624 := hs
  obtain ⟨⟨c, HV⟩, he⟩ := val5_err a0 a1 m s a hs (by unfold I64; omega) h
  refine call_of0 hmix tf_val_Decode rfl ?_
  have l1 : ¬ a < 0 := by omega
  have l2 : ¬ (s.length : Int) < a := by omega
  unfold dec at HV
  simp only [vcA, Nat.reduceLT, Int.reduceEq, Int.reduceAdd, Int.reduceSub, Nat.reduceBEq, Nat.reduceEqDiff, reduceCtorEq, Nat.reduceAdd, Nat.reduceSub, Nat.reduceMul, Nat.reduceLeDiff, Int.reduceToNat, Int.reduceLT, Int.reduceLE, Int.reduceNeg, reduceIte, I, S, tv, nv, tyT, RawV.tv, R1.row, rowsGet, rowsLen, row4, Vk, Vn, Vs, Vl, l1, l2]
  (with_reducible apply v_call); (· simp only [vcA, Nat.reduceLT, Int.reduceEq, Int.reduceAdd, Int.reduceSub, Nat.reduceBEq, Nat.reduceEqDiff, reduceCtorEq, Nat.reduceAdd, Nat.reduceSub, Nat.reduceMul, Nat.reduceLeDiff, Int.reduceToNat, Int.reduceLT, Int.reduceLE, Int.reduceNeg, reduceIte, I, S, tv, nv, tyT, RawV.tv, R1.row, rowsGet, rowsLen, row4, Vk, Vn, Vs, Vl]; with_reducible rfl); (· exact HV); (· first | rfl | (simp only [moOk, nbeq, nble, List.length_nil, beq_self_eq_true, Bool.true_and, Bool.and_true, Bool.and_eq_true, decide_eq_true_eq]; omega)); (· simp only [vcA, Nat.reduceLT, Int.reduceEq, Int.reduceAdd, Int.reduceSub, Nat.reduceBEq, Nat.reduceEqDiff, reduceCtorEq, Nat.reduceAdd, Nat.reduceSub, Nat.reduceMul, Nat.reduceLeDiff, Int.reduceToNat, Int.reduceLT, Int.reduceLE, Int.reduceNeg, reduceIte, I, S, tv, nv, tyT, RawV.tv, R1.row, rowsGet, rowsLen, row4, Vk, Vn, Vs, Vl]; with_reducible rfl)
  simp only [vcA, Nat.reduceLT, Int.reduceEq, Int.reduceAdd, Int.reduceSub, Nat.reduceBEq, Nat.reduceEqDiff, reduceCtorEq, Nat.reduceAdd, Nat.reduceSub, Nat.reduceMul, Nat.reduceLeDiff, Int.reduceToNat, Int.reduceLT, Int.reduceLE, Int.reduceNeg, reduceIte, I, S, tv, nv, tyT, RawV.tv, R1.row, rowsGet, rowsLen, row4, Vk, Vn, Vs, Vl, he]
  rfl
end Go.Proofs.YtdlolkogifigpaaDoor
end

section
/- The statements' odd. No statement of the program is proved here. -/
namespace Go.Proofs.YtdlolkogifigpaaDoor
open Go Go.RowKit Go.Mor Go.Sh Go.Sh.Cd1
set_option maxRecDepth 100000
set_option maxHeartbeats 2000000
def numsTo (i : Nat) : List V := (List.range i).map fun j : Nat => V.mk 1 (j : Int) [] []
theorem numsTo_succ (i : Nat) : numsTo (i + 1) = numsTo i ++ [V.mk 1 (i : Int) [] []] := by simp [numsTo, List.range_succ]
/-- A value one thing of which is another one. -/
def oddV (v : V) (which n : Int) (s : List UInt8) : V :=
  if pickI which 6 = 0 then .mk n v.n v.s v.l else if pickI which 6 = 1 then .mk v.k n v.s v.l else if pickI which 6 = 2 then .mk v.k v.n s v.l
  else if pickI which 6 = 3 then .mk v.k v.n v.s (v.l ++ [.mk (pickI n 7) n [] []]) else if pickI which 6 = 4 then .mk v.k v.n v.s (v.l ++ numsTo (pickI n 14).toNat) else .mk v.k v.n v.s [v]
theorem V.rows_one (v : V) : V.rows [v] = [V.row v] := rfl
theorem pwk_row (l : List V) (k n : Int) : PWk (.sl 4 (V.rows l ++ [[.v (.int .i64 k), .v (.int .i64 n), .v (.string ⟨#[]⟩), .v (.slice none 0 0)]])) (.sl 4 (V.rows (l ++ [.mk k n [] []]))) := by
  rw [rowsApp, V.row_mk]
  refine pwk_last rfl (fun j c d h1 h2 => ?_)
  match j with
  | 0 => simp at h1 h2; subst h1; subst h2; exact .refl _
  | 1 => simp at h1 h2; subst h1; subst h2; exact .refl _
  | 2 => simp at h1 h2; subst h1; subst h2; exact .refl _
  | 3 => simp at h1 h2; subst h1; subst h2; exact pwk_nil 4
  | j + 4 => simp at h1
theorem odd_ok (g : Sh.Glob) (v : V) (which n : Int) (s : List UInt8) (hw : I64 which) (hn : I64 n) (hl : v.l.length ≤ 1000) : SCalls Tryd.prog g 31 [tv v, I which, I n, S (str s)] [] (tv (oddV v which n s)) [] := by
  have HP := pickI_ok g which 6 hw (by decide)
  have hm : maxLen = 9223372036854775807 := rfl
  unfold oddV
  generalize pickI which 6 = c at HP ⊢
  by_cases h0 : c = 0
  · refine call_of1 hmix tf_morainelaw03_odd rfl rfl ?_
    simp only [vcA, Nat.reduceLT, Int.reduceEq, Int.reduceAdd, Int.reduceSub, Nat.reduceBEq, Nat.reduceEqDiff, reduceCtorEq, Nat.reduceAdd, Nat.reduceSub, Nat.reduceMul, Nat.reduceLeDiff, Int.reduceToNat, Int.reduceLT, Int.reduceLE, Int.reduceNeg, reduceIte, I, S, tv, nv, tyT, RawV.tv, R1.row, rowsGet, rowsLen, row4, Vk, Vn, Vs, Vl]
    (with_reducible apply v_call); (· simp only [vcA, Nat.reduceLT, Int.reduceEq, Int.reduceAdd, Int.reduceSub, Nat.reduceBEq, Nat.reduceEqDiff, reduceCtorEq, Nat.reduceAdd, Nat.reduceSub, Nat.reduceMul, Nat.reduceLeDiff, Int.reduceToNat, Int.reduceLT, Int.reduceLE, Int.reduceNeg, reduceIte, I, S, tv, nv, tyT, RawV.tv, R1.row, rowsGet, rowsLen, row4, Vk, Vn, Vs, Vl]; with_reducible rfl); (· exact HP); (· first | rfl | (simp only [moOk, nbeq, nble, List.length_nil, beq_self_eq_true, Bool.true_and, Bool.and_true, Bool.and_eq_true, decide_eq_true_eq]; omega)); (· simp only [vcA, Nat.reduceLT, Int.reduceEq, Int.reduceAdd, Int.reduceSub, Nat.reduceBEq, Nat.reduceEqDiff, reduceCtorEq, Nat.reduceAdd, Nat.reduceSub, Nat.reduceMul, Nat.reduceLeDiff, Int.reduceToNat, Int.reduceLT, Int.reduceLE, Int.reduceNeg, reduceIte, I, S, tv, nv, tyT, RawV.tv, R1.row, rowsGet, rowsLen, row4, Vk, Vn, Vs, Vl]; with_reducible rfl)
    simp only [vcA, Nat.reduceLT, Int.reduceEq, Int.reduceAdd, Int.reduceSub, Nat.reduceBEq, Nat.reduceEqDiff, reduceCtorEq, Nat.reduceAdd, Nat.reduceSub, Nat.reduceMul, Nat.reduceLeDiff, Int.reduceToNat, Int.reduceLT, Int.reduceLE, Int.reduceNeg, reduceIte, I, S, tv, nv, tyT, RawV.tv, R1.row, rowsGet, rowsLen, row4, Vk, Vn, Vs, Vl, h0]
  by_cases h1 : c = 1
  · refine call_of1 hmix tf_morainelaw03_odd rfl rfl ?_
    simp only [vcA, Nat.reduceLT, Int.reduceEq, Int.reduceAdd, Int.reduceSub, Nat.reduceBEq, Nat.reduceEqDiff, reduceCtorEq, Nat.reduceAdd, Nat.reduceSub, Nat.reduceMul, Nat.reduceLeDiff, Int.reduceToNat, Int.reduceLT, Int.reduceLE, Int.reduceNeg, reduceIte, I, S, tv, nv, tyT, RawV.tv, R1.row, rowsGet, rowsLen, row4, Vk, Vn, Vs, Vl]
    (with_reducible apply v_call); (· simp only [vcA, Nat.reduceLT, Int.reduceEq, Int.reduceAdd, Int.reduceSub, Nat.reduceBEq, Nat.reduceEqDiff, reduceCtorEq, Nat.reduceAdd, Nat.reduceSub, Nat.reduceMul, Nat.reduceLeDiff, Int.reduceToNat, Int.reduceLT, Int.reduceLE, Int.reduceNeg, reduceIte, I, S, tv, nv, tyT, RawV.tv, R1.row, rowsGet, rowsLen, row4, Vk, Vn, Vs, Vl]; with_reducible rfl); (· exact HP); (· first | rfl | (simp only [moOk, nbeq, nble, List.length_nil, beq_self_eq_true, Bool.true_and, Bool.and_true, Bool.and_eq_true, decide_eq_true_eq]; omega)); (· simp only [vcA, Nat.reduceLT, Int.reduceEq, Int.reduceAdd, Int.reduceSub, Nat.reduceBEq, Nat.reduceEqDiff, reduceCtorEq, Nat.reduceAdd, Nat.reduceSub, Nat.reduceMul, Nat.reduceLeDiff, Int.reduceToNat, Int.reduceLT, Int.reduceLE, Int.reduceNeg, reduceIte, I, S, tv, nv, tyT, RawV.tv, R1.row, rowsGet, rowsLen, row4, Vk, Vn, Vs, Vl]; with_reducible rfl)
    simp only [vcA, Nat.reduceLT, Int.reduceEq, Int.reduceAdd, Int.reduceSub, Nat.reduceBEq, Nat.reduceEqDiff, reduceCtorEq, Nat.reduceAdd, Nat.reduceSub, Nat.reduceMul, Nat.reduceLeDiff, Int.reduceToNat, Int.reduceLT, Int.reduceLE, Int.reduceNeg, reduceIte, I, S, tv, nv, tyT, RawV.tv, R1.row, rowsGet, rowsLen, row4, Vk, Vn, Vs, Vl, h1]
  by_cases h2 : c = 2
  · refine call_of1 hmix tf_morainelaw03_odd rfl rfl ?_
    simp only [vcA, Nat.reduceLT, Int.reduceEq, Int.reduceAdd, Int.reduceSub, Nat.reduceBEq, Nat.reduceEqDiff, reduceCtorEq, Nat.reduceAdd, Nat.reduceSub, Nat.reduceMul, Nat.reduceLeDiff, Int.reduceToNat, Int.reduceLT, Int.reduceLE, Int.reduceNeg, reduceIte, I, S, tv, nv, tyT, RawV.tv, R1.row, rowsGet, rowsLen, row4, Vk, Vn, Vs, Vl]
    (with_reducible apply v_call); (· simp only [vcA, Nat.reduceLT, Int.reduceEq, Int.reduceAdd, Int.reduceSub, Nat.reduceBEq, Nat.reduceEqDiff, reduceCtorEq, Nat.reduceAdd, Nat.reduceSub, Nat.reduceMul, Nat.reduceLeDiff, Int.reduceToNat, Int.reduceLT, Int.reduceLE, Int.reduceNeg, reduceIte, I, S, tv, nv, tyT, RawV.tv, R1.row, rowsGet, rowsLen, row4, Vk, Vn, Vs, Vl]; with_reducible rfl); (· exact HP); (· first | rfl | (simp only [moOk, nbeq, nble, List.length_nil, beq_self_eq_true, Bool.true_and, Bool.and_true, Bool.and_eq_true, decide_eq_true_eq]; omega)); (· simp only [vcA, Nat.reduceLT, Int.reduceEq, Int.reduceAdd, Int.reduceSub, Nat.reduceBEq, Nat.reduceEqDiff, reduceCtorEq, Nat.reduceAdd, Nat.reduceSub, Nat.reduceMul, Nat.reduceLeDiff, Int.reduceToNat, Int.reduceLT, Int.reduceLE, Int.reduceNeg, reduceIte, I, S, tv, nv, tyT, RawV.tv, R1.row, rowsGet, rowsLen, row4, Vk, Vn, Vs, Vl]; with_reducible rfl)
    simp only [vcA, Nat.reduceLT, Int.reduceEq, Int.reduceAdd, Int.reduceSub, Nat.reduceBEq, Nat.reduceEqDiff, reduceCtorEq, Nat.reduceAdd, Nat.reduceSub, Nat.reduceMul, Nat.reduceLeDiff, Int.reduceToNat, Int.reduceLT, Int.reduceLE, Int.reduceNeg, reduceIte, I, S, tv, nv, tyT, RawV.tv, R1.row, rowsGet, rowsLen, row4, Vk, Vn, Vs, Vl, h2]
  by_cases h3 : c = 3
  · subst h3
    rw [if_neg (by decide), if_neg (by decide), if_neg (by decide), if_pos rfl]
    refine SCalls.out ?_ (wk4 (wk_pv (pwk_row v.l (pickI n 7) n)))
    refine call_of1 hmix tf_morainelaw03_odd rfl rfl ?_
    simp only [vcA, Nat.reduceLT, Int.reduceEq, Int.reduceAdd, Int.reduceSub, Nat.reduceBEq, Nat.reduceEqDiff, reduceCtorEq, Nat.reduceAdd, Nat.reduceSub, Nat.reduceMul, Nat.reduceLeDiff, Int.reduceToNat, Int.reduceLT, Int.reduceLE, Int.reduceNeg, reduceIte, I, S, tv, nv, tyT, RawV.tv, R1.row, rowsGet, rowsLen, row4, Vk, Vn, Vs, Vl]
    (with_reducible apply v_call); (· simp only [vcA, Nat.reduceLT, Int.reduceEq, Int.reduceAdd, Int.reduceSub, Nat.reduceBEq, Nat.reduceEqDiff, reduceCtorEq, Nat.reduceAdd, Nat.reduceSub, Nat.reduceMul, Nat.reduceLeDiff, Int.reduceToNat, Int.reduceLT, Int.reduceLE, Int.reduceNeg, reduceIte, I, S, tv, nv, tyT, RawV.tv, R1.row, rowsGet, rowsLen, row4, Vk, Vn, Vs, Vl]; with_reducible rfl); (· exact HP); (· first | rfl | (simp only [moOk, nbeq, nble, List.length_nil, beq_self_eq_true, Bool.true_and, Bool.and_true, Bool.and_eq_true, decide_eq_true_eq]; omega)); (· simp only [vcA, Nat.reduceLT, Int.reduceEq, Int.reduceAdd, Int.reduceSub, Nat.reduceBEq, Nat.reduceEqDiff, reduceCtorEq, Nat.reduceAdd, Nat.reduceSub, Nat.reduceMul, Nat.reduceLeDiff, Int.reduceToNat, Int.reduceLT, Int.reduceLE, Int.reduceNeg, reduceIte, I, S, tv, nv, tyT, RawV.tv, R1.row, rowsGet, rowsLen, row4, Vk, Vn, Vs, Vl]; with_reducible rfl)
    simp only [vcA, Nat.reduceLT, Int.reduceEq, Int.reduceAdd, Int.reduceSub, Nat.reduceBEq, Nat.reduceEqDiff, reduceCtorEq, Nat.reduceAdd, Nat.reduceSub, Nat.reduceMul, Nat.reduceLeDiff, Int.reduceToNat, Int.reduceLT, Int.reduceLE, Int.reduceNeg, reduceIte, I, S, tv, nv, tyT, RawV.tv, R1.row, rowsGet, rowsLen, row4, Vk, Vn, Vs, Vl]
    refine ⟨⟨by omega, by omega⟩, ?_⟩
    (with_reducible apply v_call); (· simp only [vcA, Nat.reduceLT, Int.reduceEq, Int.reduceAdd, Int.reduceSub, Nat.reduceBEq, Nat.reduceEqDiff, reduceCtorEq, Nat.reduceAdd, Nat.reduceSub, Nat.reduceMul, Nat.reduceLeDiff, Int.reduceToNat, Int.reduceLT, Int.reduceLE, Int.reduceNeg, reduceIte, I, S, tv, nv, tyT, RawV.tv, R1.row, rowsGet, rowsLen, row4, Vk, Vn, Vs, Vl]; with_reducible rfl); (· exact pickI_ok g _ _ hn (by decide)); (· first | rfl | (simp only [moOk, nbeq, nble, List.length_nil, beq_self_eq_true, Bool.true_and, Bool.and_true, Bool.and_eq_true, decide_eq_true_eq]; omega)); (· simp only [vcA, Nat.reduceLT, Int.reduceEq, Int.reduceAdd, Int.reduceSub, Nat.reduceBEq, Nat.reduceEqDiff, reduceCtorEq, Nat.reduceAdd, Nat.reduceSub, Nat.reduceMul, Nat.reduceLeDiff, Int.reduceToNat, Int.reduceLT, Int.reduceLE, Int.reduceNeg, reduceIte, I, S, tv, nv, tyT, RawV.tv, R1.row, rowsGet, rowsLen, row4, Vk, Vn, Vs, Vl]; with_reducible rfl)
    simp only [vcA, Nat.reduceLT, Int.reduceEq, Int.reduceAdd, Int.reduceSub, Nat.reduceBEq, Nat.reduceEqDiff, reduceCtorEq, Nat.reduceAdd, Nat.reduceSub, Nat.reduceMul, Nat.reduceLeDiff, Int.reduceToNat, Int.reduceLT, Int.reduceLE, Int.reduceNeg, reduceIte, I, S, tv, nv, tyT, RawV.tv, R1.row, rowsGet, rowsLen, row4, Vk, Vn, Vs, Vl]
    exact ⟨by omega, by omega⟩
  by_cases h4 : c = 4
  · subst h4
    rw [if_neg (by decide), if_neg (by decide), if_neg (by decide), if_neg (by decide), if_pos rfl]
    refine call_of1 hmix tf_morainelaw03_odd rfl rfl ?_
    simp only [vcA, Nat.reduceLT, Int.reduceEq, Int.reduceAdd, Int.reduceSub, Nat.reduceBEq, Nat.reduceEqDiff, reduceCtorEq, Nat.reduceAdd, Nat.reduceSub, Nat.reduceMul, Nat.reduceLeDiff, Int.reduceToNat, Int.reduceLT, Int.reduceLE, Int.reduceNeg, reduceIte, I, S, tv, nv, tyT, RawV.tv, R1.row, rowsGet, rowsLen, row4, Vk, Vn, Vs, Vl]
    (with_reducible apply v_call); (· simp only [vcA, Nat.reduceLT, Int.reduceEq, Int.reduceAdd, Int.reduceSub, Nat.reduceBEq, Nat.reduceEqDiff, reduceCtorEq, Nat.reduceAdd, Nat.reduceSub, Nat.reduceMul, Nat.reduceLeDiff, Int.reduceToNat, Int.reduceLT, Int.reduceLE, Int.reduceNeg, reduceIte, I, S, tv, nv, tyT, RawV.tv, R1.row, rowsGet, rowsLen, row4, Vk, Vn, Vs, Vl]; with_reducible rfl); (· exact HP); (· first | rfl | (simp only [moOk, nbeq, nble, List.length_nil, beq_self_eq_true, Bool.true_and, Bool.and_true, Bool.and_eq_true, decide_eq_true_eq]; omega)); (· simp only [vcA, Nat.reduceLT, Int.reduceEq, Int.reduceAdd, Int.reduceSub, Nat.reduceBEq, Nat.reduceEqDiff, reduceCtorEq, Nat.reduceAdd, Nat.reduceSub, Nat.reduceMul, Nat.reduceLeDiff, Int.reduceToNat, Int.reduceLT, Int.reduceLE, Int.reduceNeg, reduceIte, I, S, tv, nv, tyT, RawV.tv, R1.row, rowsGet, rowsLen, row4, Vk, Vn, Vs, Vl]; with_reducible rfl)
    simp only [vcA, Nat.reduceLT, Int.reduceEq, Int.reduceAdd, Int.reduceSub, Nat.reduceBEq, Nat.reduceEqDiff, reduceCtorEq, Nat.reduceAdd, Nat.reduceSub, Nat.reduceMul, Nat.reduceLeDiff, Int.reduceToNat, Int.reduceLT, Int.reduceLE, Int.reduceNeg, reduceIte, I, S, tv, nv, tyT, RawV.tv, R1.row, rowsGet, rowsLen, row4, Vk, Vn, Vs, Vl]
    have hp := pickI_lt (n := 14) (by decide) hn
    obtain ⟨N, hN⟩ : ∃ N : Nat, pickI n 14 = N := ⟨(pickI n 14).toNat, by omega⟩
    have HQ := pickI_ok g n 14 hn (by decide)
    rw [hN] at HQ hp ⊢
    refine v_loop (σ := { i : Nat // i ≤ N })
      (fun i => ⟨[(2, I n), (4, .ptr 4 0), (8, .ptr 8 0), (9, I (i.1 : Int))], [(4, [I v.k, I v.n, S (str v.s), .pv (.sl 4 (V.rows (v.l ++ numsTo i.1)))]), (8, [I 0, I 0, S ⟨#[]⟩, nilT])], [], []⟩)
      (fun i => N - i.1) ⟨0, Nat.zero_le _⟩ (lw_eq (by simp only [show v.l ++ numsTo 0 = v.l by simp [numsTo]]; rfl)) ?_
    rintro ⟨i, hi⟩
    have hlen : (v.l ++ numsTo i).length = v.l.length + i := by simp [numsTo]
    simp only [vcA, Nat.reduceLT, Int.reduceEq, Int.reduceAdd, Int.reduceSub, Nat.reduceBEq, Nat.reduceEqDiff, reduceCtorEq, Nat.reduceAdd, Nat.reduceSub, Nat.reduceMul, Nat.reduceLeDiff, Int.reduceToNat, Int.reduceLT, Int.reduceLE, Int.reduceNeg, reduceIte, I, S, tv, nv, tyT, RawV.tv, R1.row, rowsGet, rowsLen, row4, Vk, Vn, Vs, Vl, nilT]
    (with_reducible apply v_call); (· simp only [vcA, Nat.reduceLT, Int.reduceEq, Int.reduceAdd, Int.reduceSub, Nat.reduceBEq, Nat.reduceEqDiff, reduceCtorEq, Nat.reduceAdd, Nat.reduceSub, Nat.reduceMul, Nat.reduceLeDiff, Int.reduceToNat, Int.reduceLT, Int.reduceLE, Int.reduceNeg, reduceIte, I, S, tv, nv, tyT, RawV.tv, R1.row, rowsGet, rowsLen, row4, Vk, Vn, Vs, Vl]; with_reducible rfl); (· exact HQ); (· first | rfl | (simp only [moOk, nbeq, nble, List.length_nil, beq_self_eq_true, Bool.true_and, Bool.and_true, Bool.and_eq_true, decide_eq_true_eq]; omega)); (· simp only [vcA, Nat.reduceLT, Int.reduceEq, Int.reduceAdd, Int.reduceSub, Nat.reduceBEq, Nat.reduceEqDiff, reduceCtorEq, Nat.reduceAdd, Nat.reduceSub, Nat.reduceMul, Nat.reduceLeDiff, Int.reduceToNat, Int.reduceLT, Int.reduceLE, Int.reduceNeg, reduceIte, I, S, tv, nv, tyT, RawV.tv, R1.row, rowsGet, rowsLen, row4, Vk, Vn, Vs, Vl]; with_reducible rfl)
    generalize hL : v.l ++ numsTo i = L at hlen
    simp only [vcA, Nat.reduceLT, Int.reduceEq, Int.reduceAdd, Int.reduceSub, Nat.reduceBEq, Nat.reduceEqDiff, reduceCtorEq, Nat.reduceAdd, Nat.reduceSub, Nat.reduceMul, Nat.reduceLeDiff, Int.reduceToNat, Int.reduceLT, Int.reduceLE, Int.reduceNeg, reduceIte, I, S, tv, nv, tyT, RawV.tv, R1.row, rowsGet, rowsLen, row4, Vk, Vn, Vs, Vl]
    refine ⟨fun hlt => ⟨⟨by omega, by omega⟩, ⟨by omega, by omega⟩, ?_⟩, fun hge => ?_⟩
    · refine loopK_of ⟨i + 1, by omega⟩ (by show N - (i + 1) < N - i; omega) ?_
      have w1 : IntKind.i64.wrap ((i : Int) + 1) = ((i + 1 : Nat) : Int) := by rw [wrap64 (by omega) (by omega)]; omega
      refine ES.Lw.trans ?_ (reB_lw (k := 4) (ds := [I v.k, I v.n, S (str v.s), .pv (.sl 4 (V.rows (L ++ [.mk 1 (i : Int) [] []])))]) rfl rfl (fun j c d hc hd => ?_))
      · rw [show v.l ++ numsTo (i + 1) = L ++ [.mk 1 (i : Int) [] []] by rw [numsTo_succ, ← List.append_assoc, hL], w1]
        apply lw_of <;> simp [leL, lk, sv, Nat.beq, I, S, ES.kill, has, drp, nilT]
      · match j with
        | 0 => simp at hc hd; subst hc; subst hd; exact .refl _
        | 1 => simp at hc hd; subst hc; subst hd; exact .refl _
        | 2 => simp at hc hd; subst hc; subst hd; exact .refl _
        | 3 => simp at hc hd; subst hc; subst hd; exact wk_own_pv (pwk_row L 1 (i : Int))
        | j + 4 => simp at hc
    · obtain rfl : i = N := by omega
      rw [← hL]
  · refine call_of1 hmix tf_morainelaw03_odd rfl rfl ?_
    simp only [vcA, Nat.reduceLT, Int.reduceEq, Int.reduceAdd, Int.reduceSub, Nat.reduceBEq, Nat.reduceEqDiff, reduceCtorEq, Nat.reduceAdd, Nat.reduceSub, Nat.reduceMul, Nat.reduceLeDiff, Int.reduceToNat, Int.reduceLT, Int.reduceLE, Int.reduceNeg, reduceIte, I, S, tv, nv, tyT, RawV.tv, R1.row, rowsGet, rowsLen, row4, Vk, Vn, Vs, Vl]
    (with_reducible apply v_call); (· simp only [vcA, Nat.reduceLT, Int.reduceEq, Int.reduceAdd, Int.reduceSub, Nat.reduceBEq, Nat.reduceEqDiff, reduceCtorEq, Nat.reduceAdd, Nat.reduceSub, Nat.reduceMul, Nat.reduceLeDiff, Int.reduceToNat, Int.reduceLT, Int.reduceLE, Int.reduceNeg, reduceIte, I, S, tv, nv, tyT, RawV.tv, R1.row, rowsGet, rowsLen, row4, Vk, Vn, Vs, Vl]; with_reducible rfl); (· exact HP); (· first | rfl | (simp only [moOk, nbeq, nble, List.length_nil, beq_self_eq_true, Bool.true_and, Bool.and_true, Bool.and_eq_true, decide_eq_true_eq]; omega)); (· simp only [vcA, Nat.reduceLT, Int.reduceEq, Int.reduceAdd, Int.reduceSub, Nat.reduceBEq, Nat.reduceEqDiff, reduceCtorEq, Nat.reduceAdd, Nat.reduceSub, Nat.reduceMul, Nat.reduceLeDiff, Int.reduceToNat, Int.reduceLT, Int.reduceLE, Int.reduceNeg, reduceIte, I, S, tv, nv, tyT, RawV.tv, R1.row, rowsGet, rowsLen, row4, Vk, Vn, Vs, Vl]; with_reducible rfl)
    simp only [vcA, Nat.reduceLT, Int.reduceEq, Int.reduceAdd, Int.reduceSub, Nat.reduceBEq, Nat.reduceEqDiff, reduceCtorEq, Nat.reduceAdd, Nat.reduceSub, Nat.reduceMul, Nat.reduceLeDiff, Int.reduceToNat, Int.reduceLT, Int.reduceLE, Int.reduceNeg, reduceIte, I, S, tv, nv, tyT, RawV.tv, R1.row, rowsGet, rowsLen, row4, Vk, Vn, Vs, Vl, h0, h1, h2, h3, h4, V.rows_one]
end Go.Proofs.YtdlolkogifigpaaDoor
end

section
/- The order of values is one order. No statement of the program is proved here. -/
namespace Go.Proofs.YtdlolkogifigpaaDoor
open Go Go.Mor
/-- Three answers that fit each other. -/
structure Tri (p q r : Int) : Prop where
  a : -1 ≤ p ∧ p ≤ 1
  b : -1 ≤ q ∧ q ≤ 1
  c : -1 ≤ r ∧ r ≤ 1
  d : p = 0 → r = q
  e : q = 0 → r = p
  f : p = -1 → q = -1 → r = -1
  g : p = 1 → q = 1 → r = 1
theorem Tri.lex {p q r p' q' r' : Int} (h : Tri p q r) (h' : Tri p' q' r') : Tri (thenI p p') (thenI q q') (thenI r r') := by
  obtain ⟨a, b, c, d, e, f, g⟩ := h
  obtain ⟨a', b', c', d', e', f', g'⟩ := h'
  unfold thenI
  constructor <;> (repeat' split) <;> omega
theorem ordI_tri (a b c : Int) : Tri (ordI a b) (ordI b c) (ordI a c) := by
  unfold ordI
  constructor <;> (repeat' split) <;> omega
theorem ordI_anti (a b : Int) : ordI b a = -ordI a b := by
  unfold ordI; (repeat' split) <;> omega
/-- The order of texts, byte by byte. -/
def lexB : List UInt8 → List UInt8 → Int
  | [], [] => 0
  | [], _ :: _ => -1
  | _ :: _, [] => 1
  | a :: x, b :: y => thenI (ordI a.toNat b.toNat) (lexB x y)
theorem ordS_lex : ∀ (x y : List UInt8), ordS x y = lexB x y
  | [], [] => by simp [ordS, lexB, Op.bytesLess]
  | [], b :: y => by simp [ordS, lexB, Op.bytesLess]
  | a :: x, [] => by simp [ordS, lexB, Op.bytesLess]
  | a :: x, b :: y => by
    have ih := ordS_lex x y
    simp only [lexB, ← ih]
    unfold ordS ordI thenI
    simp only [Op.bytesLess]
    have hlt : (a < b) ↔ a.toNat < b.toNat := UInt8.lt_iff_toNat_lt
    have heq : (a = b) ↔ a.toNat = b.toNat := ⟨fun h => by rw [h], fun h => UInt8.toNat_inj.1 h⟩
    by_cases h1 : a.toNat < b.toNat
    · have : a < b := hlt.2 h1
      simp [this]; omega
    · have n1 : ¬ a < b := fun h => h1 (hlt.1 h)
      by_cases h2 : a = b
      · subst h2; simp
      · have n2 : ¬ a.toNat = b.toNat := fun h => h2 (heq.2 h)
        have h3 : b.toNat < a.toNat := by omega
        simp [n1, h2]; omega
def Rng (p : Int) : Prop := -1 ≤ p ∧ p ≤ 1
theorem Rng.lex {p q : Int} (h : Rng p) (h' : Rng q) : Rng (thenI p q) := by unfold thenI; split <;> assumption
theorem ordI_rng (a b : Int) : Rng (ordI a b) := (ordI_tri a a b).c
theorem tri_nxx {q : Int} (h : Rng q) : Tri (-1) q (-1) := by obtain ⟨h1, h2⟩ := h; constructor <;> omega
theorem tri_pnx {r : Int} (h : Rng r) : Tri 1 (-1) r := by obtain ⟨h1, h2⟩ := h; constructor <;> omega
theorem tri_xpp {p : Int} (h : Rng p) : Tri p 1 1 := by obtain ⟨h1, h2⟩ := h; constructor <;> omega
theorem lexB_rng : ∀ (x y : List UInt8), Rng (lexB x y)
  | [], [] => by simp [lexB, Rng]
  | [], b :: y => by simp [lexB, Rng]
  | a :: x, [] => by simp [lexB, Rng]
  | a :: x, b :: y => by simp only [lexB]; exact (ordI_rng _ _).lex (lexB_rng x y)
theorem lexB_tri : ∀ (x y z : List UInt8), Tri (lexB x y) (lexB y z) (lexB x z)
  | [], [], [] => by constructor <;> simp [lexB]
  | [], [], c :: z => by constructor <;> simp [lexB]
  | [], b :: y, [] => by constructor <;> simp [lexB]
  | a :: x, [], [] => by constructor <;> simp [lexB]
  | a :: x, [], c :: z => by have := lexB_rng (a :: x) (c :: z); exact tri_pnx this
  | [], b :: y, c :: z => by have := lexB_rng (b :: y) (c :: z); exact tri_nxx this
  | a :: x, b :: y, [] => by have := lexB_rng (a :: x) (b :: y); exact tri_xpp this
  | a :: x, b :: y, c :: z => by
    simp only [lexB]; exact (ordI_tri _ _ _).lex (lexB_tri x y z)
theorem thenI_anti {a b c d : Int} (h : b = -a) (h' : d = -c) : thenI b d = -thenI a c := by
  unfold thenI; (repeat' split) <;> omega
theorem lexB_anti : ∀ (x y : List UInt8), lexB y x = -lexB x y
  | [], [] => by simp [lexB]
  | [], b :: y => by simp [lexB]
  | a :: x, [] => by simp [lexB]
  | a :: x, b :: y => by simp only [lexB]; exact thenI_anti (ordI_anti _ _) (lexB_anti x y)
theorem ordS_tri (a b c : List UInt8) : Tri (ordS a b) (ordS b c) (ordS a c) := by rw [ordS_lex, ordS_lex, ordS_lex]; exact lexB_tri a b c
theorem ordS_anti (a b : List UInt8) : ordS b a = -ordS a b := by rw [ordS_lex, ordS_lex]; exact lexB_anti a b
theorem ordS_rng (a b : List UInt8) : Rng (ordS a b) := by rw [ordS_lex]; exact lexB_rng a b
theorem cmpL_rng : ∀ (x y : List V), (∀ a ∈ x, ∀ b, Rng (cmpV a b)) → Rng (cmpL x y)
  | [], [], _ => by simp [cmpL, Rng]
  | [], b :: y, _ => by simp [cmpL, Rng]
  | a :: x, [], _ => by simp [cmpL, Rng]
  | a :: x, b :: y, h => by simp only [cmpL]; exact (h a (by simp) b).lex (cmpL_rng x y fun c hc => h c (by simp [hc]))
theorem cmpV_rngN (n : Nat) : ∀ x y : V, SizeOf.sizeOf x ≤ n → Rng (cmpV x y) := by
  induction n with
  | zero => intro x y h; cases x; simp at h
  | succ n ih =>
    intro x y h
    rw [cmpV_eq]
    refine (ordI_rng _ _).lex ((ordI_rng _ _).lex ((ordS_rng _ _).lex (cmpL_rng _ _ fun a ha b => ih a b ?_)))
    have := List.sizeOf_lt_of_mem ha
    cases x; simp [V.l] at h this ⊢; omega
theorem cmpV_rng (x y : V) : Rng (cmpV x y) := cmpV_rngN _ x y (Nat.le_refl _)
theorem cmpL_rng' (x y : List V) : Rng (cmpL x y) := cmpL_rng x y fun a _ b => cmpV_rng a b
theorem cmpL_tri : ∀ (x y z : List V), (∀ a ∈ x, ∀ b c, Tri (cmpV a b) (cmpV b c) (cmpV a c)) → Tri (cmpL x y) (cmpL y z) (cmpL x z)
  | [], [], [], _ => by constructor <;> simp [cmpL]
  | [], [], c :: z, _ => by constructor <;> simp [cmpL]
  | [], b :: y, [], _ => by constructor <;> simp [cmpL]
  | a :: x, [], [], _ => by constructor <;> simp [cmpL]
  | a :: x, [], c :: z, _ => by have := cmpL_rng' (a :: x) (c :: z); rw [show cmpL (a :: x) [] = 1 by simp [cmpL], show cmpL [] (c :: z) = -1 by simp [cmpL]]; exact tri_pnx this
  | [], b :: y, c :: z, _ => by have := cmpL_rng' (b :: y) (c :: z); rw [show cmpL [] (b :: y) = -1 by simp [cmpL], show cmpL [] (c :: z) = -1 by simp [cmpL]]; exact tri_nxx this
  | a :: x, b :: y, [], _ => by have := cmpL_rng' (a :: x) (b :: y); rw [show cmpL (b :: y) [] = 1 by simp [cmpL], show cmpL (a :: x) [] = 1 by simp [cmpL]]; exact tri_xpp this
  | a :: x, b :: y, c :: z, h => by
    simp only [cmpL]; exact (h a (by simp) b c).lex (cmpL_tri x y z fun d hd => h d (by simp [hd]))
theorem cmpV_triN (n : Nat) : ∀ x y z : V, SizeOf.sizeOf x ≤ n → Tri (cmpV x y) (cmpV y z) (cmpV x z) := by
  induction n with
  | zero => intro x y z h; cases x; simp at h
  | succ n ih =>
    intro x y z h
    rw [cmpV_eq x y, cmpV_eq y z, cmpV_eq x z]
    refine (ordI_tri _ _ _).lex ((ordI_tri _ _ _).lex ((ordS_tri _ _ _).lex (cmpL_tri _ _ _ fun a ha b c => ih a b c ?_)))
    have := List.sizeOf_lt_of_mem ha
    cases x; simp [V.l] at h this ⊢; omega
theorem cmpV_tri (x y z : V) : Tri (cmpV x y) (cmpV y z) (cmpV x z) := cmpV_triN _ x y z (Nat.le_refl _)
theorem cmpL_anti : ∀ (x y : List V), (∀ a ∈ x, ∀ b, cmpV b a = -cmpV a b) → cmpL y x = -cmpL x y
  | [], [], _ => by simp [cmpL]
  | [], b :: y, _ => by simp [cmpL]
  | a :: x, [], _ => by simp [cmpL]
  | a :: x, b :: y, h => by simp only [cmpL]; exact thenI_anti (h a (by simp) b) (cmpL_anti x y fun c hc => h c (by simp [hc]))
theorem cmpV_antiN (n : Nat) : ∀ x y : V, SizeOf.sizeOf x ≤ n → cmpV y x = -cmpV x y := by
  induction n with
  | zero => intro x y h; cases x; simp at h
  | succ n ih =>
    intro x y h
    rw [cmpV_eq x y, cmpV_eq y x]
    refine thenI_anti (ordI_anti _ _) (thenI_anti (ordI_anti _ _) (thenI_anti (ordS_anti _ _) (cmpL_anti _ _ fun a ha b => ih a b ?_)))
    have := List.sizeOf_lt_of_mem ha
    cases x; simp [V.l] at h this ⊢; omega
theorem cmpV_anti (x y : V) : cmpV y x = -cmpV x y := cmpV_antiN _ x y (Nat.le_refl _)
theorem cmpV_self (x : V) : cmpV x x = 0 := by have := cmpV_anti x x; omega
theorem thenI_zero {a b : Int} (h : thenI a b = 0) : a = 0 ∧ b = 0 := by
  unfold thenI at h
  by_cases ha : a = 0
  · rw [if_pos ha] at h; exact ⟨ha, h⟩
  · rw [if_neg ha] at h; exact absurd h ha
theorem ordI_zero {a b : Int} (h : ordI a b = 0) : a = b := by
  unfold ordI at h
  by_cases h1 : a < b
  · rw [if_pos h1] at h; cases h
  · rw [if_neg h1] at h
    by_cases h2 : b < a
    · rw [if_pos h2] at h; cases h
    · omega
theorem lexB_zero : ∀ {x y : List UInt8}, lexB x y = 0 → x = y
  | [], [], _ => rfl
  | [], b :: y, h => by simp [lexB] at h
  | a :: x, [], h => by simp [lexB] at h
  | a :: x, b :: y, h => by
    simp only [lexB] at h
    obtain ⟨h1, h2⟩ := thenI_zero h
    have := ordI_zero h1
    rw [lexB_zero h2, UInt8.toNat_inj.1 (by omega : a.toNat = b.toNat)]
theorem cmpL_zero : ∀ {x y : List V}, (∀ a ∈ x, ∀ b, cmpV a b = 0 → a = b) → cmpL x y = 0 → x = y
  | [], [], _, _ => rfl
  | [], b :: y, _, h => by simp [cmpL] at h
  | a :: x, [], _, h => by simp [cmpL] at h
  | a :: x, b :: y, H, h => by
    simp only [cmpL] at h
    obtain ⟨h1, h2⟩ := thenI_zero h
    rw [H a (by simp) b h1, cmpL_zero (fun c hc => H c (by simp [hc])) h2]
theorem cmpV_zeroN (n : Nat) : ∀ x y : V, SizeOf.sizeOf x ≤ n → cmpV x y = 0 → x = y := by
  induction n with
  | zero => intro x y h; cases x; simp at h
  | succ n ih =>
    intro x y h h0
    rw [cmpV_eq] at h0
    obtain ⟨h1, h0⟩ := thenI_zero h0
    obtain ⟨h2, h0⟩ := thenI_zero h0
    obtain ⟨h3, h4⟩ := thenI_zero h0
    rw [ordS_lex] at h3
    have hl := cmpL_zero (fun a ha b => ih a b (by
      have := List.sizeOf_lt_of_mem ha
      cases x; simp [V.l] at h this ⊢; omega)) h4
    rw [← V.eta x, ← V.eta y, ordI_zero h1, ordI_zero h2, lexB_zero h3, hl]
theorem cmpV_zero {x y : V} : cmpV x y = 0 ↔ x = y := ⟨cmpV_zeroN _ x y (Nat.le_refl _), fun h => h ▸ cmpV_self x⟩
end Go.Proofs.YtdlolkogifigpaaDoor
end

section
/- Readers of bytes in plain words: what is laid is read back; what is cut off is none. -/
namespace Go.Mor
open Go Go.RowKit
set_option maxHeartbeats 1000000

/-- A reader: of a text and a place, what stands there and the place behind it. -/
abbrev Rd (α : Type) : Type := List UInt8 → Int → Option (α × Int)
def Rd.bind {α β : Type} (r : Rd α) (f : α → Rd β) : Rd β := fun s a => match r s a with | none => none | some (v, b) => f v s b
def Rd.ret {α : Type} (v : α) : Rd α := fun _ a => some (v, a)
def Rd.fail {α : Type} : Rd α := fun _ _ => none
/-- e is read as v, whatever stands around it. -/
def Enc {α : Type} (r : Rd α) (e : List UInt8) (v : α) : Prop := ∀ pre post : List UInt8, r (pre ++ e ++ post) pre.length = some (v, ((pre.length + e.length : Nat) : Int))
/-- What is cut off is none; what is not is as it was. -/
def Cuts {α : Type} (r : Rd α) : Prop := ∀ (s : List UInt8) (a : Int) (v : α) (b : Int) (k : Nat), r s a = some (v, b) → a ≤ k → a ≤ b ∧ (b ≤ k → r (s.take k) a = some (v, b)) ∧ (k < b → r (s.take k) a = none)
theorem Enc.bind {α β : Type} {r : Rd α} {f : α → Rd β} {e1 e2 : List UInt8} {v1 : α} {v2 : β} (h1 : Enc r e1 v1) (h2 : Enc (f v1) e2 v2) : Enc (r.bind f) (e1 ++ e2) v2 := by
  intro pre post
  have a := h1 pre (e2 ++ post)
  have b := h2 (pre ++ e1) post
  rw [show pre ++ (e1 ++ e2) ++ post = pre ++ e1 ++ (e2 ++ post) by simp, Rd.bind, a]
  simp only [List.append_assoc, List.length_append] at b ⊢
  rw [b]
  congr 3; omega
theorem Enc.ret {α : Type} (v : α) : Enc (Rd.ret v) [] v := fun pre post => by simp [Rd.ret]
theorem Cuts.bind {α β : Type} {r : Rd α} {f : α → Rd β} (h1 : Cuts r) (h2 : ∀ v, Cuts (f v)) : Cuts (r.bind f) := by
  intro s a v b k h hk
  unfold Rd.bind at h ⊢
  cases hr : r s a with
  | none => rw [hr] at h; cases h
  | some p =>
    obtain ⟨v1, b1⟩ := p
    rw [hr] at h
    dsimp only at h
    obtain ⟨g1, g2, g3⟩ := h1 s a v1 b1 k hr hk
    by_cases hb : b1 ≤ k
    · obtain ⟨j1, j2, j3⟩ := h2 v1 s b1 v b k h hb
      rw [g2 hb]
      exact ⟨by omega, j2, j3⟩
    · obtain ⟨j1, _, _⟩ := h2 v1 s b1 v b b1.toNat h (by omega)
      rw [g3 (by omega)]
      exact ⟨by omega, fun h => by omega, fun _ => rfl⟩
theorem Cuts.ret {α : Type} (v : α) : Cuts (Rd.ret v) := by
  intro s a v' b k h hk
  simp only [Rd.ret, Option.some.injEq, Prod.mk.injEq] at h ⊢
  obtain ⟨rfl, rfl⟩ := h
  exact ⟨by omega, fun _ => ⟨rfl, rfl⟩, fun h => by omega⟩
theorem Cuts.fail {α : Type} : Cuts (Rd.fail (α := α)) := fun s a v b k h => by cases h
theorem Cuts.ite {α : Type} {c : Bool} {r q : Rd α} (h1 : Cuts r) (h2 : Cuts q) : Cuts (if c = true then r else q) := by cases c <;> simpa
/-- Bytes that begin others tell what those tell. -/
theorem Enc.begins {α : Type} {r : Rd α} {e e' : List UInt8} {v v' : α} (h : Enc r e v) (h' : Enc r e' v') (hp : e <+: e') : v = v' := by
  obtain ⟨t, rfl⟩ := hp
  have a := h [] t
  have b := h' [] []
  simp at a b
  rw [a] at b
  simp at b
  exact b.1
theorem Enc.cut {α : Type} {r : Rd α} {e : List UInt8} {v : α} (h : Enc r e v) (hc : Cuts r) (k : Nat) (hk : k < e.length) : r (e.take k) 0 = none := by
  have a := h [] []
  simp at a
  exact (hc e 0 v _ k a (by omega)).2.2 (by omega)

/-! Numbers. -/
def cont : List UInt8 → List UInt8
  | [] => []
  | [g] => [g]
  | g :: r => (g + 128) :: cont r
theorem cont_snoc (l : List UInt8) (g : UInt8) : cont (l ++ [g]) = l.map (· + 128) ++ [g] := by
  induction l with
  | nil => rfl
  | cons a r ih =>
    cases r with
    | nil => rfl
    | cons b q => simp only [List.cons_append, cont, List.map_cons] at ih ⊢; rw [ih]
theorem pack_cont (l : List UInt8) : pack l = cont l := by
  rcases List.eq_nil_or_concat l with rfl | ⟨q, g, rfl⟩
  · rfl
  · rw [List.concat_eq_append, cont_snoc]
    have : ∀ (n : Nat) (q : List UInt8) (g : UInt8), q.length = n → pack (q ++ [g]) = q.map (· + 128) ++ [g] := by
      intro n
      induction n with
      | zero => intro q g hq; obtain rfl := List.eq_nil_of_length_eq_zero hq; rfl
      | succ n ih =>
        intro q g hq
        rcases List.eq_nil_or_concat q with rfl | ⟨p, a, rfl⟩
        · simp at hq
        · rw [List.concat_eq_append] at hq ⊢
          rw [pack_snoc, ih p a (by simp at hq; omega), bump_snoc]
          simp
    exact this q.length q g rfl
theorem cont_length (l : List UInt8) : (cont l).length = l.length := by rw [← pack_cont, pack_length]
theorem u8_lt (b : UInt8) : b.toNat < 256 := b.toNat_lt
theorem rdGo_last {k : Nat} {b : UInt8} (st : Nat × Nat) (r : List UInt8) (hk : k ≠ 0) (h0 : b.toNat ≠ 0) (h9 : k = 9 → b.toNat ≤ 1) (hb : b.toNat < 128) : rdGo k st (b :: r) = .ok (st.1 + b.toNat * 2 ^ (7 * k - 1), st.2, k + 1) := by
  rw [rdGo, if_neg (by rintro ⟨_, h | ⟨h, h'⟩⟩ <;> omega)]
  simp only [hk, if_false, hb, if_true, Nat.mod_eq_of_lt hb]
theorem rdGo_more {k : Nat} {b : UInt8} (st : Nat × Nat) (r : List UInt8) (hk : k ≠ 0) (h9 : k ≠ 9) (hb : 128 ≤ b.toNat) : rdGo k st (b :: r) = rdGo (k + 1) (st.1 + b.toNat % 128 * 2 ^ (7 * k - 1), st.2) r := by
  rw [rdGo, if_neg (by rintro ⟨_, h | ⟨h, h'⟩⟩ <;> omega)]
  have : ¬ b.toNat < 128 := by omega
  simp only [hk, if_false, this]
theorem rdGo_last0 {b : UInt8} (st : Nat × Nat) (r : List UInt8) (hb : b.toNat < 128) : rdGo 0 st (b :: r) = .ok (b.toNat / 2, b.toNat % 2, 1) := by
  rw [rdGo, if_neg (by simp)]
  simp only [if_true, hb, Nat.mod_eq_of_lt hb]
theorem rdGo_more0 {b : UInt8} (st : Nat × Nat) (r : List UInt8) (hb : 128 ≤ b.toNat) : rdGo 0 st (b :: r) = rdGo 1 (b.toNat % 128 / 2, b.toNat % 128 % 2) r := by
  rw [rdGo, if_neg (by simp)]
  have : ¬ b.toNat < 128 := by omega
  simp only [if_true, this, if_false]
theorem rdGo_tail : ∀ (f k : Nat) (st : Nat × Nat) (m : Nat) (rest : List UInt8), m ≠ 0 → 1 ≤ k → k + f = 10 → m < 2 ^ (64 - 7 * k) →
    rdGo k st (cont (tailN f m) ++ rest) = .ok (st.1 + m * 2 ^ (7 * k - 1), st.2, k + (tailN f m).length) := by
  intro f
  induction f with
  | zero => intro k st m rest hm h1 h2 h3; obtain rfl : k = 10 := by omega
            simp at h3; omega
  | succ f ih =>
    intro k st m rest hm h1 h2 h3
    have hb : (UInt8.ofNat (m % 128)).toNat = m % 128 := by rw [UInt8.toNat_ofNat']; omega
    rw [tailN, if_neg hm]
    by_cases hd : m / 128 = 0
    · rw [hd, tailN_zero]
      simp only [cont, List.cons_append, List.nil_append]
      have hm' : m % 128 = m := by omega
      rw [rdGo_last st rest (by omega) (by rw [hb]; omega) (by rintro rfl; rw [hb]; simp at h3; omega) (by rw [hb]; omega), hb, hm']
      simp
    · have hk9 : k ≠ 9 := by rintro rfl; simp at h3; omega
      obtain ⟨x, r, hx⟩ : ∃ x r, tailN f (m / 128) = x :: r := by
        obtain ⟨f', rfl⟩ : ∃ f', f = f' + 1 := ⟨f - 1, by omega⟩
        rw [tailN, if_neg hd]; exact ⟨_, _, rfl⟩
      have hcn : cont (UInt8.ofNat (m % 128) :: tailN f (m / 128)) = (UInt8.ofNat (m % 128) + 128) :: cont (tailN f (m / 128)) := by rw [hx]; rfl
      rw [hcn, List.cons_append]
      have hbb : (UInt8.ofNat (m % 128) + 128).toNat = m % 128 + 128 := by
        rw [UInt8.toNat_add, hb]; show (m % 128 + 128) % 256 = _; omega
      rw [rdGo_more st _ (by omega) hk9 (by rw [hbb]; omega), hbb]
      have hp : (2 : Nat) ^ (64 - 7 * k) = 2 ^ (64 - 7 * (k + 1)) * 128 := by
        rw [show 64 - 7 * k = (64 - 7 * (k + 1)) + 7 by omega, Nat.pow_add]
      rw [ih (k + 1) _ (m / 128) rest hd (by omega) (by omega) (by rw [hp] at h3; omega)]
      have hq : (2 : Nat) ^ (7 * (k + 1) - 1) = 128 * 2 ^ (7 * k - 1) := by
        rw [show 7 * (k + 1) - 1 = 7 + (7 * k - 1) by omega, Nat.pow_add]
      simp only [List.length_cons]
      congr 2
      · rw [hq, show (m % 128 + 128) % 128 = m % 128 by omega]
        generalize 2 ^ (7 * k - 1) = Q
        have : m * Q = (m % 128) * Q + (m / 128) * (128 * Q) := by
          conv => lhs; rw [show m = m % 128 + 128 * (m / 128) by omega]
          rw [Nat.add_mul, Nat.mul_comm 128 (m / 128), Nat.mul_assoc]
        omega
      · congr 1; omega
theorem rd_num (x : Int) (h0 : -9223372036854775808 ≤ x) (h1 : x ≤ 9223372036854775807) (pre post : List UInt8) : rd (pre ++ num x ++ post) pre.length = .ok (x, (num x).length) := by
  have hm := mag_lt x h0 h1
  have hpos := num_pos x
  unfold rd
  rw [if_pos (by simp; omega)]
  have hd : List.drop (pre.length : Int).toNat (pre ++ num x ++ post) = num x ++ post := by
    rw [show (pre.length : Int).toNat = pre.length by omega, List.append_assoc, List.drop_left]
  have hnl : (num x).length = 1 + (tailN 9 (mag x / 64)).length := by rw [num, pack_length]; simp [groups]; omega
  rw [hd, hnl, num, pack_cont, groups]
  have hs : sgn x ≤ 1 := by unfold sgn; split <;> omega
  have hb : (UInt8.ofNat (mag x % 64 * 2 + sgn x)).toNat = mag x % 64 * 2 + sgn x := by rw [UInt8.toNat_ofNat']; omega
  have key : rdGo 0 (0, 0) (cont (UInt8.ofNat (mag x % 64 * 2 + sgn x) :: tailN 9 (mag x / 64)) ++ post) = .ok (mag x, sgn x, 1 + (tailN 9 (mag x / 64)).length) := by
    by_cases hz : mag x / 64 = 0
    · rw [hz, tailN_zero]
      simp only [cont, List.cons_append, List.nil_append]
      rw [rdGo_last0 _ _ (by rw [hb]; omega), hb]
      congr 2
      · omega
      · congr 1; omega
    · obtain ⟨y, r, hx⟩ : ∃ y r, tailN 9 (mag x / 64) = y :: r := by
        rw [show (9 : Nat) = 8 + 1 from rfl, tailN, if_neg hz]; exact ⟨_, _, rfl⟩
      have hcn : cont (UInt8.ofNat (mag x % 64 * 2 + sgn x) :: tailN 9 (mag x / 64)) = (UInt8.ofNat (mag x % 64 * 2 + sgn x) + 128) :: cont (tailN 9 (mag x / 64)) := by rw [hx]; rfl
      have hbb : (UInt8.ofNat (mag x % 64 * 2 + sgn x) + 128).toNat = mag x % 64 * 2 + sgn x + 128 := by
        rw [UInt8.toNat_add, hb]; show (_ + 128) % 256 = _; omega
      rw [hcn, List.cons_append, rdGo_more0 _ _ (by rw [hbb]; omega), hbb]
      rw [rdGo_tail 9 1 _ _ post hz (by omega) (by omega) (by show mag x / 64 < 144115188075855872; omega)]
      congr 2
      · show (mag x % 64 * 2 + sgn x + 128) % 128 / 2 + mag x / 64 * 64 = mag x; omega
      · congr 1; show (mag x % 64 * 2 + sgn x + 128) % 128 % 2 = sgn x; omega
  rw [key]
  dsimp only
  congr 2
  · unfold sgn mag; split <;> simp <;> omega
theorem enc_num (x : Int) (h0 : -9223372036854775808 ≤ x) (h1 : x ≤ 9223372036854775807) : Enc readNum (num x) x := by
  intro pre post
  rw [readNum, rd_num x h0 h1]
  simp
theorem enc_text (t : List UInt8) (ht : t.length ≤ 10000) : Enc readText (text t) t := by
  intro pre post
  have h := rd_num t.length (by omega) (by omega) pre (t ++ post)
  rw [show pre ++ text t ++ post = pre ++ num t.length ++ (t ++ post) by simp [text], readText, rdW, h]
  dsimp only
  rw [if_neg (by omega), if_neg (by simp; omega)]
  dsimp only
  rw [show ((pre.length : Int) + ((num t.length).length : Nat)).toNat = (pre ++ num t.length).length by simp; omega, List.drop_left, show ((t.length : Int)).toNat = t.length by omega, List.take_left]
  simp [text]; omega
theorem rdGo_take : ∀ (l : List UInt8) (k : Nat) (st : Nat × Nat) (m sg z j : Nat), rdGo k st l = .ok (m, sg, z) → k < z ∧ (z ≤ k + j → rdGo k st (l.take j) = .ok (m, sg, z)) ∧ (k + j < z → rdGo k st (l.take j) = .error false) := by
  intro l
  induction l with
  | nil => intro k st m sg z j h; cases h
  | cons b r ih =>
    intro k st m sg z j h
    rw [rdGo] at h
    split at h
    · cases h
    · rename_i hc
      dsimp only at h
      split at h
      · rename_i hb
        injection h with h
        simp only [Prod.mk.injEq] at h
        obtain ⟨h1, h2, h3⟩ := h
        refine ⟨by omega, fun hz => ?_, fun hz => ?_⟩
        · obtain ⟨j', rfl⟩ : ∃ j', j = j' + 1 := ⟨j - 1, by omega⟩
          rw [List.take_succ_cons, rdGo, if_neg hc]
          dsimp only
          rw [if_pos hb, h1, h2, h3]
        · obtain rfl : j = 0 := by omega
          rfl
      · rename_i hb
        cases j with
        | zero =>
          obtain ⟨h1, _, _⟩ := ih _ _ _ _ _ 0 h
          exact ⟨by omega, fun hz => by omega, fun _ => rfl⟩
        | succ j' =>
          obtain ⟨h1, h2, h3⟩ := ih _ _ _ _ _ j' h
          refine ⟨by omega, fun hz => ?_, fun hz => ?_⟩
          all_goals
            rw [List.take_succ_cons, rdGo, if_neg hc]
            dsimp only
            rw [if_neg hb]
          · exact h2 (by omega)
          · exact h3 (by omega)
theorem rd_take {s : List UInt8} {a n : Int} {z : Nat} (h : rd s a = .ok (n, z)) (k : Nat) (hk : a ≤ k) : 0 ≤ a ∧ (a + z ≤ k → rd (s.take k) a = .ok (n, z)) ∧ (k < a + z → rd (s.take k) a = .error false) := by
  have hbd := rd_bound h
  unfold rd at h
  split at h
  · rename_i hin
    cases hr : rdGo 0 (0, 0) (s.drop a.toNat) with
    | error e => rw [hr] at h; cases h
    | ok p =>
      obtain ⟨m, sg, z'⟩ := p
      rw [hr] at h
      dsimp only at h
      injection h with h
      simp only [Prod.mk.injEq] at h
      obtain ⟨h1, rfl⟩ := h
      obtain ⟨g1, g2, g3⟩ := rdGo_take _ _ _ _ _ _ (k - a.toNat) hr
      have hd : (s.take k).drop a.toNat = (s.drop a.toNat).take (k - a.toNat) := List.drop_take
      refine ⟨hin.1, fun hz => ?_, fun hz => ?_⟩
      · unfold rd
        rw [if_pos (by simp; omega), hd, g2 (by omega)]
        dsimp only
        rw [h1]
      · unfold rd
        split
        · rw [hd, g3 (by omega)]
        · rfl
  · cases h
theorem cuts_num : Cuts readNum := by
  intro s a v b k h hk
  unfold readNum at h ⊢
  cases hr : rd s a with
  | error e => rw [hr] at h; cases h
  | ok p =>
    obtain ⟨n, z⟩ := p
    rw [hr] at h
    simp only [Option.some.injEq, Prod.mk.injEq] at h
    obtain ⟨rfl, rfl⟩ := h
    obtain ⟨_, g1, g2⟩ := rd_take hr k hk
    exact ⟨by omega, fun h => by rw [g1 h], fun h => by rw [g2 h]⟩
theorem cuts_text : Cuts readText := by
  intro s a v b k h hk
  unfold readText rdW at h ⊢
  cases hr : rd s a with
  | error e => rw [hr] at h; cases h
  | ok p =>
    obtain ⟨n, z⟩ := p
    rw [hr] at h
    dsimp only at h
    obtain ⟨g0, g1, g2⟩ := rd_take hr k hk
    by_cases hn : n < 0 ∨ 10000 < n
    · rw [if_pos hn] at h; cases h
    rw [if_neg hn] at h
    by_cases hl : (s.length : Int) - (a + z) < n
    · rw [if_pos hl] at h; cases h
    rw [if_neg hl] at h
    simp only [Option.some.injEq, Prod.mk.injEq] at h
    obtain ⟨rfl, rfl⟩ := h
    have hbd := rd_bound hr
    refine ⟨by omega, fun hb => ?_, fun hb => ?_⟩
    · rw [g1 (by omega)]
      dsimp only
      rw [if_neg hn, if_neg (by simp; omega)]
      dsimp only
      rw [List.drop_take, List.take_take, show min n.toNat (k - (a + ↑z).toNat) = n.toNat by omega]
    · by_cases hz : a + z ≤ k
      · rw [g1 hz]
        dsimp only
        rw [if_neg hn, if_pos (by simp; omega)]
      · rw [g2 (by omega)]
end Go.Mor
end

section
/- The code of Cd1 is the program's; the examples run. No statement of the program is proved here. -/
namespace Go.Proofs.YtdlolkogifigpaaDoor
open Go Go.RowKit Go.Mor Go.Sh Go.Sh.Cd1
set_option maxRecDepth 100000
set_option maxHeartbeats 8000000

theorem funcs_ok : FuncsOk Tryd.prog funcs := by
  intro f G h
  unfold funcs at h
  split at h
  · cases h; exact ⟨_, _, _, _, tf_morainelaw03_ValBack⟩
  · cases h; exact ⟨_, _, _, _, tf_morainelaw03_ValOrder⟩
  · cases h; exact ⟨_, _, _, _, tf_morainelaw03_ValCut⟩
  · cases h; exact ⟨_, _, _, _, tf_morainelaw03_ValKinds⟩
  · cases h; exact ⟨_, _, _, _, tf_morainelaw03_ValFits⟩
  · cases h; exact ⟨_, _, _, _, tf_val_Zero⟩
  · cases h; exact ⟨_, _, _, _, tf_morainelaw03_awake⟩
  · cases h; exact ⟨_, _, _, _, tf_morainelaw03_ValOf⟩
  · cases h; exact ⟨_, _, _, _, tf_val_Encode⟩
  · cases h; exact ⟨_, _, _, _, tf_val_Decode⟩
  · cases h; exact ⟨_, _, _, _, tf_moraineref03_Same⟩
  · cases h; exact ⟨_, _, _, _, tf_morainelaw03_odd⟩
  · cases h; exact ⟨_, _, _, _, tf_val_Compare⟩
  · cases h; exact ⟨_, _, _, _, tf_val_Same⟩
  · cases h; exact ⟨_, _, _, _, tf_morainelaw03_pick⟩
  · cases h; exact ⟨_, _, _, _, tf_morainelaw03_ValType⟩
  · cases h; exact ⟨_, _, _, _, tf_morainelaw03_ValFit⟩
  · cases h; exact ⟨_, _, _, _, tf_val_Fits⟩
  · cases h; exact ⟨_, _, _, _, tf_val_rightType⟩
  · cases h; exact ⟨_, _, _, _, tf_val_Read⟩
  · cases h; exact ⟨_, _, _, _, tf_val_Right⟩
  · cases h; exact ⟨_, _, _, _, tf_morainelaw03_ValOne⟩
  · cases h; exact ⟨_, _, _, _, tf_val_lay⟩
  · cases h; exact ⟨_, _, _, _, tf___val_decoder__value⟩
  · cases h; exact ⟨_, _, _, _, tf_moraineref03_Compare⟩
  · cases h; exact ⟨_, _, _, _, tf_cmp_Compare_int_⟩
  · cases h; exact ⟨_, _, _, _, tf_cmp_Compare_string_⟩
  · cases h; exact ⟨_, _, _, _, tf_val_byItems_api_Val_⟩
  · cases h; exact ⟨_, _, _, _, tf_morainelaw03_fit⟩
  · cases h; exact ⟨_, _, _, _, tf_val_ofKind⟩
  · cases h; exact ⟨_, _, _, _, tf_slices_ContainsFunc___api_Val_api_Val_⟩
  · cases h; exact ⟨_, _, _, _, tf_val_Fits_1⟩
  · cases h; exact ⟨_, _, _, _, tf_moraineref03_IsText⟩
  · cases h; exact ⟨_, _, _, _, tf_val_reader⟩
  · cases h; exact ⟨_, _, _, _, tf_val_value⟩
  · cases h; exact ⟨_, _, _, _, tf_val_items⟩
  · cases h; exact ⟨_, _, _, _, tf_val_bare⟩
  · cases h; exact ⟨_, _, _, _, tf_val_rightText⟩
  · cases h; exact ⟨_, _, _, _, tf_val_rightID⟩
  · cases h; exact ⟨_, _, _, _, tf_val_noItem⟩
  · cases h; exact ⟨_, _, _, _, tf_morainelaw03_ValText⟩
  · cases h; exact ⟨_, _, _, _, tf___val_decoder__number⟩
  · cases h; exact ⟨_, _, _, _, tf___val_decoder__text⟩
  · cases h; exact ⟨_, _, _, _, tf___val_decoder__items⟩
  · cases h; exact ⟨_, _, _, _, tf_moraineref03_Order⟩
  · cases h; exact ⟨_, _, _, _, tf_cmp_isNaN_int_⟩
  · cases h; exact ⟨_, _, _, _, tf_cmp_isNaN_string_⟩
  · cases h; exact ⟨_, _, _, _, tf_slices_IndexFunc___api_Val_api_Val_⟩
  · cases h; exact ⟨_, _, _, _, tf_moraineref03_Sign⟩
  · cases h; exact ⟨_, _, _, _, tf_val_reader_1⟩
  · cases h; exact ⟨_, _, _, _, tf_val_first⟩
  · cases h; exact ⟨_, _, _, _, tf_val_quoted⟩
  · cases h; exact ⟨_, _, _, _, tf_val_reference⟩
  · cases h; exact ⟨_, _, _, _, tf_val_number⟩
  · cases h; exact ⟨_, _, _, _, tf_val_sign⟩
  · cases h; exact ⟨_, _, _, _, tf_val_plain⟩
  · cases h; exact ⟨_, _, _, _, tf_val_sign_1⟩
  · cases h
theorem hmix0 : Tryd.prog.follows .mixedOrders = true := by kernel_rfl
theorem awake_run : callF Tryd.prog funcs prim1 100 14 26 [] [] = some (.pv (.v (.bool true)), []) := by kernel_rfl
theorem awake_ok (a0 a1 : Addr) (n : Nat) : SCalls Tryd.prog (gl a0 a1 n) 26 [] [] (.pv (.v (.bool true))) [] :=
  callF_sound hmix0 funcs_ok (prim1_sound a0 a1 n) 14 _ _ _ _ _ awake_run
end Go.Proofs.YtdlolkogifigpaaDoor
end

section
/- The law ValKinds, walked. No statement of the program is proved here. -/
namespace Go.Proofs.YtdlolkogifigpaaDoor
open Go Go.RowKit Go.Mor Go.Sh Go.Sh.Cd1
set_option maxRecDepth 100000
set_option maxHeartbeats 4000000
theorem valOne_right' (k n : Int) (s : List UInt8) (hn : I64 n) : right1 (valOne k n s) = true ∧ (valOne k n s).k ≠ 5 := by
  have h := valOne_right k n s hn
  exact ⟨h, (right1_ok h).2.1⟩
theorem valOf_right (x : RawV) (hx : x.ok) : rightV (valOf x) = true := by
  obtain ⟨hk, hn, hs, hl, hlen⟩ := hx
  unfold valOf
  by_cases h : pickI x.k 7 < 5
  · rw [if_pos h]
    obtain ⟨h1, h2⟩ := valOne_right' (pickI x.k 7) x.n x.s hn
    by_cases h3 : 3 ≤ (valOne (pickI x.k 7) x.n x.s).k ∧ pickI (x.k.tdiv 7) 4 = 0
    · rw [if_pos h3]
      rcases right1_inv h1 with e | ⟨n, _, _, e⟩ | ⟨s, _, e⟩ | ⟨k, n, hkk, hi, e⟩
      · rw [e] at h3; simp [V.k] at h3
      · rw [e] at h3; simp [V.k] at h3
      · rw [e] at h3; simp [V.k] at h3
      · rw [e]
        have hp := pickI_lt (n := 20) (by decide) hn
        have hi : rightID (-1 - pickI x.n 20) = true := by unfold rightID; simp; omega
        have hk5 : ¬ k = 5 := by omega
        have hk0 : ¬ k = 0 := by omega
        have hk1 : ¬ k = 1 := by omega
        have hk2 : ¬ k = 2 := by omega
        simp [rightV, right1, bare, V.k, V.n, V.s, V.l, hk5, hk0, hk1, hk2, hkk, hi]
    · rw [if_neg h3]
      unfold rightV; rw [if_neg h2]; exact h1
  · rw [if_neg h]
    have hall : ∀ y ∈ oneL x.l, noItem y = false := by
      intro y hy
      simp only [oneL, List.mem_map] at hy
      obtain ⟨r, hr, rfl⟩ := hy
      obtain ⟨h1, h2⟩ := valOne_right' (pickI r.k 5) r.n r.s (hl r (List.mem_of_mem_take hr)).2.1
      simp [noItem, h1, h2]
    have hlen : (oneL x.l).length ≤ 12 := by simp [oneL]; omega
    have hany : (oneL x.l).any noItem = false := by rw [List.any_eq_false]; intro y hy; rw [hall y hy]; decide
    simp [rightV, V.k, V.n, V.s, V.l, hlen, hany]
theorem encV_len {x : V} (h : rightV x = true) : (encV x).length ≤ 980 ∧ 0 < (encV x).length := by
  by_cases h5 : x.k = 5
  · obtain ⟨h1, h2, h3, h4⟩ := rightL_inv h h5
    have := encTo_len (l := x.l) (fun y hy => (right1_ok (h4 y hy).2).1.2.2) x.l.length
    rw [encTo_all x h5] at this
    refine ⟨by omega, ?_⟩
    have := num_pos 5
    unfold encV; rw [if_pos h5]; simp; omega
  · have := enc1_len (right1_ok (rightV_one h h5)).1.2.2
    unfold encV; rw [if_neg h5]
    refine ⟨by omega, ?_⟩
    have := num_pos x.k
    unfold enc1; simp; omega
theorem rightV_I64 {x : V} (h : rightV x = true) : I64 x.k ∧ I64 x.n := by
  by_cases h5 : x.k = 5
  · obtain ⟨h1, _⟩ := rightL_inv h h5
    rw [h5, h1]; unfold I64; decide
  · have := (right1_ok (rightV_one h h5)).1
    exact ⟨this.1, this.2.1⟩
theorem encV_head (x : V) : ∃ r, encV x = num x.k ++ r := by
  by_cases h5 : x.k = 5
  · exact ⟨num x.l.length ++ x.l.flatMap enc1, by unfold encV; rw [if_pos h5, h5, List.append_assoc]⟩
  · exact ⟨_, by unfold encV; rw [if_neg h5]; rfl⟩
theorem read_kind {x : V} (h : rightV x = true) : readNum (encV x) 0 = some (x.k, ((num x.k).length : Int)) := by
  obtain ⟨r, hr⟩ := encV_head x
  have hk := (rightV_I64 h).1
  have := enc_num x.k hk.1 hk.2 [] r
  simp at this
  rw [hr]; exact this
theorem read_n {x : V} (h : rightV x = true) (hk : x.k = 1 ∨ x.k = 3 ∨ x.k = 4) : readNum (encV x) ((num x.k).length : Int) = some (x.n, ((encV x).length : Int)) := by
  have he : encV x = num x.k ++ num x.n := by unfold encV; rw [if_neg (by omega)]; unfold enc1; rw [if_pos hk]
  have hn := (rightV_I64 h).2
  have := enc_num x.n hn.1 hn.2 (num x.k) []
  simp at this
  rw [he, this]; simp
theorem valKinds_ok (a0 a1 : Addr) (m : Nat) (x : RawV) (hx : x.ok) : SCalls Tryd.prog (gl a0 a1 m) 10 [x.tv] [] (.pv (.v (.bool true))) [] := by
  refine call_of0 hmix tf_morainelaw03_ValKinds rfl ?_
  have HA := awake_ok a0 a1 m
  have HX := valOf_ok (gl a0 a1 m) x hx
  have hr := valOf_right x hx
  unfold RawV.tv at HX ⊢
  generalize valOf x = v at HX hr
  have HE := encode_ok a0 a1 m v (rightV_vok hr).1
  unfold encTV at HE
  rw [if_pos hr] at HE
  have hl := encV_len hr
  have HK := readNum_ok a0 a1 m (encV v) 0 (by omega) (by unfold I64; decide)
  rw [read_kind hr] at HK
  have hnl := num_length v.k
  simp only [vcA, Nat.reduceLT, Int.reduceEq, Int.reduceAdd, Int.reduceSub, Nat.reduceBEq, Nat.reduceEqDiff, reduceCtorEq, Nat.reduceAdd, Nat.reduceSub, Nat.reduceMul, Nat.reduceLeDiff, Int.reduceToNat, Int.reduceLT, Int.reduceLE, Int.reduceNeg, reduceIte, I, S, tv, nv, tyT, RawV.tv, R1.row, rowsGet, rowsLen, row4, Vk, Vn, Vs, Vl]
  (with_reducible apply v_call); (· simp only [vcA, Nat.reduceLT, Int.reduceEq, Int.reduceAdd, Int.reduceSub, Nat.reduceBEq, Nat.reduceEqDiff, reduceCtorEq, Nat.reduceAdd, Nat.reduceSub, Nat.reduceMul, Nat.reduceLeDiff, Int.reduceToNat, Int.reduceLT, Int.reduceLE, Int.reduceNeg, reduceIte, I, S, tv, nv, tyT, RawV.tv, R1.row, rowsGet, rowsLen, row4, Vk, Vn, Vs, Vl]; with_reducible rfl); (· exact HA); (· first | rfl | (simp only [moOk, nbeq, nble, List.length_nil, beq_self_eq_true, Bool.true_and, Bool.and_true, Bool.and_eq_true, decide_eq_true_eq]; omega)); (· simp only [vcA, Nat.reduceLT, Int.reduceEq, Int.reduceAdd, Int.reduceSub, Nat.reduceBEq, Nat.reduceEqDiff, reduceCtorEq, Nat.reduceAdd, Nat.reduceSub, Nat.reduceMul, Nat.reduceLeDiff, Int.reduceToNat, Int.reduceLT, Int.reduceLE, Int.reduceNeg, reduceIte, I, S, tv, nv, tyT, RawV.tv, R1.row, rowsGet, rowsLen, row4, Vk, Vn, Vs, Vl]; with_reducible rfl)
  simp only [vcA, Nat.reduceLT, Int.reduceEq, Int.reduceAdd, Int.reduceSub, Nat.reduceBEq, Nat.reduceEqDiff, reduceCtorEq, Nat.reduceAdd, Nat.reduceSub, Nat.reduceMul, Nat.reduceLeDiff, Int.reduceToNat, Int.reduceLT, Int.reduceLE, Int.reduceNeg, reduceIte, I, S, tv, nv, tyT, RawV.tv, R1.row, rowsGet, rowsLen, row4, Vk, Vn, Vs, Vl]
  (with_reducible apply v_call); (· simp only [vcA, Nat.reduceLT, Int.reduceEq, Int.reduceAdd, Int.reduceSub, Nat.reduceBEq, Nat.reduceEqDiff, reduceCtorEq, Nat.reduceAdd, Nat.reduceSub, Nat.reduceMul, Nat.reduceLeDiff, Int.reduceToNat, Int.reduceLT, Int.reduceLE, Int.reduceNeg, reduceIte, I, S, tv, nv, tyT, RawV.tv, R1.row, rowsGet, rowsLen, row4, Vk, Vn, Vs, Vl]; with_reducible rfl); (· exact HX); (· first | rfl | (simp only [moOk, nbeq, nble, List.length_nil, beq_self_eq_true, Bool.true_and, Bool.and_true, Bool.and_eq_true, decide_eq_true_eq]; omega)); (· simp only [vcA, Nat.reduceLT, Int.reduceEq, Int.reduceAdd, Int.reduceSub, Nat.reduceBEq, Nat.reduceEqDiff, reduceCtorEq, Nat.reduceAdd, Nat.reduceSub, Nat.reduceMul, Nat.reduceLeDiff, Int.reduceToNat, Int.reduceLT, Int.reduceLE, Int.reduceNeg, reduceIte, I, S, tv, nv, tyT, RawV.tv, R1.row, rowsGet, rowsLen, row4, Vk, Vn, Vs, Vl]; with_reducible rfl)
  simp only [vcA, Nat.reduceLT, Int.reduceEq, Int.reduceAdd, Int.reduceSub, Nat.reduceBEq, Nat.reduceEqDiff, reduceCtorEq, Nat.reduceAdd, Nat.reduceSub, Nat.reduceMul, Nat.reduceLeDiff, Int.reduceToNat, Int.reduceLT, Int.reduceLE, Int.reduceNeg, reduceIte, I, S, tv, nv, tyT, RawV.tv, R1.row, rowsGet, rowsLen, row4, Vk, Vn, Vs, Vl]
  (with_reducible apply v_call); (· simp only [vcA, Nat.reduceLT, Int.reduceEq, Int.reduceAdd, Int.reduceSub, Nat.reduceBEq, Nat.reduceEqDiff, reduceCtorEq, Nat.reduceAdd, Nat.reduceSub, Nat.reduceMul, Nat.reduceLeDiff, Int.reduceToNat, Int.reduceLT, Int.reduceLE, Int.reduceNeg, reduceIte, I, S, tv, nv, tyT, RawV.tv, R1.row, rowsGet, rowsLen, row4, Vk, Vn, Vs, Vl]; with_reducible rfl); (· exact HE); (· first | rfl | (simp only [moOk, nbeq, nble, List.length_nil, beq_self_eq_true, Bool.true_and, Bool.and_true, Bool.and_eq_true, decide_eq_true_eq]; omega)); (· simp only [vcA, Nat.reduceLT, Int.reduceEq, Int.reduceAdd, Int.reduceSub, Nat.reduceBEq, Nat.reduceEqDiff, reduceCtorEq, Nat.reduceAdd, Nat.reduceSub, Nat.reduceMul, Nat.reduceLeDiff, Int.reduceToNat, Int.reduceLT, Int.reduceLE, Int.reduceNeg, reduceIte, I, S, tv, nv, tyT, RawV.tv, R1.row, rowsGet, rowsLen, row4, Vk, Vn, Vs, Vl]; with_reducible rfl)
  simp only [vcA, Nat.reduceLT, Int.reduceEq, Int.reduceAdd, Int.reduceSub, Nat.reduceBEq, Nat.reduceEqDiff, reduceCtorEq, Nat.reduceAdd, Nat.reduceSub, Nat.reduceMul, Nat.reduceLeDiff, Int.reduceToNat, Int.reduceLT, Int.reduceLE, Int.reduceNeg, reduceIte, I, S, tv, nv, tyT, RawV.tv, R1.row, rowsGet, rowsLen, row4, Vk, Vn, Vs, Vl]
  (with_reducible apply v_call); (· simp only [vcA, Nat.reduceLT, Int.reduceEq, Int.reduceAdd, Int.reduceSub, Nat.reduceBEq, Nat.reduceEqDiff, reduceCtorEq, Nat.reduceAdd, Nat.reduceSub, Nat.reduceMul, Nat.reduceLeDiff, Int.reduceToNat, Int.reduceLT, Int.reduceLE, Int.reduceNeg, reduceIte, I, S, tv, nv, tyT, RawV.tv, R1.row, rowsGet, rowsLen, row4, Vk, Vn, Vs, Vl, numTV]; with_reducible rfl); (· exact HK); (· first | rfl | (simp only [moOk, nbeq, nble, List.length_nil, beq_self_eq_true, Bool.true_and, Bool.and_true, Bool.and_eq_true, decide_eq_true_eq]; omega)); (· simp only [vcA, Nat.reduceLT, Int.reduceEq, Int.reduceAdd, Int.reduceSub, Nat.reduceBEq, Nat.reduceEqDiff, reduceCtorEq, Nat.reduceAdd, Nat.reduceSub, Nat.reduceMul, Nat.reduceLeDiff, Int.reduceToNat, Int.reduceLT, Int.reduceLE, Int.reduceNeg, reduceIte, I, S, tv, nv, tyT, RawV.tv, R1.row, rowsGet, rowsLen, row4, Vk, Vn, Vs, Vl, numTV]; with_reducible rfl)
  simp only [vcA, Nat.reduceLT, Int.reduceEq, Int.reduceAdd, Int.reduceSub, Nat.reduceBEq, Nat.reduceEqDiff, reduceCtorEq, Nat.reduceAdd, Nat.reduceSub, Nat.reduceMul, Nat.reduceLeDiff, Int.reduceToNat, Int.reduceLT, Int.reduceLE, Int.reduceNeg, reduceIte, I, S, tv, nv, tyT, RawV.tv, R1.row, rowsGet, rowsLen, row4, Vk, Vn, Vs, Vl]
  have HN : (v.k = 1 ∨ v.k = 3 ∨ v.k = 4) → SCalls Tryd.prog (gl a0 a1 m) 35 [S (str (encV v)), I ((num v.k).length : Int)] [] (numTV (some (v.n, ((encV v).length : Int)))) [] := fun hk => by
    have h := readNum_ok a0 a1 m (encV v) ((num v.k).length : Int) (by omega) (by unfold I64; omega)
    rw [read_n hr hk] at h; exact h
  repeat' (first | (apply And.intro) | (intro _))
  all_goals first
    | ((with_reducible apply v_call); (· simp only [vcA, Nat.reduceLT, Int.reduceEq, Int.reduceAdd, Int.reduceSub, Nat.reduceBEq, Nat.reduceEqDiff, reduceCtorEq, Nat.reduceAdd, Nat.reduceSub, Nat.reduceMul, Nat.reduceLeDiff, Int.reduceToNat, Int.reduceLT, Int.reduceLE, Int.reduceNeg, reduceIte, I, S, tv, nv, tyT, RawV.tv, R1.row, rowsGet, rowsLen, row4, Vk, Vn, Vs, Vl, numTV]; with_reducible rfl); (· exact HN (by omega)); (· first | rfl | (simp only [moOk, nbeq, nble, List.length_nil, beq_self_eq_true, Bool.true_and, Bool.and_true, Bool.and_eq_true, decide_eq_true_eq]; omega)); (· simp only [vcA, Nat.reduceLT, Int.reduceEq, Int.reduceAdd, Int.reduceSub, Nat.reduceBEq, Nat.reduceEqDiff, reduceCtorEq, Nat.reduceAdd, Nat.reduceSub, Nat.reduceMul, Nat.reduceLeDiff, Int.reduceToNat, Int.reduceLT, Int.reduceLE, Int.reduceNeg, reduceIte, I, S, tv, nv, tyT, RawV.tv, R1.row, rowsGet, rowsLen, row4, Vk, Vn, Vs, Vl, numTV]; with_reducible rfl); simp only [vcA, Nat.reduceLT, Int.reduceEq, Int.reduceAdd, Int.reduceSub, Nat.reduceBEq, Nat.reduceEqDiff, reduceCtorEq, Nat.reduceAdd, Nat.reduceSub, Nat.reduceMul, Nat.reduceLeDiff, Int.reduceToNat, Int.reduceLT, Int.reduceLE, Int.reduceNeg, reduceIte, I, S, tv, nv, tyT, RawV.tv, R1.row, rowsGet, rowsLen, row4, Vk, Vn, Vs, Vl]; done)
    | trivial
end Go.Proofs.YtdlolkogifigpaaDoor
end

section
/- What is laid as bytes is read back; what is cut off is none. No statement of the program is proved here. -/
namespace Go.Proofs.YtdlolkogifigpaaDoor
open Go Go.Mor
abbrev Rx (α : Type) := List UInt8 → Int → Except Int (α × Int)
def bindE {α β : Type} (r : Rx α) (f : α → Rx β) : Rx β := fun s a => match r s a with | .ok (x, b) => f x s b | .error e => .error e
def EncE {α : Type} (r : Rx α) (e : List UInt8) (v : α) : Prop := ∀ pre post : List UInt8, r (pre ++ e ++ post) pre.length = .ok (v, ((pre.length + e.length : Nat) : Int))
def CutE {α : Type} (r : Rx α) : Prop := ∀ (s : List UInt8) (a : Int) (v : α) (b : Int) (k : Nat), r s a = .ok (v, b) → a ≤ k → a ≤ b ∧ (b ≤ k → r (s.take k) a = .ok (v, b)) ∧ (k < b → r (s.take k) a = .error 10)
theorem EncE.bind {α β : Type} {r : Rx α} {f : α → Rx β} {e1 e2 : List UInt8} {v1 : α} {v2 : β} (h1 : EncE r e1 v1) (h2 : EncE (f v1) e2 v2) : EncE (bindE r f) (e1 ++ e2) v2 := by
  intro pre post
  unfold bindE
  have a1 := h1 pre (e2 ++ post)
  have a2 := h2 (pre ++ e1) post
  rw [show pre ++ (e1 ++ e2) ++ post = pre ++ e1 ++ (e2 ++ post) by simp, a1]
  simp only []
  rw [show pre ++ e1 ++ (e2 ++ post) = pre ++ e1 ++ e2 ++ post by simp, show pre.length + e1.length = (pre ++ e1).length by simp, a2]
  simp [Nat.add_assoc]
theorem CutE.bind {α β : Type} {r : Rx α} {f : α → Rx β} (h1 : CutE r) (h2 : ∀ v, CutE (f v)) : CutE (bindE r f) := by
  intro s a v b k h hk
  unfold bindE at h ⊢
  cases hr : r s a with
  | error e => rw [hr] at h; cases h
  | ok q =>
    obtain ⟨x, c⟩ := q
    rw [hr] at h
    simp only [] at h
    obtain ⟨p1, p2, p3⟩ := h1 s a x c k hr hk
    have hc : c ≤ b := (h2 x s c v b c.toNat h (by omega)).1
    refine ⟨by omega, fun hb => ?_, fun hb => ?_⟩
    · rw [p2 (by omega)]
      exact (h2 x s c v b k h (by omega)).2.1 hb
    · by_cases hck : c ≤ k
      · rw [p2 hck]; exact (h2 x s c v b k h hck).2.2 hb
      · rw [p3 (by omega)]
theorem CutE.ret {α : Type} (v : α) : CutE (fun _ a => .ok (v, a)) := by
  intro s a w b k h hk
  cases h
  exact ⟨Int.le_refl _, fun _ => rfl, fun h => by omega⟩
theorem CutE.fail {α : Type} (e : Int) : CutE (fun _ _ => (.error e : Except Int (α × Int))) := fun s a v b k h => by cases h
theorem cutE_num (lo hi : Int) : CutE (fun s a => dNum s a lo hi) := by
  intro s a n b k h hk
  obtain ⟨hr, h1, h2⟩ := dNum_inv h
  obtain ⟨p1, p2, p3⟩ := cuts_num s a n b k hr hk
  refine ⟨p1, fun hb => ?_, fun hb => ?_⟩
  · show dNum (s.take k) a lo hi = _
    unfold dNum; rw [p2 hb]; simp only []; rw [if_neg (by omega)]
  · show dNum (s.take k) a lo hi = _
    unfold dNum; rw [p3 hb]
theorem dText_inv {s : List UInt8} {a : Int} {t : List UInt8} {b : Int} (h : dText s a = .ok (t, b)) : readText s a = some (t, b) ∧ rightText t = true := by
  unfold dText at h
  cases hr : readText s a with
  | none => rw [hr] at h; cases h
  | some q =>
    obtain ⟨t', b'⟩ := q
    rw [hr] at h
    simp only [] at h
    by_cases hh : rightText t' = true
    · rw [if_pos hh] at h; cases h; exact ⟨rfl, hh⟩
    · rw [if_neg hh] at h; cases h
theorem cutE_text : CutE dText := by
  intro s a t b k h hk
  obtain ⟨hr, h1⟩ := dText_inv h
  obtain ⟨p1, p2, p3⟩ := cuts_text s a t b k hr hk
  refine ⟨p1, fun hb => ?_, fun hb => ?_⟩
  · unfold dText; rw [p2 hb]; simp only []; rw [if_pos h1]
  · unfold dText; rw [p3 hb]
theorem encE_num {x lo hi : Int} (hx : I64 x) (h1 : lo ≤ x) (h2 : x ≤ hi) : EncE (fun s a => dNum s a lo hi) (num x) x := by
  intro pre post
  show dNum _ _ _ _ = _
  unfold dNum; rw [enc_num x hx.1 hx.2 pre post]; simp only []; rw [if_neg (by omega)]
theorem encE_text {t : List UInt8} (h : rightText t = true) : EncE dText (text t) t := by
  intro pre post
  unfold dText; rw [enc_text t (by have := rightText_len h; omega) pre post]; simp only []; rw [if_pos h]
theorem EncE.ret {α : Type} (v : α) : EncE (fun _ a => .ok (v, a)) [] v := fun pre post => by simp
theorem dRest_eq (k : Int) : (fun s b => dRest s k b) = (if k = 1 then bindE (fun s b => dNum s b (-1000000000000000) 1000000000000000) (fun n => fun _ c => .ok (.mk 1 n [] [], c))
    else if k = 2 then bindE dText (fun t => fun _ c => .ok (.mk 2 0 t [], c))
    else if k = 3 ∨ k = 4 then bindE (fun s b => dNum s b (-20) 100000) (fun n => if n = 0 then (fun _ _ => .error 30) else (fun _ c => .ok (.mk k n [] [], c)))
    else (fun _ b => .ok (.mk k 0 [] [], b))) := by
  funext s b
  unfold dRest
  by_cases e1 : k = 1
  · simp only [e1, if_true, bindE]
    cases dNum s b (-1000000000000000) 1000000000000000 <;> rfl
  by_cases e2 : k = 2
  · rw [if_neg e1, if_neg e1, if_pos e2, if_pos e2]
    unfold bindE
    cases dText s b <;> rfl
  by_cases e3 : k = 3 ∨ k = 4
  · simp only [e1, e2, e3, if_true, if_false, bindE]
    cases dNum s b (-20) 100000 with
    | error e => rfl
    | ok q => obtain ⟨n, c⟩ := q; simp only []; split <;> rfl
  · simp only [e1, e2, e3, if_false]
theorem cutE_rest (k : Int) : CutE (fun s b => dRest s k b) := by
  rw [dRest_eq]
  split
  · exact (cutE_num _ _).bind fun n => CutE.ret _
  split
  · exact cutE_text.bind fun t => CutE.ret _
  split
  · refine (cutE_num _ _).bind fun n => ?_
    split
    · exact CutE.fail 30
    · exact CutE.ret _
  · exact CutE.ret _
theorem dVal1_eq : dVal1 = bindE (fun s a => dNum s a 0 4) (fun k => fun s b => dRest s k b) := by
  funext s a; simp only [dVal1, bindE]; cases dNum s a 0 4 <;> rfl
theorem cutE_val1 : CutE dVal1 := by rw [dVal1_eq]; exact (cutE_num _ _).bind cutE_rest
theorem dLoop_eq (n : Nat) (l : List V) : (fun s a => dLoop s (n + 1) a l) = bindE dVal1 (fun v => fun s b => dLoop s n b (l ++ [v])) := by
  funext s a; simp only [dLoop, bindE]; cases dVal1 s a <;> rfl
theorem cutE_loop : ∀ (n : Nat) (l : List V), CutE (fun s a => dLoop s n a l)
  | 0, l => by simp only [dLoop]; exact CutE.ret _
  | n + 1, l => by rw [dLoop_eq]; exact cutE_val1.bind fun v => cutE_loop n _
theorem dItems_eq : dItems = bindE (fun s a => dNum s a 0 12) (fun n => fun s b => dLoop s n.toNat b []) := by
  funext s a; simp only [dItems, bindE]; cases dNum s a 0 12 <;> rfl
theorem dVal_eq : dVal = bindE (fun s a => dNum s a 0 5) (fun k => if k = 5 then bindE dItems (fun l => fun _ c => .ok (.mk 5 0 [] l, c)) else fun s b => dRest s k b) := by
  funext s a; simp only [dVal, bindE]
  cases dNum s a 0 5 with
  | error e => rfl
  | ok q =>
    obtain ⟨k, b⟩ := q
    simp only []
    by_cases h5 : k = 5
    · rw [if_pos h5, if_pos h5]; simp only [bindE]; cases dItems s b <;> rfl
    · rw [if_neg h5, if_neg h5]
theorem cutE_val : CutE dVal := by
  rw [dVal_eq]
  refine (cutE_num _ _).bind fun k => ?_
  split
  · rw [dItems_eq]; exact ((cutE_num _ _).bind fun n => cutE_loop _ _).bind fun l => CutE.ret _
  · exact cutE_rest k
theorem encE_one {x : V} (h : right1 x = true) (hi : Int) (hh : 4 ≤ hi) : EncE (bindE (fun s a => dNum s a 0 hi) (fun k => fun s b => dRest s k b)) (enc1 x) x := by
  have hok := (right1_ok h).1
  rcases right1_inv h with rfl | ⟨n, h1, h2, rfl⟩ | ⟨s, h1, rfl⟩ | ⟨k, n, hk, h1, rfl⟩
  · have he : enc1 (.mk 0 0 [] []) = num 0 ++ [] := rfl
    rw [he]
    refine (encE_num (by unfold I64; decide) (by decide) (by omega)).bind ?_
    rw [dRest_eq]; exact EncE.ret _
  · have he : enc1 (.mk 1 n [] []) = num 1 ++ (num n ++ []) := by rw [List.append_nil]; rfl
    rw [he]
    refine (encE_num (by unfold I64; decide) (by decide) (by omega)).bind ?_
    rw [dRest_eq, if_pos rfl]
    exact (encE_num hok.2.1 h1 h2).bind (EncE.ret _)
  · have he : enc1 (.mk 2 0 s []) = num 2 ++ (text s ++ []) := by rw [List.append_nil]; rfl
    rw [he]
    refine (encE_num (by unfold I64; decide) (by decide) (by omega)).bind ?_
    rw [dRest_eq, if_neg (by decide), if_pos rfl]
    exact (encE_text h1).bind (EncE.ret _)
  · have hid := rightID_inv h1
    have he : enc1 (.mk k n [] []) = num k ++ (num n ++ []) := by
      unfold enc1; rw [Vk, Vn, if_pos (by omega), List.append_nil]
    rw [he]
    refine (encE_num (x := k) hok.1 (by omega) (by omega)).bind ?_
    rw [dRest_eq, if_neg (by omega), if_neg (by omega), if_pos hk]
    refine (encE_num (x := n) hok.2.1 (by omega) (by omega)).bind ?_
    rw [if_neg (by omega)]
    exact EncE.ret _
theorem encE_val1 {x : V} (h : right1 x = true) : EncE dVal1 (enc1 x) x := by rw [dVal1_eq]; exact encE_one h 4 (by decide)
theorem encE_loop : ∀ (l acc : List V), (∀ y ∈ l, right1 y = true) → EncE (fun s a => dLoop s l.length a acc) (l.flatMap enc1) (acc ++ l)
  | [], acc, _ => by simp only [List.length_nil, dLoop, List.flatMap_nil, List.append_nil]; exact EncE.ret _
  | y :: l, acc, h => by
    rw [List.length_cons, dLoop_eq, List.flatMap_cons]
    refine (encE_val1 (h y (by simp))).bind ?_
    have := encE_loop l (acc ++ [y]) (fun z hz => h z (by simp [hz]))
    rw [List.append_assoc] at this
    exact this
theorem encE_val {x : V} (h : rightV x = true) : EncE dVal (encV x) x := by
  by_cases h5 : x.k = 5
  · obtain ⟨h1, h2, h3, h4⟩ := rightL_inv h h5
    have he : encV x = num 5 ++ ((num x.l.length ++ x.l.flatMap enc1) ++ []) := by unfold encV; rw [if_pos h5]; simp
    have hx : x = .mk 5 0 [] x.l := by conv => lhs; rw [← V.eta x, h5, h1, h2]
    rw [he, dVal_eq]
    refine (encE_num (by unfold I64; decide) (by decide) (by decide)).bind ?_
    rw [if_pos rfl]
    have hI : EncE dItems (num x.l.length ++ x.l.flatMap enc1) x.l := by
      rw [dItems_eq]
      refine (encE_num (by unfold I64; omega) (by omega) (by omega)).bind ?_
      have := encE_loop x.l [] (fun y hy => (h4 y hy).2)
      rw [Int.toNat_natCast]
      simpa using this
    have := hI.bind (β := V) (f := fun l => fun _ c => .ok (V.mk 5 0 [] l, c)) (EncE.ret (V.mk 5 0 [] x.l))
    rw [← hx] at this
    exact this
  · have hr := rightV_one h h5
    have he : encV x = enc1 x := by unfold encV; rw [if_neg h5]
    rw [he]
    have h0 := encE_one hr 5 (by decide)
    intro pre post
    have := h0 pre post
    rw [dVal_eq]
    simp only [bindE] at this ⊢
    cases hn : dNum (pre ++ enc1 x ++ post) pre.length 0 5 with
    | error e => rw [hn] at this; cases this
    | ok q =>
      obtain ⟨k, b⟩ := q
      rw [hn] at this
      simp only [] at this ⊢
      have hk5 : k ≠ 5 := by
        intro hk
        have hd := (dNum_inv hn).1
        have hhd : ∃ r, enc1 x = num x.k ++ r := ⟨_, rfl⟩
        obtain ⟨r, hr'⟩ := hhd
        have hok := (right1_ok hr).1.1
        have := enc_num x.k hok.1 hok.2 pre (r ++ post)
        rw [show pre ++ num x.k ++ (r ++ post) = pre ++ enc1 x ++ post by rw [hr']; simp, hd] at this
        cases this
        exact h5 hk
      rw [if_neg hk5]
      exact this
theorem EncE.cut {α : Type} {r : Rx α} {e : List UInt8} {v : α} (h : EncE r e v) (hc : CutE r) (k : Nat) (hk : k < e.length) : r (e.take k) 0 = .error 10 := by
  have h0 := h [] []
  simp at h0
  exact (hc e 0 v _ k h0 (by omega)).2.2 (by omega)
theorem EncE.begins {α : Type} {r : Rx α} {e e' : List UInt8} {v v' : α} (h : EncE r e v) (h' : EncE r e' v') (hp : e <+: e') : v = v' := by
  obtain ⟨t, rfl⟩ := hp
  have a := h [] t
  have b := h' [] []
  simp at a b
  rw [a] at b
  simp only [Except.ok.injEq, Prod.mk.injEq] at b
  exact b.1
end Go.Proofs.YtdlolkogifigpaaDoor
end

section
/- The law ValCut, walked. No statement of the program is proved here. -/
namespace Go.Proofs.YtdlolkogifigpaaDoor
open Go Go.RowKit Go.Mor Go.Sh Go.Sh.Cd1
set_option maxRecDepth 100000
set_option maxHeartbeats 4000000
theorem num5 : num 5 = [10] := by decide
theorem num1 : num 1 = [2] := by decide
theorem num0 : num 0 = [0] := by decide
def lst1 (k : Int) : V := .mk 5 0 [] [.mk k 0 [] []]
theorem right_ll : rightV (lst1 5) = false := by decide
theorem right_ln : rightV (lst1 0) = true := by decide
theorem enc_ln : encV (lst1 0) = [10, 2, 0] := by decide
theorem dec_odd : dVal [10, 2, 10, 0] 0 = .error 30 := by rfl
theorem wk_lst (k : Int) : Wk (.agg [I 5, I 0, S ⟨#[]⟩, .pv (.sl 4 [[.v (.int .i64 k), .v (.int .i64 0), .v (.string ⟨#[]⟩), .v (.slice none 0 0)]])]) (tv (lst1 k)) := wk4 (wk_pv (pwk_row [] k 0))
theorem valCut_ok (a0 a1 : Addr) (m : Nat) (x : RawV) (at_ : Int) (hx : x.ok) (ha : I64 at_) :
    SCalls Tryd.prog (gl a0 a1 m) 9 [x.tv, I at_] [] (.pv (.v (.bool true))) [] := by
  refine call_of0 hmix tf_morainelaw03_ValCut rfl ?_
  have HA := awake_ok a0 a1 m
  have HX := valOf_ok (gl a0 a1 m) x hx
  have rx := valOf_right x hx
  unfold RawV.tv at HX ⊢
  generalize valOf x = v at HX rx
  obtain ⟨o1, s1, _, _⟩ := rightV_vok rx
  have HE := encode_ok a0 a1 m v o1
  unfold encTV at HE
  rw [if_pos rx] at HE
  have l1 := encV_len rx
  have HP := pickI_ok (gl a0 a1 m) at_ ((encV v).length : Int) ha (by omega)
  have hp := pickI_lt (n := ((encV v).length : Int)) (by omega) ha
  obtain ⟨k, hk⟩ : ∃ k : Nat, pickI at_ ((encV v).length : Int) = k := ⟨_, (Int.toNat_of_nonneg hp.1).symm⟩
  rw [hk] at HP hp
  have HD := decode_err a0 a1 m ((encV v).take k) 0 (by unfold SmallS; simp; omega) (by decide) (by omega) ((encE_val rx).cut cutE_val k (by omega))
  have HL : SCalls Tryd.prog (gl a0 a1 m) 28 [.agg [I 5, I 0, S ⟨#[]⟩, .pv (.sl 4 [[.v (.int .i64 5), .v (.int .i64 0), .v (.string ⟨#[]⟩), .v (.slice none 0 0)]])]] [] (.tuple [S (str []), I 30]) [] := by
    have h := encode_ok a0 a1 m (lst1 5) ⟨by unfold TextsOk lst1; simp [V.s], by simp [lst1, V.l, TextsOk, V.s]⟩
    unfold encTV at h; rw [if_neg (by rw [right_ll]; decide)] at h
    exact h.inp rfl (fun j c d hc hd => by
      match j with
      | 0 => simp at hc hd; subst hc; subst hd; exact wk_lst 5
      | j + 1 => simp at hc)
  have HO : SCalls Tryd.prog (gl a0 a1 m) 28 [.agg [I 5, I 0, S ⟨#[]⟩, .pv (.sl 4 [[.v (.int .i64 0), .v (.int .i64 0), .v (.string ⟨#[]⟩), .v (.slice none 0 0)]])]] [] (.tuple [S (str [10, 2, 0]), I 0]) [] := by
    have h := encode_ok a0 a1 m (lst1 0) ⟨by unfold TextsOk lst1; simp [V.s], by simp [lst1, V.l, TextsOk, V.s]⟩
    unfold encTV at h; rw [if_pos right_ln, enc_ln] at h
    exact h.inp rfl (fun j c d hc hd => by
      match j with
      | 0 => simp at hc hd; subst hc; subst hd; exact wk_lst 0
      | j + 1 => simp at hc)
  have HQ := decode_err a0 a1 m [10, 2, 10, 0] 0 (by unfold SmallS; decide) (by decide) (by decide) dec_odd
  have HS : SCalls Tryd.prog (gl a0 a1 m) 30 [nv V.nil, nv V.nil] [] (.pv (.v (.bool true))) [] := by
    have h := refSame_ok (gl a0 a1 m) V.nil V.nil (.mk (by simp) (by simp))
    rw [cmpV_self] at h
    exact h.inp rfl (fun j c d hc hd => by
      match j with
      | 0 => simp at hc hd; subst hc; subst hd; exact nv_tv rfl
      | 1 => simp at hc hd; subst hc; subst hd; exact nv_tv rfl
      | j + 2 => simp at hc)
  simp only [vcA, Nat.reduceLT, Int.reduceEq, Int.reduceAdd, Int.reduceSub, Nat.reduceBEq, Nat.reduceEqDiff, reduceCtorEq, Nat.reduceAdd, Nat.reduceSub, Nat.reduceMul, Nat.reduceLeDiff, Int.reduceToNat, Int.reduceLT, Int.reduceLE, Int.reduceNeg, reduceIte, I, S, tv, nv, tyT, RawV.tv, R1.row, rowsGet, rowsLen, row4, Vk, Vn, Vs, Vl]
  (with_reducible apply v_call); (· simp only [vcA, Nat.reduceLT, Int.reduceEq, Int.reduceAdd, Int.reduceSub, Nat.reduceBEq, Nat.reduceEqDiff, reduceCtorEq, Nat.reduceAdd, Nat.reduceSub, Nat.reduceMul, Nat.reduceLeDiff, Int.reduceToNat, Int.reduceLT, Int.reduceLE, Int.reduceNeg, reduceIte, I, S, tv, nv, tyT, RawV.tv, R1.row, rowsGet, rowsLen, row4, Vk, Vn, Vs, Vl]; with_reducible rfl); (· exact HA); (· first | rfl | (simp only [moOk, nbeq, nble, List.length_nil, beq_self_eq_true, Bool.true_and, Bool.and_true, Bool.and_eq_true, decide_eq_true_eq]; omega)); (· simp only [vcA, Nat.reduceLT, Int.reduceEq, Int.reduceAdd, Int.reduceSub, Nat.reduceBEq, Nat.reduceEqDiff, reduceCtorEq, Nat.reduceAdd, Nat.reduceSub, Nat.reduceMul, Nat.reduceLeDiff, Int.reduceToNat, Int.reduceLT, Int.reduceLE, Int.reduceNeg, reduceIte, I, S, tv, nv, tyT, RawV.tv, R1.row, rowsGet, rowsLen, row4, Vk, Vn, Vs, Vl]; with_reducible rfl)
  simp only [vcA, Nat.reduceLT, Int.reduceEq, Int.reduceAdd, Int.reduceSub, Nat.reduceBEq, Nat.reduceEqDiff, reduceCtorEq, Nat.reduceAdd, Nat.reduceSub, Nat.reduceMul, Nat.reduceLeDiff, Int.reduceToNat, Int.reduceLT, Int.reduceLE, Int.reduceNeg, reduceIte, I, S, tv, nv, tyT, RawV.tv, R1.row, rowsGet, rowsLen, row4, Vk, Vn, Vs, Vl]
  (with_reducible apply v_call); (· simp only [vcA, Nat.reduceLT, Int.reduceEq, Int.reduceAdd, Int.reduceSub, Nat.reduceBEq, Nat.reduceEqDiff, reduceCtorEq, Nat.reduceAdd, Nat.reduceSub, Nat.reduceMul, Nat.reduceLeDiff, Int.reduceToNat, Int.reduceLT, Int.reduceLE, Int.reduceNeg, reduceIte, I, S, tv, nv, tyT, RawV.tv, R1.row, rowsGet, rowsLen, row4, Vk, Vn, Vs, Vl]; with_reducible rfl); (· exact HX); (· first | rfl | (simp only [moOk, nbeq, nble, List.length_nil, beq_self_eq_true, Bool.true_and, Bool.and_true, Bool.and_eq_true, decide_eq_true_eq]; omega)); (· simp only [vcA, Nat.reduceLT, Int.reduceEq, Int.reduceAdd, Int.reduceSub, Nat.reduceBEq, Nat.reduceEqDiff, reduceCtorEq, Nat.reduceAdd, Nat.reduceSub, Nat.reduceMul, Nat.reduceLeDiff, Int.reduceToNat, Int.reduceLT, Int.reduceLE, Int.reduceNeg, reduceIte, I, S, tv, nv, tyT, RawV.tv, R1.row, rowsGet, rowsLen, row4, Vk, Vn, Vs, Vl]; with_reducible rfl)
  simp only [vcA, Nat.reduceLT, Int.reduceEq, Int.reduceAdd, Int.reduceSub, Nat.reduceBEq, Nat.reduceEqDiff, reduceCtorEq, Nat.reduceAdd, Nat.reduceSub, Nat.reduceMul, Nat.reduceLeDiff, Int.reduceToNat, Int.reduceLT, Int.reduceLE, Int.reduceNeg, reduceIte, I, S, tv, nv, tyT, RawV.tv, R1.row, rowsGet, rowsLen, row4, Vk, Vn, Vs, Vl]
  (with_reducible apply v_call); (· simp only [vcA, Nat.reduceLT, Int.reduceEq, Int.reduceAdd, Int.reduceSub, Nat.reduceBEq, Nat.reduceEqDiff, reduceCtorEq, Nat.reduceAdd, Nat.reduceSub, Nat.reduceMul, Nat.reduceLeDiff, Int.reduceToNat, Int.reduceLT, Int.reduceLE, Int.reduceNeg, reduceIte, I, S, tv, nv, tyT, RawV.tv, R1.row, rowsGet, rowsLen, row4, Vk, Vn, Vs, Vl]; with_reducible rfl); (· exact HE); (· first | rfl | (simp only [moOk, nbeq, nble, List.length_nil, beq_self_eq_true, Bool.true_and, Bool.and_true, Bool.and_eq_true, decide_eq_true_eq]; omega)); (· simp only [vcA, Nat.reduceLT, Int.reduceEq, Int.reduceAdd, Int.reduceSub, Nat.reduceBEq, Nat.reduceEqDiff, reduceCtorEq, Nat.reduceAdd, Nat.reduceSub, Nat.reduceMul, Nat.reduceLeDiff, Int.reduceToNat, Int.reduceLT, Int.reduceLE, Int.reduceNeg, reduceIte, I, S, tv, nv, tyT, RawV.tv, R1.row, rowsGet, rowsLen, row4, Vk, Vn, Vs, Vl]; with_reducible rfl)
  generalize encV v = p at *
  have d0 : ¬ (p.length : Int) = 0 := by omega
  simp only [vcA, Nat.reduceLT, Int.reduceEq, Int.reduceAdd, Int.reduceSub, Nat.reduceBEq, Nat.reduceEqDiff, reduceCtorEq, Nat.reduceAdd, Nat.reduceSub, Nat.reduceMul, Nat.reduceLeDiff, Int.reduceToNat, Int.reduceLT, Int.reduceLE, Int.reduceNeg, reduceIte, I, S, tv, nv, tyT, RawV.tv, R1.row, rowsGet, rowsLen, row4, Vk, Vn, Vs, Vl, d0]
  (with_reducible apply v_call); (· simp only [vcA, Nat.reduceLT, Int.reduceEq, Int.reduceAdd, Int.reduceSub, Nat.reduceBEq, Nat.reduceEqDiff, reduceCtorEq, Nat.reduceAdd, Nat.reduceSub, Nat.reduceMul, Nat.reduceLeDiff, Int.reduceToNat, Int.reduceLT, Int.reduceLE, Int.reduceNeg, reduceIte, I, S, tv, nv, tyT, RawV.tv, R1.row, rowsGet, rowsLen, row4, Vk, Vn, Vs, Vl]; with_reducible rfl); (· exact HP); (· first | rfl | (simp only [moOk, nbeq, nble, List.length_nil, beq_self_eq_true, Bool.true_and, Bool.and_true, Bool.and_eq_true, decide_eq_true_eq]; omega)); (· simp only [vcA, Nat.reduceLT, Int.reduceEq, Int.reduceAdd, Int.reduceSub, Nat.reduceBEq, Nat.reduceEqDiff, reduceCtorEq, Nat.reduceAdd, Nat.reduceSub, Nat.reduceMul, Nat.reduceLeDiff, Int.reduceToNat, Int.reduceLT, Int.reduceLE, Int.reduceNeg, reduceIte, I, S, tv, nv, tyT, RawV.tv, R1.row, rowsGet, rowsLen, row4, Vk, Vn, Vs, Vl]; with_reducible rfl)
  simp only [vcA, Nat.reduceLT, Int.reduceEq, Int.reduceAdd, Int.reduceSub, Nat.reduceBEq, Nat.reduceEqDiff, reduceCtorEq, Nat.reduceAdd, Nat.reduceSub, Nat.reduceMul, Nat.reduceLeDiff, Int.reduceToNat, Int.reduceLT, Int.reduceLE, Int.reduceNeg, reduceIte, I, S, tv, nv, tyT, RawV.tv, R1.row, rowsGet, rowsLen, row4, Vk, Vn, Vs, Vl]
  refine ⟨⟨by omega, by omega⟩, ?_⟩
  unfold nv V.nil at HD HS HQ
  (with_reducible apply v_call); (· simp only [vcA, Nat.reduceLT, Int.reduceEq, Int.reduceAdd, Int.reduceSub, Nat.reduceBEq, Nat.reduceEqDiff, reduceCtorEq, Nat.reduceAdd, Nat.reduceSub, Nat.reduceMul, Nat.reduceLeDiff, Int.reduceToNat, Int.reduceLT, Int.reduceLE, Int.reduceNeg, reduceIte, I, S, tv, nv, tyT, RawV.tv, R1.row, rowsGet, rowsLen, row4, Vk, Vn, Vs, Vl]; with_reducible rfl); (· exact HD); (· first | rfl | (simp only [moOk, nbeq, nble, List.length_nil, beq_self_eq_true, Bool.true_and, Bool.and_true, Bool.and_eq_true, decide_eq_true_eq]; omega)); (· simp only [vcA, Nat.reduceLT, Int.reduceEq, Int.reduceAdd, Int.reduceSub, Nat.reduceBEq, Nat.reduceEqDiff, reduceCtorEq, Nat.reduceAdd, Nat.reduceSub, Nat.reduceMul, Nat.reduceLeDiff, Int.reduceToNat, Int.reduceLT, Int.reduceLE, Int.reduceNeg, reduceIte, I, S, tv, nv, tyT, RawV.tv, R1.row, rowsGet, rowsLen, row4, Vk, Vn, Vs, Vl]; with_reducible rfl)
  simp only [vcA, Nat.reduceLT, Int.reduceEq, Int.reduceAdd, Int.reduceSub, Nat.reduceBEq, Nat.reduceEqDiff, reduceCtorEq, Nat.reduceAdd, Nat.reduceSub, Nat.reduceMul, Nat.reduceLeDiff, Int.reduceToNat, Int.reduceLT, Int.reduceLE, Int.reduceNeg, reduceIte, I, S, tv, nv, tyT, RawV.tv, R1.row, rowsGet, rowsLen, row4, Vk, Vn, Vs, Vl]
  (with_reducible apply v_call); (· simp only [vcA, Nat.reduceLT, Int.reduceEq, Int.reduceAdd, Int.reduceSub, Nat.reduceBEq, Nat.reduceEqDiff, reduceCtorEq, Nat.reduceAdd, Nat.reduceSub, Nat.reduceMul, Nat.reduceLeDiff, Int.reduceToNat, Int.reduceLT, Int.reduceLE, Int.reduceNeg, reduceIte, I, S, tv, nv, tyT, RawV.tv, R1.row, rowsGet, rowsLen, row4, Vk, Vn, Vs, Vl]; with_reducible rfl); (· exact HL); (· first | rfl | (simp only [moOk, nbeq, nble, List.length_nil, beq_self_eq_true, Bool.true_and, Bool.and_true, Bool.and_eq_true, decide_eq_true_eq]; omega)); (· simp only [vcA, Nat.reduceLT, Int.reduceEq, Int.reduceAdd, Int.reduceSub, Nat.reduceBEq, Nat.reduceEqDiff, reduceCtorEq, Nat.reduceAdd, Nat.reduceSub, Nat.reduceMul, Nat.reduceLeDiff, Int.reduceToNat, Int.reduceLT, Int.reduceLE, Int.reduceNeg, reduceIte, I, S, tv, nv, tyT, RawV.tv, R1.row, rowsGet, rowsLen, row4, Vk, Vn, Vs, Vl]; with_reducible rfl)
  simp only [vcA, Nat.reduceLT, Int.reduceEq, Int.reduceAdd, Int.reduceSub, Nat.reduceBEq, Nat.reduceEqDiff, reduceCtorEq, Nat.reduceAdd, Nat.reduceSub, Nat.reduceMul, Nat.reduceLeDiff, Int.reduceToNat, Int.reduceLT, Int.reduceLE, Int.reduceNeg, reduceIte, I, S, tv, nv, tyT, RawV.tv, R1.row, rowsGet, rowsLen, row4, Vk, Vn, Vs, Vl]
  (with_reducible apply v_call); (· simp only [vcA, Nat.reduceLT, Int.reduceEq, Int.reduceAdd, Int.reduceSub, Nat.reduceBEq, Nat.reduceEqDiff, reduceCtorEq, Nat.reduceAdd, Nat.reduceSub, Nat.reduceMul, Nat.reduceLeDiff, Int.reduceToNat, Int.reduceLT, Int.reduceLE, Int.reduceNeg, reduceIte, I, S, tv, nv, tyT, RawV.tv, R1.row, rowsGet, rowsLen, row4, Vk, Vn, Vs, Vl]; with_reducible rfl); (· exact HO); (· first | rfl | (simp only [moOk, nbeq, nble, List.length_nil, beq_self_eq_true, Bool.true_and, Bool.and_true, Bool.and_eq_true, decide_eq_true_eq]; omega)); (· simp only [vcA, Nat.reduceLT, Int.reduceEq, Int.reduceAdd, Int.reduceSub, Nat.reduceBEq, Nat.reduceEqDiff, reduceCtorEq, Nat.reduceAdd, Nat.reduceSub, Nat.reduceMul, Nat.reduceLeDiff, Int.reduceToNat, Int.reduceLT, Int.reduceLE, Int.reduceNeg, reduceIte, I, S, tv, nv, tyT, RawV.tv, R1.row, rowsGet, rowsLen, row4, Vk, Vn, Vs, Vl]; with_reducible rfl)
  have e2 : (⟨#[10, 0]⟩ : ByteArray) = str [10, 0] := rfl
  have e3 : ((3 : Nat) : Int) = 3 := rfl
  simp only [vcA, Nat.reduceLT, Int.reduceEq, Int.reduceAdd, Int.reduceSub, Nat.reduceBEq, Nat.reduceEqDiff, reduceCtorEq, Nat.reduceAdd, Nat.reduceSub, Nat.reduceMul, Nat.reduceLeDiff, Int.reduceToNat, Int.reduceLT, Int.reduceLE, Int.reduceNeg, reduceIte, I, S, tv, nv, tyT, RawV.tv, R1.row, rowsGet, rowsLen, row4, Vk, Vn, Vs, Vl, e2, e3]
  (with_reducible apply v_call); (· simp only [vcA, Nat.reduceLT, Int.reduceEq, Int.reduceAdd, Int.reduceSub, Nat.reduceBEq, Nat.reduceEqDiff, reduceCtorEq, Nat.reduceAdd, Nat.reduceSub, Nat.reduceMul, Nat.reduceLeDiff, Int.reduceToNat, Int.reduceLT, Int.reduceLE, Int.reduceNeg, reduceIte, I, S, tv, nv, tyT, RawV.tv, R1.row, rowsGet, rowsLen, row4, Vk, Vn, Vs, Vl]; with_reducible rfl); (· exact HQ); (· first | rfl | (simp only [moOk, nbeq, nble, List.length_nil, beq_self_eq_true, Bool.true_and, Bool.and_true, Bool.and_eq_true, decide_eq_true_eq]; omega)); (· simp only [vcA, Nat.reduceLT, Int.reduceEq, Int.reduceAdd, Int.reduceSub, Nat.reduceBEq, Nat.reduceEqDiff, reduceCtorEq, Nat.reduceAdd, Nat.reduceSub, Nat.reduceMul, Nat.reduceLeDiff, Int.reduceToNat, Int.reduceLT, Int.reduceLE, Int.reduceNeg, reduceIte, I, S, tv, nv, tyT, RawV.tv, R1.row, rowsGet, rowsLen, row4, Vk, Vn, Vs, Vl]; with_reducible rfl)
  simp only [vcA, Nat.reduceLT, Int.reduceEq, Int.reduceAdd, Int.reduceSub, Nat.reduceBEq, Nat.reduceEqDiff, reduceCtorEq, Nat.reduceAdd, Nat.reduceSub, Nat.reduceMul, Nat.reduceLeDiff, Int.reduceToNat, Int.reduceLT, Int.reduceLE, Int.reduceNeg, reduceIte, I, S, tv, nv, tyT, RawV.tv, R1.row, rowsGet, rowsLen, row4, Vk, Vn, Vs, Vl]
  (with_reducible apply v_call); (· simp only [vcA, Nat.reduceLT, Int.reduceEq, Int.reduceAdd, Int.reduceSub, Nat.reduceBEq, Nat.reduceEqDiff, reduceCtorEq, Nat.reduceAdd, Nat.reduceSub, Nat.reduceMul, Nat.reduceLeDiff, Int.reduceToNat, Int.reduceLT, Int.reduceLE, Int.reduceNeg, reduceIte, I, S, tv, nv, tyT, RawV.tv, R1.row, rowsGet, rowsLen, row4, Vk, Vn, Vs, Vl]; with_reducible rfl); (· exact HS); (· first | rfl | (simp only [moOk, nbeq, nble, List.length_nil, beq_self_eq_true, Bool.true_and, Bool.and_true, Bool.and_eq_true, decide_eq_true_eq]; omega)); (· simp only [vcA, Nat.reduceLT, Int.reduceEq, Int.reduceAdd, Int.reduceSub, Nat.reduceBEq, Nat.reduceEqDiff, reduceCtorEq, Nat.reduceAdd, Nat.reduceSub, Nat.reduceMul, Nat.reduceLeDiff, Int.reduceToNat, Int.reduceLT, Int.reduceLE, Int.reduceNeg, reduceIte, I, S, tv, nv, tyT, RawV.tv, R1.row, rowsGet, rowsLen, row4, Vk, Vn, Vs, Vl]; with_reducible rfl)
  simp only [vcA, Nat.reduceLT, Int.reduceEq, Int.reduceAdd, Int.reduceSub, Nat.reduceBEq, Nat.reduceEqDiff, reduceCtorEq, Nat.reduceAdd, Nat.reduceSub, Nat.reduceMul, Nat.reduceLeDiff, Int.reduceToNat, Int.reduceLT, Int.reduceLE, Int.reduceNeg, reduceIte, I, S, tv, nv, tyT, RawV.tv, R1.row, rowsGet, rowsLen, row4, Vk, Vn, Vs, Vl]
end Go.Proofs.YtdlolkogifigpaaDoor
end
