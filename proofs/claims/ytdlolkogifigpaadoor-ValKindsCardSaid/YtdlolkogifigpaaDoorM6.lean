/- Merged texts: Zy1 Zy4 Pt1 Zy5 PRead Aw1 Zk1. No statement of the program is proved here. -/
import Derived.Test.YtdlolkogifigpaaDoorM5
set_option linter.unusedSimpArgs false
set_option linter.unusedVariables false
section
/- The statements' ValOf. No statement of the program is proved here. -/
namespace Go.Proofs.YtdlolkogifigpaaDoor
open Go Go.RowKit Go.Mor Go.Sh Go.Sh.Cd1
set_option maxRecDepth 100000
set_option maxHeartbeats 2000000
def oneOf (r : R1) : V := valOne (pickI r.k 5) r.n r.s
def onesTo (l : List R1) (i : Nat) : List V := (l.take i).map oneOf
theorem onesTo_succ {l : List R1} {i : Nat} {r : R1} (h : l[i]? = some r) : onesTo l (i + 1) = onesTo l i ++ [oneOf r] := by
  unfold onesTo; rw [List.take_add_one, h]; simp
theorem onesTo_len {l : List R1} {i : Nat} (h : i ≤ l.length) : (onesTo l i).length = i := by simp [onesTo]; omega
theorem oneOf_l (r : R1) : (oneOf r).l = [] := valOne_l _ _ _
theorem rowsApp (l : List V) (y : V) : V.rows (l ++ [y]) = V.rows l ++ [V.row y] := by simp [rows_eq]
theorem rowNil {y : V} (h : y.l = []) : V.row y = [.v (.int .i64 y.k), .v (.int .i64 y.n), .v (.string (str y.s)), .sl 4 []] := by rw [row4, h, V.rows_nil]
theorem valOf_list (g : Sh.Glob) (x : RawV) (hx : x.ok) (hk5 : ¬ pickI x.k 7 < 5) : SCalls Tryd.prog g 27 [x.tv] [] (tv (valOf x)) [] := by
  refine call_of1 hmix tf_morainelaw03_ValOf rfl rfl ?_
  obtain ⟨hk, hn, hs, hl, hlen⟩ := hx
  simp only [vcA, Nat.reduceLT, Int.reduceEq, Int.reduceAdd, Int.reduceSub, Nat.reduceBEq, Nat.reduceEqDiff, reduceCtorEq, Nat.reduceAdd, Nat.reduceSub, Nat.reduceMul, Nat.reduceLeDiff, Int.reduceToNat, Int.reduceLT, Int.reduceLE, Int.reduceNeg, reduceIte, RawV.tv, I, S]
  (with_reducible apply v_call); (· simp only [vcA, Nat.reduceLT, Int.reduceEq, Int.reduceAdd, Int.reduceSub, Nat.reduceBEq, Nat.reduceEqDiff, reduceCtorEq, Nat.reduceAdd, Nat.reduceSub, Nat.reduceMul, Nat.reduceLeDiff, Int.reduceToNat, Int.reduceLT, Int.reduceLE, Int.reduceNeg, reduceIte, I, S]; with_reducible rfl); (· exact pickI_ok g _ _ hk (by decide)); (· first | rfl | (simp only [moOk, nbeq, nble, List.length_nil, beq_self_eq_true, Bool.true_and, Bool.and_true, Bool.and_eq_true, decide_eq_true_eq]; omega)); (· simp only [vcA, Nat.reduceLT, Int.reduceEq, Int.reduceAdd, Int.reduceSub, Nat.reduceBEq, Nat.reduceEqDiff, reduceCtorEq, Nat.reduceAdd, Nat.reduceSub, Nat.reduceMul, Nat.reduceLeDiff, Int.reduceToNat, Int.reduceLT, Int.reduceLE, Int.reduceNeg, reduceIte, I, S]; with_reducible rfl)
  simp only [vcA, Nat.reduceLT, Int.reduceEq, Int.reduceAdd, Int.reduceSub, Nat.reduceBEq, Nat.reduceEqDiff, reduceCtorEq, Nat.reduceAdd, Nat.reduceSub, Nat.reduceMul, Nat.reduceLeDiff, Int.reduceToNat, Int.reduceLT, Int.reduceLE, Int.reduceNeg, reduceIte, hk5, I, S]
  refine v_loop (σ := { i : Nat // i ≤ x.l.length ∧ i ≤ 12 })
    (fun i => ⟨[(1, .ptr 1 0), (2, .ptr 2 0), (5, .ptr 5 0), (6, I (i.1 : Int))], [(1, [I x.k, I x.n, S (str x.s), .pv (.sl 3 (x.l.map R1.row))]), (2, [I 0, I 0, S ⟨#[]⟩, nilT]), (5, [I 5, I 0, S ⟨#[]⟩, .own 3000 4 (V.rows (onesTo x.l i.1))])], [(3000, (31, 4, i.1))], []⟩)
    (fun i => 12 - i.1) ⟨0, Nat.zero_le _, Nat.zero_le _⟩ ?_ ?_
  · refine ES.Lw.trans ?_ (adB_lw (x := 5) (j := 3) (d := 3000) (e := 31) (W := 4) (.inr (by decide)) (by decide) rfl (by simp only [vcA, Nat.reduceLT, Int.reduceEq, Int.reduceAdd, Int.reduceSub, Nat.reduceBEq, Nat.reduceEqDiff, reduceCtorEq, Nat.reduceAdd, Nat.reduceSub, Nat.reduceMul, Nat.reduceLeDiff, Int.reduceToNat, Int.reduceLT, Int.reduceLE, Int.reduceNeg, reduceIte]) rfl)
    exact lw_eq rfl
  rintro ⟨i, hi, h12⟩
  have ol := onesTo_len hi
  simp only [vcA, Nat.reduceLT, Int.reduceEq, Int.reduceAdd, Int.reduceSub, Nat.reduceBEq, Nat.reduceEqDiff, reduceCtorEq, Nat.reduceAdd, Nat.reduceSub, Nat.reduceMul, Nat.reduceLeDiff, Int.reduceToNat, Int.reduceLT, Int.reduceLE, Int.reduceNeg, reduceIte, I, S, tv, nv, tyT, RawV.tv, R1.row, rowsGet, rowsLen, row4, Vk, Vn, Vs, Vl, nilT]
  have he : valOf x = .mk 5 0 [] (oneL x.l) := by unfold valOf; rw [if_neg hk5]
  have hend : (i = x.l.length ∨ i = 12) → onesTo x.l i = oneL x.l := by
    intro h
    unfold oneL onesTo
    rcases h with h | h
    · rw [h, List.take_of_length_le (Nat.le_refl _), List.take_of_length_le (by omega)]; rfl
    · rw [h]; rfl
  refine ⟨fun h1 => ⟨fun h2 => .inl ⟨by omega, fun r hr => ?_⟩, fun h2 => ?_⟩, fun h1 => ?_⟩
  · obtain ⟨o1, o2, o3⟩ := hl r (List.mem_of_getElem? hr)
    (with_reducible apply v_call); (· simp only [vcA, Nat.reduceLT, Int.reduceEq, Int.reduceAdd, Int.reduceSub, Nat.reduceBEq, Nat.reduceEqDiff, reduceCtorEq, Nat.reduceAdd, Nat.reduceSub, Nat.reduceMul, Nat.reduceLeDiff, Int.reduceToNat, Int.reduceLT, Int.reduceLE, Int.reduceNeg, reduceIte, I, S]; with_reducible rfl); (· exact pickI_ok g _ _ o1 (by decide)); (· first | rfl | (simp only [moOk, nbeq, nble, List.length_nil, beq_self_eq_true, Bool.true_and, Bool.and_true, Bool.and_eq_true, decide_eq_true_eq]; omega)); (· simp only [vcA, Nat.reduceLT, Int.reduceEq, Int.reduceAdd, Int.reduceSub, Nat.reduceBEq, Nat.reduceEqDiff, reduceCtorEq, Nat.reduceAdd, Nat.reduceSub, Nat.reduceMul, Nat.reduceLeDiff, Int.reduceToNat, Int.reduceLT, Int.reduceLE, Int.reduceNeg, reduceIte, I, S]; with_reducible rfl)
    simp only [vcA, Nat.reduceLT, Int.reduceEq, Int.reduceAdd, Int.reduceSub, Nat.reduceBEq, Nat.reduceEqDiff, reduceCtorEq, Nat.reduceAdd, Nat.reduceSub, Nat.reduceMul, Nat.reduceLeDiff, Int.reduceToNat, Int.reduceLT, Int.reduceLE, Int.reduceNeg, reduceIte, I, S, tv, nv, tyT, RawV.tv, R1.row, rowsGet, rowsLen, row4, Vk, Vn, Vs, Vl]
    refine ⟨by omega, fun r' hr' => ?_⟩
    rw [hr] at hr'; cases hr'
    have HV := (valOne_ok g (pickI r.k 5) r.k r.n r.s o2 o3).out (nv_tv (valOne_l _ _ _))
    unfold tv at HV
    rw [valOne_l, V.rows_nil] at HV
    (with_reducible apply v_call); (· simp only [vcA, Nat.reduceLT, Int.reduceEq, Int.reduceAdd, Int.reduceSub, Nat.reduceBEq, Nat.reduceEqDiff, reduceCtorEq, Nat.reduceAdd, Nat.reduceSub, Nat.reduceMul, Nat.reduceLeDiff, Int.reduceToNat, Int.reduceLT, Int.reduceLE, Int.reduceNeg, reduceIte, I, S, tv, nv, tyT, RawV.tv, R1.row, rowsGet, rowsLen, row4, Vk, Vn, Vs, Vl]; with_reducible rfl); (· exact HV); (· first | rfl | (simp only [moOk, nbeq, nble, List.length_nil, beq_self_eq_true, Bool.true_and, Bool.and_true, Bool.and_eq_true, decide_eq_true_eq]; omega)); (· simp only [vcA, Nat.reduceLT, Int.reduceEq, Int.reduceAdd, Int.reduceSub, Nat.reduceBEq, Nat.reduceEqDiff, reduceCtorEq, Nat.reduceAdd, Nat.reduceSub, Nat.reduceMul, Nat.reduceLeDiff, Int.reduceToNat, Int.reduceLT, Int.reduceLE, Int.reduceNeg, reduceIte, I, S, tv, nv, tyT, RawV.tv, R1.row, rowsGet, rowsLen, row4, Vk, Vn, Vs, Vl]; with_reducible rfl)
    simp only [vcA, Nat.reduceLT, Int.reduceEq, Int.reduceAdd, Int.reduceSub, Nat.reduceBEq, Nat.reduceEqDiff, reduceCtorEq, Nat.reduceAdd, Nat.reduceSub, Nat.reduceMul, Nat.reduceLeDiff, Int.reduceToNat, Int.reduceLT, Int.reduceLE, Int.reduceNeg, reduceIte, I, S, tv, nv, tyT, RawV.tv, R1.row, rowsGet, rowsLen, row4, Vk, Vn, Vs, Vl, ol]
    refine ⟨⟨by omega, by have hm : maxLen = 9223372036854775807 := rfl; omega⟩, loopK_of ⟨i + 1, by omega, by omega⟩ (by show 12 - (i + 1) < 12 - i; omega) ?_⟩
    have w1 : IntKind.i64.wrap ((i : Int) + 1) = ((i + 1 : Nat) : Int) := by rw [wrap64 (by omega) (by omega)]; omega
    refine lw_eq ?_
    simp only [onesTo_succ hr, rowsApp, rowNil (oneOf_l r), w1]
    rfl
  · rw [he, hend (.inr (by omega))]; rfl
  · rw [he, hend (.inl (by omega))]; rfl
theorem valOf_l_small {x : RawV} (h : pickI x.k 7 < 5) : (valOf x).l = [] := by
  unfold valOf; rw [if_pos h]; split
  · rfl
  · exact valOne_l _ _ _
theorem valOf_ok (g : Sh.Glob) (x : RawV) (hx : x.ok) : SCalls Tryd.prog g 27 [x.tv] [] (tv (valOf x)) [] := by
  by_cases h : pickI x.k 7 < 5
  · exact (valOf_small g x hx h).out (nv_tv (valOf_l_small h))
  · exact valOf_list g x hx h
end Go.Proofs.YtdlolkogifigpaaDoor
end

section
/- Values as bytes: the program's way. No statement of the program is proved here. -/
namespace Go.Proofs.YtdlolkogifigpaaDoor
open Go Go.RowKit Go.Mor Go.Sh Go.Sh.Cd1
set_option maxRecDepth 100000
set_option maxHeartbeats 2000000
theorem bl_str (l : List UInt8) : bl (str l) = l := by simp [bl, str]
theorem in64_T {x : Int} (h : I64 x) : in64 x = true := by unfold in64; obtain ⟨h1, h2⟩ := h; simp [h1, h2]
theorem num_ok (a0 a1 : Addr) (m : Nat) (x : Int) (h : I64 x) : SCalls Tryd.prog (gl a0 a1 m) 46 [I x] [] (S (str (num x))) [] :=
  prim1_sound a0 a1 m _ _ _ _ _ (by simp [prim1, I, Nat.beq, in64_T h])
theorem text_ok (a0 a1 : Addr) (m : Nat) (l : List UInt8) (h : l.length ≤ 10000) : SCalls Tryd.prog (gl a0 a1 m) 76 [S (str l)] [] (.tuple [S (str (text l)), I 0]) [] :=
  prim1_sound a0 a1 m _ _ _ _ _ (by simp [prim1, S, Nat.beq, bl_str, textTV, h]; omega)
theorem readNum_ok (a0 a1 : Addr) (m : Nat) (l : List UInt8) (a : Int) (hl : l.length < 1125899906842624) (h : I64 a) : SCalls Tryd.prog (gl a0 a1 m) 35 [S (str l), I a] [] (numTV (readNum l a)) [] :=
  prim1_sound a0 a1 m _ _ _ _ _ (by simp [prim1, S, I, Nat.beq, bl_str, in64_T h, hl])
theorem readText_ok (a0 a1 : Addr) (m : Nat) (l : List UInt8) (a : Int) (hl : l.length < 1125899906842624) (h : I64 a) : SCalls Tryd.prog (gl a0 a1 m) 78 [S (str l), I a] [] (readTV (readText l a)) [] :=
  prim1_sound a0 a1 m _ _ _ _ _ (by simp [prim1, S, I, Nat.beq, bl_str, in64_T h, hl])
/-- Bytes as a slice's elements. -/
def byR (l : List UInt8) : List (List PV) := l.map fun u => [.v (.int .u8 u.toNat)]
theorem byP (l : List UInt8) : bytesP (str l) = byR l := by simp [bytesP, byR, str]
theorem byApp (a b : List UInt8) : byR a ++ byR b = byR (a ++ b) := by simp [byR]
theorem byLen (a : List UInt8) : (byR a).length = a.length := by simp [byR]
theorem bySeq : ∀ (a : List UInt8), seqO Sh.byteOf (byR a) = some a
  | [] => rfl
  | u :: a => by
    have ih := bySeq a
    unfold byR at ih ⊢
    simp only [List.map_cons, seqO, ih, Sh.byteOf]
    simp
theorem strMk (l : List UInt8) : (⟨l.toArray⟩ : ByteArray) = str l := rfl
/-- The bytes of a value that is no list. -/
def enc1 (x : V) : List UInt8 := num x.k ++ (if x.k = 1 ∨ x.k = 3 ∨ x.k = 4 then num x.n else if x.k = 2 then text x.s else [])
def encV (x : V) : List UInt8 := if x.k = 5 then num 5 ++ num x.l.length ++ x.l.flatMap enc1 else enc1 x
theorem text_len {l : List UInt8} (h : l.length ≤ 60) : (text l).length ≤ 70 := by
  have := num_length l.length
  simp [text]; omega
theorem lay_one (a0 a1 : Addr) (m : Nat) (x : V) (b : List UInt8) (hk : I64 x.k) (hn : I64 x.n) (hs : x.s.length ≤ 60) (h5 : x.k ≠ 5) (hb : b.length ≤ 100000) :
    SCalls Tryd.prog (gl a0 a1 m) 59 [.own 1000 1 (byR b), tv x] [.row 5 1 b.length] (.own 1000 1 (byR (b ++ enc1 x))) [.row 5 1 (b ++ enc1 x).length] := by
  have HK := num_ok a0 a1 m x.k hk
  have HN := num_ok a0 a1 m x.n hn
  have lk' := num_length x.k
  have ln := num_length x.n
  have hm : maxLen = 9223372036854775807 := rfl
  refine call_of hmix tf_val_lay rfl rfl (by simp [moOk, Nat.beq_refl, nble]) ?_
  simp only [vcA, Nat.reduceLT, Int.reduceEq, Int.reduceAdd, Int.reduceSub, Nat.reduceBEq, Nat.reduceEqDiff, reduceCtorEq, Nat.reduceAdd, Nat.reduceSub, Nat.reduceMul, Nat.reduceLeDiff, Int.reduceToNat, Int.reduceLT, Int.reduceLE, Int.reduceNeg, reduceIte, I, S, tv, nv, tyT, RawV.tv, R1.row, rowsGet, rowsLen, row4, Vk, Vn, Vs, Vl]
  refine .inl ?_
  (with_reducible apply v_call); (· simp only [vcA, Nat.reduceLT, Int.reduceEq, Int.reduceAdd, Int.reduceSub, Nat.reduceBEq, Nat.reduceEqDiff, reduceCtorEq, Nat.reduceAdd, Nat.reduceSub, Nat.reduceMul, Nat.reduceLeDiff, Int.reduceToNat, Int.reduceLT, Int.reduceLE, Int.reduceNeg, reduceIte, I, S, tv, nv, tyT, RawV.tv, R1.row, rowsGet, rowsLen, row4, Vk, Vn, Vs, Vl, byP, byApp, byLen, bySeq, strMk]; with_reducible rfl); (· exact HK); (· first | rfl | (simp only [moOk, nbeq, nble, List.length_nil, beq_self_eq_true, Bool.true_and, Bool.and_true, Bool.and_eq_true, decide_eq_true_eq]; omega)); (· simp only [vcA, Nat.reduceLT, Int.reduceEq, Int.reduceAdd, Int.reduceSub, Nat.reduceBEq, Nat.reduceEqDiff, reduceCtorEq, Nat.reduceAdd, Nat.reduceSub, Nat.reduceMul, Nat.reduceLeDiff, Int.reduceToNat, Int.reduceLT, Int.reduceLE, Int.reduceNeg, reduceIte, I, S, tv, nv, tyT, RawV.tv, R1.row, rowsGet, rowsLen, row4, Vk, Vn, Vs, Vl, byP, byApp, byLen, bySeq, strMk]; with_reducible rfl)
  by_cases e1 : x.k = 1
  · have nk := num_length 1
    rw [show enc1 x = num x.k ++ num x.n by unfold enc1; rw [if_pos (by omega)]]
    simp only [vcA, Nat.reduceLT, Int.reduceEq, Int.reduceAdd, Int.reduceSub, Nat.reduceBEq, Nat.reduceEqDiff, reduceCtorEq, Nat.reduceAdd, Nat.reduceSub, Nat.reduceMul, Nat.reduceLeDiff, Int.reduceToNat, Int.reduceLT, Int.reduceLE, Int.reduceNeg, reduceIte, I, S, tv, nv, tyT, RawV.tv, R1.row, rowsGet, rowsLen, row4, Vk, Vn, Vs, Vl, byP, byApp, byLen, bySeq, strMk, e1, List.nil_append, Nat.zero_add]
    refine ⟨⟨by omega, by omega⟩, .inl ?_⟩
    (with_reducible apply v_call); (· simp only [vcA, Nat.reduceLT, Int.reduceEq, Int.reduceAdd, Int.reduceSub, Nat.reduceBEq, Nat.reduceEqDiff, reduceCtorEq, Nat.reduceAdd, Nat.reduceSub, Nat.reduceMul, Nat.reduceLeDiff, Int.reduceToNat, Int.reduceLT, Int.reduceLE, Int.reduceNeg, reduceIte, I, S, tv, nv, tyT, RawV.tv, R1.row, rowsGet, rowsLen, row4, Vk, Vn, Vs, Vl, byP, byApp, byLen, bySeq, strMk]; with_reducible rfl); (· exact HN); (· first | rfl | (simp only [moOk, nbeq, nble, List.length_nil, beq_self_eq_true, Bool.true_and, Bool.and_true, Bool.and_eq_true, decide_eq_true_eq]; omega)); (· simp only [vcA, Nat.reduceLT, Int.reduceEq, Int.reduceAdd, Int.reduceSub, Nat.reduceBEq, Nat.reduceEqDiff, reduceCtorEq, Nat.reduceAdd, Nat.reduceSub, Nat.reduceMul, Nat.reduceLeDiff, Int.reduceToNat, Int.reduceLT, Int.reduceLE, Int.reduceNeg, reduceIte, I, S, tv, nv, tyT, RawV.tv, R1.row, rowsGet, rowsLen, row4, Vk, Vn, Vs, Vl, byP, byApp, byLen, bySeq, strMk]; with_reducible rfl)
    simp only [vcA, Nat.reduceLT, Int.reduceEq, Int.reduceAdd, Int.reduceSub, Nat.reduceBEq, Nat.reduceEqDiff, reduceCtorEq, Nat.reduceAdd, Nat.reduceSub, Nat.reduceMul, Nat.reduceLeDiff, Int.reduceToNat, Int.reduceLT, Int.reduceLE, Int.reduceNeg, reduceIte, I, S, tv, nv, tyT, RawV.tv, R1.row, rowsGet, rowsLen, row4, Vk, Vn, Vs, Vl, byP, byApp, byLen, bySeq, strMk]
    exact ⟨⟨by omega, by omega⟩, by simp only [List.append_assoc, Nat.add_assoc, List.nil_append]⟩
  by_cases e3 : x.k = 3
  · have nk := num_length 3
    rw [show enc1 x = num x.k ++ num x.n by unfold enc1; rw [if_pos (by omega)]]
    simp only [vcA, Nat.reduceLT, Int.reduceEq, Int.reduceAdd, Int.reduceSub, Nat.reduceBEq, Nat.reduceEqDiff, reduceCtorEq, Nat.reduceAdd, Nat.reduceSub, Nat.reduceMul, Nat.reduceLeDiff, Int.reduceToNat, Int.reduceLT, Int.reduceLE, Int.reduceNeg, reduceIte, I, S, tv, nv, tyT, RawV.tv, R1.row, rowsGet, rowsLen, row4, Vk, Vn, Vs, Vl, byP, byApp, byLen, bySeq, strMk, e3, List.nil_append, Nat.zero_add]
    refine ⟨⟨by omega, by omega⟩, .inl ?_⟩
    (with_reducible apply v_call); (· simp only [vcA, Nat.reduceLT, Int.reduceEq, Int.reduceAdd, Int.reduceSub, Nat.reduceBEq, Nat.reduceEqDiff, reduceCtorEq, Nat.reduceAdd, Nat.reduceSub, Nat.reduceMul, Nat.reduceLeDiff, Int.reduceToNat, Int.reduceLT, Int.reduceLE, Int.reduceNeg, reduceIte, I, S, tv, nv, tyT, RawV.tv, R1.row, rowsGet, rowsLen, row4, Vk, Vn, Vs, Vl, byP, byApp, byLen, bySeq, strMk]; with_reducible rfl); (· exact HN); (· first | rfl | (simp only [moOk, nbeq, nble, List.length_nil, beq_self_eq_true, Bool.true_and, Bool.and_true, Bool.and_eq_true, decide_eq_true_eq]; omega)); (· simp only [vcA, Nat.reduceLT, Int.reduceEq, Int.reduceAdd, Int.reduceSub, Nat.reduceBEq, Nat.reduceEqDiff, reduceCtorEq, Nat.reduceAdd, Nat.reduceSub, Nat.reduceMul, Nat.reduceLeDiff, Int.reduceToNat, Int.reduceLT, Int.reduceLE, Int.reduceNeg, reduceIte, I, S, tv, nv, tyT, RawV.tv, R1.row, rowsGet, rowsLen, row4, Vk, Vn, Vs, Vl, byP, byApp, byLen, bySeq, strMk]; with_reducible rfl)
    simp only [vcA, Nat.reduceLT, Int.reduceEq, Int.reduceAdd, Int.reduceSub, Nat.reduceBEq, Nat.reduceEqDiff, reduceCtorEq, Nat.reduceAdd, Nat.reduceSub, Nat.reduceMul, Nat.reduceLeDiff, Int.reduceToNat, Int.reduceLT, Int.reduceLE, Int.reduceNeg, reduceIte, I, S, tv, nv, tyT, RawV.tv, R1.row, rowsGet, rowsLen, row4, Vk, Vn, Vs, Vl, byP, byApp, byLen, bySeq, strMk]
    exact ⟨⟨by omega, by omega⟩, by simp only [List.append_assoc, Nat.add_assoc, List.nil_append]⟩
  by_cases e4 : x.k = 4
  · have nk := num_length 4
    rw [show enc1 x = num x.k ++ num x.n by unfold enc1; rw [if_pos (by omega)]]
    simp only [vcA, Nat.reduceLT, Int.reduceEq, Int.reduceAdd, Int.reduceSub, Nat.reduceBEq, Nat.reduceEqDiff, reduceCtorEq, Nat.reduceAdd, Nat.reduceSub, Nat.reduceMul, Nat.reduceLeDiff, Int.reduceToNat, Int.reduceLT, Int.reduceLE, Int.reduceNeg, reduceIte, I, S, tv, nv, tyT, RawV.tv, R1.row, rowsGet, rowsLen, row4, Vk, Vn, Vs, Vl, byP, byApp, byLen, bySeq, strMk, e4, List.nil_append, Nat.zero_add]
    refine ⟨⟨by omega, by omega⟩, .inl ?_⟩
    (with_reducible apply v_call); (· simp only [vcA, Nat.reduceLT, Int.reduceEq, Int.reduceAdd, Int.reduceSub, Nat.reduceBEq, Nat.reduceEqDiff, reduceCtorEq, Nat.reduceAdd, Nat.reduceSub, Nat.reduceMul, Nat.reduceLeDiff, Int.reduceToNat, Int.reduceLT, Int.reduceLE, Int.reduceNeg, reduceIte, I, S, tv, nv, tyT, RawV.tv, R1.row, rowsGet, rowsLen, row4, Vk, Vn, Vs, Vl, byP, byApp, byLen, bySeq, strMk]; with_reducible rfl); (· exact HN); (· first | rfl | (simp only [moOk, nbeq, nble, List.length_nil, beq_self_eq_true, Bool.true_and, Bool.and_true, Bool.and_eq_true, decide_eq_true_eq]; omega)); (· simp only [vcA, Nat.reduceLT, Int.reduceEq, Int.reduceAdd, Int.reduceSub, Nat.reduceBEq, Nat.reduceEqDiff, reduceCtorEq, Nat.reduceAdd, Nat.reduceSub, Nat.reduceMul, Nat.reduceLeDiff, Int.reduceToNat, Int.reduceLT, Int.reduceLE, Int.reduceNeg, reduceIte, I, S, tv, nv, tyT, RawV.tv, R1.row, rowsGet, rowsLen, row4, Vk, Vn, Vs, Vl, byP, byApp, byLen, bySeq, strMk]; with_reducible rfl)
    simp only [vcA, Nat.reduceLT, Int.reduceEq, Int.reduceAdd, Int.reduceSub, Nat.reduceBEq, Nat.reduceEqDiff, reduceCtorEq, Nat.reduceAdd, Nat.reduceSub, Nat.reduceMul, Nat.reduceLeDiff, Int.reduceToNat, Int.reduceLT, Int.reduceLE, Int.reduceNeg, reduceIte, I, S, tv, nv, tyT, RawV.tv, R1.row, rowsGet, rowsLen, row4, Vk, Vn, Vs, Vl, byP, byApp, byLen, bySeq, strMk]
    exact ⟨⟨by omega, by omega⟩, by simp only [List.append_assoc, Nat.add_assoc, List.nil_append]⟩
  by_cases e2 : x.k = 2
  · have nk := num_length 2
    have tk := text_len hs
    rw [show enc1 x = num x.k ++ text x.s by unfold enc1; rw [if_neg (by omega), if_pos e2]]
    simp only [vcA, Nat.reduceLT, Int.reduceEq, Int.reduceAdd, Int.reduceSub, Nat.reduceBEq, Nat.reduceEqDiff, reduceCtorEq, Nat.reduceAdd, Nat.reduceSub, Nat.reduceMul, Nat.reduceLeDiff, Int.reduceToNat, Int.reduceLT, Int.reduceLE, Int.reduceNeg, reduceIte, I, S, tv, nv, tyT, RawV.tv, R1.row, rowsGet, rowsLen, row4, Vk, Vn, Vs, Vl, byP, byApp, byLen, bySeq, strMk, e2, List.nil_append, Nat.zero_add]
    refine ⟨⟨by omega, by omega⟩, ?_⟩
    (with_reducible apply v_call); (· simp only [vcA, Nat.reduceLT, Int.reduceEq, Int.reduceAdd, Int.reduceSub, Nat.reduceBEq, Nat.reduceEqDiff, reduceCtorEq, Nat.reduceAdd, Nat.reduceSub, Nat.reduceMul, Nat.reduceLeDiff, Int.reduceToNat, Int.reduceLT, Int.reduceLE, Int.reduceNeg, reduceIte, I, S, tv, nv, tyT, RawV.tv, R1.row, rowsGet, rowsLen, row4, Vk, Vn, Vs, Vl, byP, byApp, byLen, bySeq, strMk]; with_reducible rfl); (· exact text_ok a0 a1 m x.s (by omega)); (· first | rfl | (simp only [moOk, nbeq, nble, List.length_nil, beq_self_eq_true, Bool.true_and, Bool.and_true, Bool.and_eq_true, decide_eq_true_eq]; omega)); (· simp only [vcA, Nat.reduceLT, Int.reduceEq, Int.reduceAdd, Int.reduceSub, Nat.reduceBEq, Nat.reduceEqDiff, reduceCtorEq, Nat.reduceAdd, Nat.reduceSub, Nat.reduceMul, Nat.reduceLeDiff, Int.reduceToNat, Int.reduceLT, Int.reduceLE, Int.reduceNeg, reduceIte, I, S, tv, nv, tyT, RawV.tv, R1.row, rowsGet, rowsLen, row4, Vk, Vn, Vs, Vl, byP, byApp, byLen, bySeq, strMk]; with_reducible rfl)
    simp only [vcA, Nat.reduceLT, Int.reduceEq, Int.reduceAdd, Int.reduceSub, Nat.reduceBEq, Nat.reduceEqDiff, reduceCtorEq, Nat.reduceAdd, Nat.reduceSub, Nat.reduceMul, Nat.reduceLeDiff, Int.reduceToNat, Int.reduceLT, Int.reduceLE, Int.reduceNeg, reduceIte, I, S, tv, nv, tyT, RawV.tv, R1.row, rowsGet, rowsLen, row4, Vk, Vn, Vs, Vl, byP, byApp, byLen, bySeq, strMk]
    exact ⟨⟨by omega, by omega⟩, by simp only [List.append_assoc, Nat.add_assoc, List.nil_append]⟩
  rw [show enc1 x = num x.k by unfold enc1; rw [if_neg (by omega), if_neg e2, List.append_nil]]
  simp only [vcA, Nat.reduceLT, Int.reduceEq, Int.reduceAdd, Int.reduceSub, Nat.reduceBEq, Nat.reduceEqDiff, reduceCtorEq, Nat.reduceAdd, Nat.reduceSub, Nat.reduceMul, Nat.reduceLeDiff, Int.reduceToNat, Int.reduceLT, Int.reduceLE, Int.reduceNeg, reduceIte, I, S, tv, nv, tyT, RawV.tv, R1.row, rowsGet, rowsLen, row4, Vk, Vn, Vs, Vl, byP, byApp, byLen, bySeq, strMk, e1, e2, e3, e4, h5, List.nil_append, Nat.zero_add]
  exact ⟨by omega, by omega⟩
/-- A value that is no list, onto nothing. -/
theorem lay_nil1 (a0 a1 : Addr) (m : Nat) (x : V) (hk : I64 x.k) (hn : I64 x.n) (hs : x.s.length ≤ 60) (h5 : x.k ≠ 5) :
    SCalls Tryd.prog (gl a0 a1 m) 59 [nilT, tv x] [] (.own 1000 1 (byR (enc1 x))) [.row 5 1 (enc1 x).length] := by
  have HK := num_ok a0 a1 m x.k hk
  have HN := num_ok a0 a1 m x.n hn
  have lk' := num_length x.k
  have ln := num_length x.n
  have hm : maxLen = 9223372036854775807 := rfl
  refine call_of hmix tf_val_lay rfl rfl (by simp [moOk, nble]) ?_
  simp only [vcA, Nat.reduceLT, Int.reduceEq, Int.reduceAdd, Int.reduceSub, Nat.reduceBEq, Nat.reduceEqDiff, reduceCtorEq, Nat.reduceAdd, Nat.reduceSub, Nat.reduceMul, Nat.reduceLeDiff, Int.reduceToNat, Int.reduceLT, Int.reduceLE, Int.reduceNeg, reduceIte, I, S, tv, nv, tyT, RawV.tv, R1.row, rowsGet, rowsLen, row4, Vk, Vn, Vs, Vl, nilT]
  refine .inr ?_
  (with_reducible apply v_call); (· simp only [vcA, Nat.reduceLT, Int.reduceEq, Int.reduceAdd, Int.reduceSub, Nat.reduceBEq, Nat.reduceEqDiff, reduceCtorEq, Nat.reduceAdd, Nat.reduceSub, Nat.reduceMul, Nat.reduceLeDiff, Int.reduceToNat, Int.reduceLT, Int.reduceLE, Int.reduceNeg, reduceIte, I, S, tv, nv, tyT, RawV.tv, R1.row, rowsGet, rowsLen, row4, Vk, Vn, Vs, Vl, byP, byApp, byLen, bySeq, strMk]; with_reducible rfl); (· exact HK); (· first | rfl | (simp only [moOk, nbeq, nble, List.length_nil, beq_self_eq_true, Bool.true_and, Bool.and_true, Bool.and_eq_true, decide_eq_true_eq]; omega)); (· simp only [vcA, Nat.reduceLT, Int.reduceEq, Int.reduceAdd, Int.reduceSub, Nat.reduceBEq, Nat.reduceEqDiff, reduceCtorEq, Nat.reduceAdd, Nat.reduceSub, Nat.reduceMul, Nat.reduceLeDiff, Int.reduceToNat, Int.reduceLT, Int.reduceLE, Int.reduceNeg, reduceIte, I, S, tv, nv, tyT, RawV.tv, R1.row, rowsGet, rowsLen, row4, Vk, Vn, Vs, Vl, byP, byApp, byLen, bySeq, strMk]; with_reducible rfl)
  by_cases e1 : x.k = 1
  · have nk := num_length 1
    rw [show enc1 x = num x.k ++ num x.n by unfold enc1; rw [if_pos (by omega)]]
    simp only [vcA, Nat.reduceLT, Int.reduceEq, Int.reduceAdd, Int.reduceSub, Nat.reduceBEq, Nat.reduceEqDiff, reduceCtorEq, Nat.reduceAdd, Nat.reduceSub, Nat.reduceMul, Nat.reduceLeDiff, Int.reduceToNat, Int.reduceLT, Int.reduceLE, Int.reduceNeg, reduceIte, I, S, tv, nv, tyT, RawV.tv, R1.row, rowsGet, rowsLen, row4, Vk, Vn, Vs, Vl, byP, byApp, byLen, bySeq, strMk, e1, List.nil_append, Nat.zero_add]
    refine ⟨⟨by omega, by omega⟩, .inl ?_⟩
    (with_reducible apply v_call); (· simp only [vcA, Nat.reduceLT, Int.reduceEq, Int.reduceAdd, Int.reduceSub, Nat.reduceBEq, Nat.reduceEqDiff, reduceCtorEq, Nat.reduceAdd, Nat.reduceSub, Nat.reduceMul, Nat.reduceLeDiff, Int.reduceToNat, Int.reduceLT, Int.reduceLE, Int.reduceNeg, reduceIte, I, S, tv, nv, tyT, RawV.tv, R1.row, rowsGet, rowsLen, row4, Vk, Vn, Vs, Vl, byP, byApp, byLen, bySeq, strMk]; with_reducible rfl); (· exact HN); (· first | rfl | (simp only [moOk, nbeq, nble, List.length_nil, beq_self_eq_true, Bool.true_and, Bool.and_true, Bool.and_eq_true, decide_eq_true_eq]; omega)); (· simp only [vcA, Nat.reduceLT, Int.reduceEq, Int.reduceAdd, Int.reduceSub, Nat.reduceBEq, Nat.reduceEqDiff, reduceCtorEq, Nat.reduceAdd, Nat.reduceSub, Nat.reduceMul, Nat.reduceLeDiff, Int.reduceToNat, Int.reduceLT, Int.reduceLE, Int.reduceNeg, reduceIte, I, S, tv, nv, tyT, RawV.tv, R1.row, rowsGet, rowsLen, row4, Vk, Vn, Vs, Vl, byP, byApp, byLen, bySeq, strMk]; with_reducible rfl)
    simp only [vcA, Nat.reduceLT, Int.reduceEq, Int.reduceAdd, Int.reduceSub, Nat.reduceBEq, Nat.reduceEqDiff, reduceCtorEq, Nat.reduceAdd, Nat.reduceSub, Nat.reduceMul, Nat.reduceLeDiff, Int.reduceToNat, Int.reduceLT, Int.reduceLE, Int.reduceNeg, reduceIte, I, S, tv, nv, tyT, RawV.tv, R1.row, rowsGet, rowsLen, row4, Vk, Vn, Vs, Vl, byP, byApp, byLen, bySeq, strMk]
    exact ⟨by omega, by omega⟩
  by_cases e3 : x.k = 3
  · have nk := num_length 3
    rw [show enc1 x = num x.k ++ num x.n by unfold enc1; rw [if_pos (by omega)]]
    simp only [vcA, Nat.reduceLT, Int.reduceEq, Int.reduceAdd, Int.reduceSub, Nat.reduceBEq, Nat.reduceEqDiff, reduceCtorEq, Nat.reduceAdd, Nat.reduceSub, Nat.reduceMul, Nat.reduceLeDiff, Int.reduceToNat, Int.reduceLT, Int.reduceLE, Int.reduceNeg, reduceIte, I, S, tv, nv, tyT, RawV.tv, R1.row, rowsGet, rowsLen, row4, Vk, Vn, Vs, Vl, byP, byApp, byLen, bySeq, strMk, e3, List.nil_append, Nat.zero_add]
    refine ⟨⟨by omega, by omega⟩, .inl ?_⟩
    (with_reducible apply v_call); (· simp only [vcA, Nat.reduceLT, Int.reduceEq, Int.reduceAdd, Int.reduceSub, Nat.reduceBEq, Nat.reduceEqDiff, reduceCtorEq, Nat.reduceAdd, Nat.reduceSub, Nat.reduceMul, Nat.reduceLeDiff, Int.reduceToNat, Int.reduceLT, Int.reduceLE, Int.reduceNeg, reduceIte, I, S, tv, nv, tyT, RawV.tv, R1.row, rowsGet, rowsLen, row4, Vk, Vn, Vs, Vl, byP, byApp, byLen, bySeq, strMk]; with_reducible rfl); (· exact HN); (· first | rfl | (simp only [moOk, nbeq, nble, List.length_nil, beq_self_eq_true, Bool.true_and, Bool.and_true, Bool.and_eq_true, decide_eq_true_eq]; omega)); (· simp only [vcA, Nat.reduceLT, Int.reduceEq, Int.reduceAdd, Int.reduceSub, Nat.reduceBEq, Nat.reduceEqDiff, reduceCtorEq, Nat.reduceAdd, Nat.reduceSub, Nat.reduceMul, Nat.reduceLeDiff, Int.reduceToNat, Int.reduceLT, Int.reduceLE, Int.reduceNeg, reduceIte, I, S, tv, nv, tyT, RawV.tv, R1.row, rowsGet, rowsLen, row4, Vk, Vn, Vs, Vl, byP, byApp, byLen, bySeq, strMk]; with_reducible rfl)
    simp only [vcA, Nat.reduceLT, Int.reduceEq, Int.reduceAdd, Int.reduceSub, Nat.reduceBEq, Nat.reduceEqDiff, reduceCtorEq, Nat.reduceAdd, Nat.reduceSub, Nat.reduceMul, Nat.reduceLeDiff, Int.reduceToNat, Int.reduceLT, Int.reduceLE, Int.reduceNeg, reduceIte, I, S, tv, nv, tyT, RawV.tv, R1.row, rowsGet, rowsLen, row4, Vk, Vn, Vs, Vl, byP, byApp, byLen, bySeq, strMk]
    exact ⟨by omega, by omega⟩
  by_cases e4 : x.k = 4
  · have nk := num_length 4
    rw [show enc1 x = num x.k ++ num x.n by unfold enc1; rw [if_pos (by omega)]]
    simp only [vcA, Nat.reduceLT, Int.reduceEq, Int.reduceAdd, Int.reduceSub, Nat.reduceBEq, Nat.reduceEqDiff, reduceCtorEq, Nat.reduceAdd, Nat.reduceSub, Nat.reduceMul, Nat.reduceLeDiff, Int.reduceToNat, Int.reduceLT, Int.reduceLE, Int.reduceNeg, reduceIte, I, S, tv, nv, tyT, RawV.tv, R1.row, rowsGet, rowsLen, row4, Vk, Vn, Vs, Vl, byP, byApp, byLen, bySeq, strMk, e4, List.nil_append, Nat.zero_add]
    refine ⟨⟨by omega, by omega⟩, .inl ?_⟩
    (with_reducible apply v_call); (· simp only [vcA, Nat.reduceLT, Int.reduceEq, Int.reduceAdd, Int.reduceSub, Nat.reduceBEq, Nat.reduceEqDiff, reduceCtorEq, Nat.reduceAdd, Nat.reduceSub, Nat.reduceMul, Nat.reduceLeDiff, Int.reduceToNat, Int.reduceLT, Int.reduceLE, Int.reduceNeg, reduceIte, I, S, tv, nv, tyT, RawV.tv, R1.row, rowsGet, rowsLen, row4, Vk, Vn, Vs, Vl, byP, byApp, byLen, bySeq, strMk]; with_reducible rfl); (· exact HN); (· first | rfl | (simp only [moOk, nbeq, nble, List.length_nil, beq_self_eq_true, Bool.true_and, Bool.and_true, Bool.and_eq_true, decide_eq_true_eq]; omega)); (· simp only [vcA, Nat.reduceLT, Int.reduceEq, Int.reduceAdd, Int.reduceSub, Nat.reduceBEq, Nat.reduceEqDiff, reduceCtorEq, Nat.reduceAdd, Nat.reduceSub, Nat.reduceMul, Nat.reduceLeDiff, Int.reduceToNat, Int.reduceLT, Int.reduceLE, Int.reduceNeg, reduceIte, I, S, tv, nv, tyT, RawV.tv, R1.row, rowsGet, rowsLen, row4, Vk, Vn, Vs, Vl, byP, byApp, byLen, bySeq, strMk]; with_reducible rfl)
    simp only [vcA, Nat.reduceLT, Int.reduceEq, Int.reduceAdd, Int.reduceSub, Nat.reduceBEq, Nat.reduceEqDiff, reduceCtorEq, Nat.reduceAdd, Nat.reduceSub, Nat.reduceMul, Nat.reduceLeDiff, Int.reduceToNat, Int.reduceLT, Int.reduceLE, Int.reduceNeg, reduceIte, I, S, tv, nv, tyT, RawV.tv, R1.row, rowsGet, rowsLen, row4, Vk, Vn, Vs, Vl, byP, byApp, byLen, bySeq, strMk]
    exact ⟨by omega, by omega⟩
  by_cases e2 : x.k = 2
  · have nk := num_length 2
    have tk := text_len hs
    rw [show enc1 x = num x.k ++ text x.s by unfold enc1; rw [if_neg (by omega), if_pos e2]]
    simp only [vcA, Nat.reduceLT, Int.reduceEq, Int.reduceAdd, Int.reduceSub, Nat.reduceBEq, Nat.reduceEqDiff, reduceCtorEq, Nat.reduceAdd, Nat.reduceSub, Nat.reduceMul, Nat.reduceLeDiff, Int.reduceToNat, Int.reduceLT, Int.reduceLE, Int.reduceNeg, reduceIte, I, S, tv, nv, tyT, RawV.tv, R1.row, rowsGet, rowsLen, row4, Vk, Vn, Vs, Vl, byP, byApp, byLen, bySeq, strMk, e2, List.nil_append, Nat.zero_add]
    refine ⟨⟨by omega, by omega⟩, ?_⟩
    (with_reducible apply v_call); (· simp only [vcA, Nat.reduceLT, Int.reduceEq, Int.reduceAdd, Int.reduceSub, Nat.reduceBEq, Nat.reduceEqDiff, reduceCtorEq, Nat.reduceAdd, Nat.reduceSub, Nat.reduceMul, Nat.reduceLeDiff, Int.reduceToNat, Int.reduceLT, Int.reduceLE, Int.reduceNeg, reduceIte, I, S, tv, nv, tyT, RawV.tv, R1.row, rowsGet, rowsLen, row4, Vk, Vn, Vs, Vl, byP, byApp, byLen, bySeq, strMk]; with_reducible rfl); (· exact text_ok a0 a1 m x.s (by omega)); (· first | rfl | (simp only [moOk, nbeq, nble, List.length_nil, beq_self_eq_true, Bool.true_and, Bool.and_true, Bool.and_eq_true, decide_eq_true_eq]; omega)); (· simp only [vcA, Nat.reduceLT, Int.reduceEq, Int.reduceAdd, Int.reduceSub, Nat.reduceBEq, Nat.reduceEqDiff, reduceCtorEq, Nat.reduceAdd, Nat.reduceSub, Nat.reduceMul, Nat.reduceLeDiff, Int.reduceToNat, Int.reduceLT, Int.reduceLE, Int.reduceNeg, reduceIte, I, S, tv, nv, tyT, RawV.tv, R1.row, rowsGet, rowsLen, row4, Vk, Vn, Vs, Vl, byP, byApp, byLen, bySeq, strMk]; with_reducible rfl)
    simp only [vcA, Nat.reduceLT, Int.reduceEq, Int.reduceAdd, Int.reduceSub, Nat.reduceBEq, Nat.reduceEqDiff, reduceCtorEq, Nat.reduceAdd, Nat.reduceSub, Nat.reduceMul, Nat.reduceLeDiff, Int.reduceToNat, Int.reduceLT, Int.reduceLE, Int.reduceNeg, reduceIte, I, S, tv, nv, tyT, RawV.tv, R1.row, rowsGet, rowsLen, row4, Vk, Vn, Vs, Vl, byP, byApp, byLen, bySeq, strMk]
    exact ⟨by omega, by omega⟩
  rw [show enc1 x = num x.k by unfold enc1; rw [if_neg (by omega), if_neg e2, List.append_nil]]
  simp only [vcA, Nat.reduceLT, Int.reduceEq, Int.reduceAdd, Int.reduceSub, Nat.reduceBEq, Nat.reduceEqDiff, reduceCtorEq, Nat.reduceAdd, Nat.reduceSub, Nat.reduceMul, Nat.reduceLeDiff, Int.reduceToNat, Int.reduceLT, Int.reduceLE, Int.reduceNeg, reduceIte, I, S, tv, nv, tyT, RawV.tv, R1.row, rowsGet, rowsLen, row4, Vk, Vn, Vs, Vl, byP, byApp, byLen, bySeq, strMk, e1, e2, e3, e4, h5, List.nil_append, Nat.zero_add]
  exact ⟨by omega, by omega⟩
theorem enc1_len {x : V} (hs : x.s.length ≤ 60) : (enc1 x).length ≤ 80 := by
  have h1 := num_length x.k
  have h2 := num_length x.n
  have h3 := text_len hs
  unfold enc1
  rw [List.length_append]
  split
  · omega
  split
  · omega
  · simp; omega
/-- What may be laid as bytes. -/
def V1Ok (x : V) : Prop := I64 x.k ∧ I64 x.n ∧ x.s.length ≤ 60
def encTo (l : List V) (i : Nat) : List UInt8 := num 5 ++ num l.length ++ (l.take i).flatMap enc1
theorem encTo_succ {l : List V} {i : Nat} {y : V} (h : l[i]? = some y) : encTo l (i + 1) = encTo l i ++ enc1 y := by
  unfold encTo; rw [List.take_add_one, h]; simp
theorem encTo_len {l : List V} (h : ∀ y ∈ l, y.s.length ≤ 60) : ∀ i, (encTo l i).length ≤ 20 + i * 80
  | 0 => by have h1 := num_length 5; have h2 := num_length l.length; simp [encTo]; omega
  | i + 1 => by
    have ih := encTo_len h i
    cases hy : l[i]? with
    | none =>
      have : encTo l (i + 1) = encTo l i := by unfold encTo; rw [List.take_add_one, hy]; simp
      rw [this]; omega
    | some y =>
      have := enc1_len (h y (List.mem_of_getElem? hy))
      rw [encTo_succ hy, List.length_append]; omega
theorem lay_nilL (a0 a1 : Addr) (m : Nat) (x : V) (h5 : x.k = 5) (hl : x.l.length ≤ 12) (hx : ∀ y ∈ x.l, V1Ok y ∧ y.k ≠ 5) :
    SCalls Tryd.prog (gl a0 a1 m) 59 [nilT, tv x] [] (.own 1000 1 (byR (encTo x.l x.l.length))) [.row 5 1 (encTo x.l x.l.length).length] := by
  have HK := num_ok a0 a1 m 5 (by unfold I64; decide)
  have HN := num_ok a0 a1 m x.l.length (by unfold I64; omega)
  have lk' := num_length 5
  have ln := num_length x.l.length
  have hm : maxLen = 9223372036854775807 := rfl
  have hL := encTo_len (l := x.l) (fun y hy => (hx y hy).1.2.2)
  refine call_of hmix tf_val_lay rfl rfl (by simp [moOk, nble]) ?_
  simp only [vcA, Nat.reduceLT, Int.reduceEq, Int.reduceAdd, Int.reduceSub, Nat.reduceBEq, Nat.reduceEqDiff, reduceCtorEq, Nat.reduceAdd, Nat.reduceSub, Nat.reduceMul, Nat.reduceLeDiff, Int.reduceToNat, Int.reduceLT, Int.reduceLE, Int.reduceNeg, reduceIte, I, S, tv, nv, tyT, RawV.tv, R1.row, rowsGet, rowsLen, row4, Vk, Vn, Vs, Vl, nilT, h5]
  refine .inr ?_
  (with_reducible apply v_call); (· simp only [vcA, Nat.reduceLT, Int.reduceEq, Int.reduceAdd, Int.reduceSub, Nat.reduceBEq, Nat.reduceEqDiff, reduceCtorEq, Nat.reduceAdd, Nat.reduceSub, Nat.reduceMul, Nat.reduceLeDiff, Int.reduceToNat, Int.reduceLT, Int.reduceLE, Int.reduceNeg, reduceIte, I, S, tv, nv, tyT, RawV.tv, R1.row, rowsGet, rowsLen, row4, Vk, Vn, Vs, Vl, byP, byApp, byLen, bySeq, strMk]; with_reducible rfl); (· exact HK); (· first | rfl | (simp only [moOk, nbeq, nble, List.length_nil, beq_self_eq_true, Bool.true_and, Bool.and_true, Bool.and_eq_true, decide_eq_true_eq]; omega)); (· simp only [vcA, Nat.reduceLT, Int.reduceEq, Int.reduceAdd, Int.reduceSub, Nat.reduceBEq, Nat.reduceEqDiff, reduceCtorEq, Nat.reduceAdd, Nat.reduceSub, Nat.reduceMul, Nat.reduceLeDiff, Int.reduceToNat, Int.reduceLT, Int.reduceLE, Int.reduceNeg, reduceIte, I, S, tv, nv, tyT, RawV.tv, R1.row, rowsGet, rowsLen, row4, Vk, Vn, Vs, Vl, byP, byApp, byLen, bySeq, strMk]; with_reducible rfl)
  simp only [vcA, Nat.reduceLT, Int.reduceEq, Int.reduceAdd, Int.reduceSub, Nat.reduceBEq, Nat.reduceEqDiff, reduceCtorEq, Nat.reduceAdd, Nat.reduceSub, Nat.reduceMul, Nat.reduceLeDiff, Int.reduceToNat, Int.reduceLT, Int.reduceLE, Int.reduceNeg, reduceIte, I, S, tv, nv, tyT, RawV.tv, R1.row, rowsGet, rowsLen, row4, Vk, Vn, Vs, Vl, byP, byApp, byLen, bySeq, strMk]
  refine ⟨⟨by omega, by omega⟩, .inl ?_⟩
  (with_reducible apply v_call); (· simp only [vcA, Nat.reduceLT, Int.reduceEq, Int.reduceAdd, Int.reduceSub, Nat.reduceBEq, Nat.reduceEqDiff, reduceCtorEq, Nat.reduceAdd, Nat.reduceSub, Nat.reduceMul, Nat.reduceLeDiff, Int.reduceToNat, Int.reduceLT, Int.reduceLE, Int.reduceNeg, reduceIte, I, S, tv, nv, tyT, RawV.tv, R1.row, rowsGet, rowsLen, row4, Vk, Vn, Vs, Vl, byP, byApp, byLen, bySeq, strMk]; with_reducible rfl); (· exact HN); (· first | rfl | (simp only [moOk, nbeq, nble, List.length_nil, beq_self_eq_true, Bool.true_and, Bool.and_true, Bool.and_eq_true, decide_eq_true_eq]; omega)); (· simp only [vcA, Nat.reduceLT, Int.reduceEq, Int.reduceAdd, Int.reduceSub, Nat.reduceBEq, Nat.reduceEqDiff, reduceCtorEq, Nat.reduceAdd, Nat.reduceSub, Nat.reduceMul, Nat.reduceLeDiff, Int.reduceToNat, Int.reduceLT, Int.reduceLE, Int.reduceNeg, reduceIte, I, S, tv, nv, tyT, RawV.tv, R1.row, rowsGet, rowsLen, row4, Vk, Vn, Vs, Vl, byP, byApp, byLen, bySeq, strMk]; with_reducible rfl)
  simp only [vcA, Nat.reduceLT, Int.reduceEq, Int.reduceAdd, Int.reduceSub, Nat.reduceBEq, Nat.reduceEqDiff, reduceCtorEq, Nat.reduceAdd, Nat.reduceSub, Nat.reduceMul, Nat.reduceLeDiff, Int.reduceToNat, Int.reduceLT, Int.reduceLE, Int.reduceNeg, reduceIte, I, S, tv, nv, tyT, RawV.tv, R1.row, rowsGet, rowsLen, row4, Vk, Vn, Vs, Vl, byP, byApp, byLen, bySeq, strMk]
  refine ⟨⟨by omega, by omega⟩, ?_⟩
  have e0 : encTo x.l 0 = num 5 ++ num x.l.length := by simp [encTo]
  refine v_loop (σ := { i : Nat // i ≤ x.l.length })
    (fun i => ⟨[(0, .own 13 1 (byR (encTo x.l i.1))), (45, .pv (.sl 4 (V.rows x.l))), (46, I (x.l.length : Int)), (47, I (i.1 : Int))], [], [(13, (5, 1, (encTo x.l i.1).length))], []⟩)
    (fun i => x.l.length - i.1) ⟨0, Nat.zero_le _⟩ ?_ ?_
  · simp only [e0, List.length_append]
    apply lw_of <;> simp [leL, lk, sv, Nat.beq, I, S, ES.kill, has, drp, nilT]
  rintro ⟨i, hi⟩
  have hLi := hL i
  simp only [vcA, Nat.reduceLT, Int.reduceEq, Int.reduceAdd, Int.reduceSub, Nat.reduceBEq, Nat.reduceEqDiff, reduceCtorEq, Nat.reduceAdd, Nat.reduceSub, Nat.reduceMul, Nat.reduceLeDiff, Int.reduceToNat, Int.reduceLT, Int.reduceLE, Int.reduceNeg, reduceIte, I, S, tv, nv, tyT, RawV.tv, R1.row, rowsGet, rowsLen, row4, Vk, Vn, Vs, Vl, byP, byApp, byLen, bySeq, strMk]
  refine ⟨fun hlt => ⟨by omega, fun y hy => ?_⟩, fun hge => ?_⟩
  · obtain ⟨⟨o1, o2, o3⟩, o4⟩ := hx y (List.mem_of_getElem? hy)
    have hH := lay_one a0 a1 m y (encTo x.l i) o1 o2 o3 o4 (by omega)
    have hle : (encTo x.l i).length ≤ (encTo x.l (i + 1)).length := by rw [encTo_succ hy]; simp
    have hle0 : Nat.ble 0 4 = true := rfl
    rw [← encTo_succ hy] at hH
    (with_reducible apply v_call); (· simp only [vcA, Nat.reduceLT, Int.reduceEq, Int.reduceAdd, Int.reduceSub, Nat.reduceBEq, Nat.reduceEqDiff, reduceCtorEq, Nat.reduceAdd, Nat.reduceSub, Nat.reduceMul, Nat.reduceLeDiff, Int.reduceToNat, Int.reduceLT, Int.reduceLE, Int.reduceNeg, reduceIte, I, S, tv, nv, tyT, RawV.tv, R1.row, rowsGet, rowsLen, row4, Vk, Vn, Vs, Vl, byP, byApp, byLen, bySeq, strMk]; with_reducible rfl); (· exact hH); (· first | rfl | (simp only [moOk, nbeq, nble, List.length_nil, beq_self_eq_true, Bool.true_and, Bool.and_true, Bool.and_eq_true, decide_eq_true_eq]; omega)); (· simp only [vcA, Nat.reduceLT, Int.reduceEq, Int.reduceAdd, Int.reduceSub, Nat.reduceBEq, Nat.reduceEqDiff, reduceCtorEq, Nat.reduceAdd, Nat.reduceSub, Nat.reduceMul, Nat.reduceLeDiff, Int.reduceToNat, Int.reduceLT, Int.reduceLE, Int.reduceNeg, reduceIte, I, S, tv, nv, tyT, RawV.tv, R1.row, rowsGet, rowsLen, row4, Vk, Vn, Vs, Vl, byP, byApp, byLen, bySeq, strMk]; with_reducible rfl)
    simp only [vcA, Nat.reduceLT, Int.reduceEq, Int.reduceAdd, Int.reduceSub, Nat.reduceBEq, Nat.reduceEqDiff, reduceCtorEq, Nat.reduceAdd, Nat.reduceSub, Nat.reduceMul, Nat.reduceLeDiff, Int.reduceToNat, Int.reduceLT, Int.reduceLE, Int.reduceNeg, reduceIte, I, S, tv, nv, tyT, RawV.tv, R1.row, rowsGet, rowsLen, row4, Vk, Vn, Vs, Vl, byP, byApp, byLen, bySeq, strMk]
    refine loopK_of ⟨i + 1, by omega⟩ (by show x.l.length - (i + 1) < x.l.length - i; omega) ?_
    have w1 : IntKind.i64.wrap ((i : Int) + 1) = (i : Int) + 1 := wrap64 (by omega) (by omega)
    apply lw_of <;> simp [leL, lk, sv, Nat.beq, I, S, ES.kill, has, drp, nilT, w1]
  · obtain rfl : i = x.l.length := by omega
    trivial
end Go.Proofs.YtdlolkogifigpaaDoor
end

section
/- Texts by the document's signs are texts by the decoder; what ValText, ValOne, fit make is right. Plain Lean. No statement of the program is proved here. -/
namespace Go.Proofs.YtdlolkogifigpaaDoor
open Go Go.RowKit Go.Mor
theorem byte_lt (l : List UInt8) (i : Nat) : (l.getD i 0).toNat < 256 := (l.getD i 0).toNat_lt
theorem signL_decode (b : UInt8) (t : List UInt8) : signL (b :: t) = if (Lib.decodeL (b :: t)).1 = 65533 ∧ (Lib.decodeL (b :: t)).2 = 1 then 0 else (Lib.decodeL (b :: t)).2 := by
  rw [Lib.decodeL_N, signL, if_neg (by simp)]
  exact signN_decode _ _ _ _ _ (byte_lt _ _) (byte_lt _ _) (byte_lt _ _) (byte_lt _ _)
theorem rune_lo (n b0 b1 b2 b3 : Nat) : (b0 < 128 → (Lib.decodeN n b0 b1 b2 b3).1 = b0) ∧ (128 ≤ b0 → 128 ≤ (Lib.decodeN n b0 b1 b2 b3).1) := by
  unfold Lib.decodeN
  refine ⟨fun h => by rw [if_pos h], fun h => ?_⟩
  rw [if_neg (by omega)]
  (repeat' split) <;> simp only <;> omega
theorem plainR_lead (b : UInt8) (t : List UInt8) : plainR (Lib.decodeL (b :: t)).1 = (!decide (b.toNat < 32) && !(b.toNat == 127)) := by
  rw [Lib.decodeL_N]
  have h := rune_lo (b :: t).length ((b :: t).getD 0 0).toNat ((b :: t).getD 1 0).toNat ((b :: t).getD 2 0).toNat ((b :: t).getD 3 0).toNat
  have e : (b :: t).getD 0 0 = b := rfl
  rw [e] at h ⊢
  generalize (Lib.decodeN _ _ _ _ _).1 = r at h ⊢
  unfold plainR
  rw [Bool.eq_iff_iff]
  rcases Nat.lt_or_ge b.toNat 128 with hb | hb
  · rw [h.1 hb]; simp
  · have := h.2 hb
    simp; omega
theorem isText_eq : ∀ (n : Nat) (l : List UInt8), l.length ≤ n → isText l = (Lib.validD l && plainD l) := by
  intro n
  induction n with
  | zero => intro l hl; obtain rfl := List.eq_nil_of_length_eq_zero (by omega : l.length = 0); rfl
  | succ n ih =>
    intro l hl
    cases l with
    | nil => rfl
    | cons b t =>
      rw [isText_cons, Lib.validD_step _ (by simp), plainD_step _ (by simp), plainR_lead, signL_decode]
      have hw := Lib.decodeL_width (b :: t)
      split
      · simp
      · rw [ih _ (by simp at hl ⊢; omega)]
        have h0 : ((Lib.decodeL (b :: t)).2 == 0) = false := by simp; omega
        rw [h0]
        generalize Lib.validD _ = p
        generalize plainD _ = q
        cases p <;> cases q <;> simp
theorem signL_app (a c : List UInt8) (h : signL a ≠ 0) : signL (a ++ c) = signL a := by
  have hne : a ≠ [] := by rintro rfl; exact h rfl
  have hl := (signL_le a).1
  unfold signL at *
  rw [if_neg hne] at h hl ⊢
  rw [if_neg (by simp [hne])]
  have g : ∀ i, i < a.length → (a ++ c).getD i 0 = a.getD i 0 := fun i hi => by
    simp only [List.getD_eq_getElem?_getD]; rw [List.getElem?_append_left hi]
  have h0 : 0 < a.length := List.length_pos_iff.2 hne
  rw [g 0 h0]
  simp only [List.length_append]
  generalize hB0 : (a.getD 0 0).toNat = B0 at h hl ⊢
  have g1 : 1 < a.length → ((a ++ c).getD 1 0).toNat = (a.getD 1 0).toNat := fun h => by rw [g 1 h]
  have g2 : 2 < a.length → ((a ++ c).getD 2 0).toNat = (a.getD 2 0).toNat := fun h => by rw [g 2 h]
  have g3 : 3 < a.length → ((a ++ c).getD 3 0).toNat = (a.getD 3 0).toNat := fun h => by rw [g 3 h]
  generalize ((a ++ c).getD 1 0).toNat = C1 at g1 ⊢
  generalize ((a ++ c).getD 2 0).toNat = C2 at g2 ⊢
  generalize ((a ++ c).getD 3 0).toNat = C3 at g3 ⊢
  generalize (a.getD 1 0).toNat = D1 at g1 h hl ⊢
  generalize (a.getD 2 0).toNat = D2 at g2 h hl ⊢
  generalize (a.getD 3 0).toNat = D3 at g3 h hl ⊢
  unfold signN at *
  by_cases c1 : B0 < 128
  · rw [if_pos c1, if_pos c1]
  rw [if_neg c1] at h hl ⊢
  rw [if_neg c1]
  by_cases c2 : 194 ≤ B0 ∧ B0 ≤ 223
  · rw [if_pos c2] at h hl ⊢
    rw [if_pos c2]
    split at h
    · contradiction
    · rw [if_neg (by omega), if_neg (by assumption)]
  rw [if_neg c2] at h hl ⊢
  rw [if_neg c2]
  by_cases c3 : 224 ≤ B0 ∧ B0 ≤ 239
  · rw [if_pos c3] at h hl ⊢
    rw [if_pos c3]
    generalize (if B0 = 224 then 160 else 128) = lo at *
    generalize (if B0 = 237 then 159 else 191) = hi at *
    split at h
    · contradiction
    · rw [if_neg (by omega), if_neg (by assumption)]
  rw [if_neg c3] at h hl ⊢
  rw [if_neg c3]
  by_cases c4 : 240 ≤ B0 ∧ B0 ≤ 244
  · rw [if_pos c4] at h hl ⊢
    rw [if_pos c4]
    generalize (if B0 = 240 then 144 else 128) = lo at *
    generalize (if B0 = 244 then 143 else 191) = hi at *
    split at h
    · contradiction
    · rw [if_neg (by omega), if_neg (by assumption)]
  rw [if_neg c4] at h
  contradiction
theorem isText_app : ∀ (n : Nat) (a c : List UInt8), a.length ≤ n → isText a = true → isText c = true → isText (a ++ c) = true := by
  intro n
  induction n with
  | zero => intro a c ha _ hc; obtain rfl := List.eq_nil_of_length_eq_zero (by omega : a.length = 0); exact hc
  | succ n ih =>
    intro a c hl ha hc
    cases a with
    | nil => exact hc
    | cons b t =>
      rw [isText_cons] at ha
      simp only [Bool.and_eq_true, Bool.not_eq_true', beq_eq_false_iff_ne] at ha
      obtain ⟨⟨⟨h1, h2⟩, h3⟩, h4⟩ := ha
      have hs := signL_app (b :: t) c h1
      have hle := (signL_le (b :: t)).1
      rw [List.cons_append] at hs
      rw [List.cons_append, isText_cons, hs, ← List.cons_append, List.drop_append_of_le_length hle]
      rw [ih _ c (by simp at hl ⊢; omega) h4 hc]
      simp [h1, h2, h3]
theorem vtN_right : ∀ (n : Nat) (l out : List UInt8), isText out = true → out.length ≤ 20 → isText (vtN n l out) = true ∧ (vtN n l out).length ≤ 20 := by
  intro n
  induction n with
  | zero => intro l out h1 h2; exact ⟨h1, h2⟩
  | succ n ih =>
    intro l out h1 h2
    simp only [vtN]
    split
    · exact ⟨h1, h2⟩
    · rename_i hn
      refine ih _ _ ?_ ?_
      · split
        · rename_i ht; exact isText_app _ _ _ (Nat.le_refl _) h1 ht
        · exact h1
      · split
        · have hl : 0 < l.length := List.length_pos_iff.2 (fun h => hn (.inl h))
          have hs := stepN_le hl
          have : ¬ 17 ≤ out.length := fun h => hn (.inr h)
          simp only [List.length_append, List.length_take]; omega
        · exact h2
theorem valText_right (l : List UInt8) : (valText l).length ≤ 20 ∧ isText (valText l) = true := (vtN_right _ l [] rfl (by simp)).symm
theorem valText_rt (l : List UInt8) : rightText (valText l) = true := by
  obtain ⟨h1, h2⟩ := valText_right l
  rw [isText_eq _ _ (Nat.le_refl _)] at h2
  unfold rightText
  simp only [Bool.and_eq_true] at h2 ⊢
  exact ⟨by simp; omega, h2⟩
theorem right1_num {n : Int} (h1 : -1000000000000000 ≤ n) (h2 : n ≤ 1000000000000000) : right1 (.mk 1 n [] []) = true := by simp [right1, V.k, bare, V.n, V.s, V.l, h1, h2]
theorem right1_ref {k n : Int} (hk : k = 3 ∨ k = 4) (h : 1 ≤ n ∧ n ≤ 100000) : right1 (.mk k n [] []) = true := by
  rcases hk with rfl | rfl <;> simp [right1, V.k, bare, V.n, V.s, V.l, rightID, h.1, h.2]
theorem valOne_right (k n : Int) (s : List UInt8) (hn : I64 n) : right1 (valOne k n s) = true := by
  have h1 := pickI_lt (n := 1000000000000001) (by decide) hn
  have h2 := pickI_lt (n := 100000) (by decide) hn
  unfold valOne
  split
  · split
    · exact right1_num (by omega) (by omega)
    · exact right1_num (by omega) (by omega)
  · split
    · simp [right1, V.k, V.n, V.s, V.l, valText_rt]
    · split
      · rename_i h
        exact right1_ref h ⟨by omega, by omega⟩
      · rfl
theorem valOne_k (k n : Int) (s : List UInt8) (h : 1 ≤ k ∧ k ≤ 4) : (valOne k n s).k = k := by
  unfold valOne
  split
  · rename_i h; simp [V.k, h]
  · split
    · rename_i h; simp [V.k, h]
    · rw [if_pos (by omega)]; rfl
theorem fitV_right (k j n : Int) (s : List UInt8) (m : Int) (hn : I64 n) (hm : 1 ≤ m) (hk : k ≠ 5) : right1 (fitV k j n s m) = true := by
  have h2 := pickI_lt (n := min m 100000) (by omega) hn
  unfold fitV
  rw [if_neg hk]
  split
  · rename_i h
    split
    · rfl
    · exact right1_ref h ⟨by omega, by omega⟩
  · exact valOne_right _ _ _ hn
theorem fitV_kind (k j n : Int) (s : List UInt8) (m : Int) (hk : 1 ≤ k ∧ k ≤ 4) : (fitV k j n s m).k = k ∨ (fitV k j n s m).k = 0 ∧ (k = 3 ∨ k = 4) := by
  unfold fitV
  rw [if_neg (by omega)]
  split
  · rename_i h
    split
    · exact .inr ⟨rfl, h⟩
    · exact .inl rfl
  · exact .inl (valOne_k _ _ _ hk)
end Go.Proofs.YtdlolkogifigpaaDoor
namespace Go.Proofs.YtdlolkogifigpaaDoor
open Go Go.RowKit Go.Mor
theorem valType_right (a b : Int) (ha : I64 a) (hb : I64 b) : rightType (valType a b) = true := by
  have h1 := pickI_lt (n := 6) (by decide) ha
  have h2 := pickI_lt (n := 4) (by decide) hb
  unfold valType rightType
  split
  · rw [if_neg (by simp only; omega)]; exact decide_eq_true ⟨by show (1 : Int) ≤ 1 + pickI a 6; omega, by show 1 + pickI a 6 ≤ 4; omega, rfl⟩
  · rw [if_pos rfl]; exact decide_eq_true ⟨by show (1 : Int) ≤ 1 + pickI b 4; omega, by show 1 + pickI b 4 ≤ 4; omega⟩
theorem ty_cases {t : Ty} (h : rightType t = true) : (t.k = 5 ∧ 1 ≤ t.o ∧ t.o ≤ 4) ∨ (t.k ≠ 5 ∧ 1 ≤ t.k ∧ t.k ≤ 4 ∧ t.o = 0) := by
  unfold rightType at h
  split at h
  · simp at h; exact .inl ⟨by assumption, h⟩
  · simp at h; exact .inr ⟨by assumption, h⟩
theorem ofKind_fit (k j n : Int) (s : List UInt8) (m : Int) (hk : 1 ≤ k ∧ k ≤ 4) : ofKind (fitV k j n s m) k = true := by
  unfold ofKind
  rcases fitV_kind k j n s m hk with h | ⟨h, h2⟩
  · simp [h]
  · rw [h]; rcases h2 with rfl | rfl <;> simp
theorem fitV_not5 (k j n : Int) (s : List UInt8) (m : Int) (hk : 1 ≤ k ∧ k ≤ 4) : (fitV k j n s m).k ≠ 5 := by
  rcases fitV_kind k j n s m hk with h | ⟨h, h2⟩ <;> omega
theorem fits_one (k j n : Int) (s : List UInt8) (m : Int) (hk : 1 ≤ k ∧ k ≤ 4) (hn : I64 n) (hm : 1 ≤ m) : fitsV (fitV k j n s m) ⟨k, 0⟩ = true := by
  unfold fitsV rightV
  rw [if_neg (fitV_not5 k j n s m hk), fitV_right k j n s m hn hm (by omega), ofKind_fit k j n s m hk, fitV_l]
  simp [rightType]; omega
theorem fitL_mem {o m : Int} {l : List R1} {y : V} (h : y ∈ fitL o m l) : ∃ r ∈ l, y = fitV o r.k r.n r.s m := by
  unfold fitL at h
  obtain ⟨r, hr, rfl⟩ := List.mem_map.1 h
  exact ⟨r, List.mem_of_mem_take hr, rfl⟩
theorem valFit_fits {t : Ty} (ht : rightType t = true) (x : RawV) (m : Int) (hx : x.ok) (hm : 1 ≤ m) : fitsV (valFit t x m) t = true := by
  obtain ⟨hk, hn, hs, hl, hlen⟩ := hx
  unfold valFit
  rcases ty_cases ht with ⟨h5, h1, h4⟩ | ⟨h5, h1, h4, ho⟩
  · rw [if_pos h5]
    unfold fitsV rightV
    have e1 : (fitL t.o m x.l).any noItem = false := by
      rw [List.any_eq_false]
      intro y hy
      obtain ⟨r, hr, rfl⟩ := fitL_mem hy
      have := fitV_not5 t.o r.k r.n r.s m ⟨h1, h4⟩
      unfold noItem
      rw [fitV_right _ _ _ _ _ (hl r hr).2.1 hm (by omega)]
      simp [this]
    have e2 : (fitL t.o m x.l).any (fun y => !ofKind y t.o) = false := by
      rw [List.any_eq_false]
      intro y hy
      obtain ⟨r, hr, rfl⟩ := fitL_mem hy
      rw [ofKind_fit _ _ _ _ _ ⟨h1, h4⟩]; simp
    have e3 : (fitL t.o m x.l).length ≤ 12 := by unfold fitL; simp; omega
    have e4 : ofKind (.mk 5 0 [] (fitL t.o m x.l)) t.k = true := by rw [h5]; rfl
    rw [ht, e4]
    simp only [V.k, V.n, V.s, V.l, if_true, e1, e2]
    simp [e3]
  · rw [if_neg h5]
    have := fits_one t.k x.k x.n x.s m ⟨h1, h4⟩ hn hm
    rw [show (⟨t.k, 0⟩ : Ty) = t by cases t; simp at ho ⊢; exact ho.symm] at this
    exact this
theorem valFit_items {t : Ty} (ht : rightType t = true) (x : RawV) (m : Int) (hx : x.ok) (hm : 1 ≤ m) : ∀ y ∈ (valFit t x m).l, fitsV y ⟨t.o, 0⟩ = true := by
  obtain ⟨hk, hn, hs, hl, hlen⟩ := hx
  intro y hy
  unfold valFit at hy
  rcases ty_cases ht with ⟨h5, h1, h4⟩ | ⟨h5, h1, h4, ho⟩
  · rw [if_pos h5] at hy
    obtain ⟨r, hr, rfl⟩ := fitL_mem hy
    exact fits_one _ _ _ _ _ ⟨h1, h4⟩ (hl r hr).2.1 hm
  · rw [if_neg h5, fitV_l] at hy; simp at hy
theorem zero_fits {t : Ty} (ht : rightType t = true) : fitsV (zeroV t) t = true := by
  unfold fitsV zeroV
  rcases ty_cases ht with ⟨h5, h1, h4⟩ | ⟨h5, h1, h4, ho⟩
  · simp [ht, h5, rightV, ofKind, V.k, V.n, V.s, V.l]
  · rw [ht]
    have : t.k = 1 ∨ t.k = 2 ∨ t.k = 3 ∨ t.k = 4 := by omega
    rcases this with h | h | h | h <;> simp [h, rightV, right1, bare, ofKind, V.k, V.n, V.s, V.l, V.nil, rightText] <;> first | rfl | exact ⟨rfl, rfl⟩
theorem fits_other {t u : Ty} (ht : rightType t = true) (hu : rightType u = true) (x : RawV) (m : Int) (hx : x.ok) (hm : 1 ≤ m) (hne : t.k ≠ u.k) :
    fitsV (valFit t x m) u = ((decide (t.k = 3 ∨ t.k = 4) && decide (u.k = 3 ∨ u.k = 4)) && decide ((valFit t x m).k = 0)) := by
  have hf := valFit_fits ht x m hx hm
  have hr : rightV (valFit t x m) = true := by
    unfold fitsV at hf; simp only [Bool.and_eq_true] at hf; exact hf.1.1.1
  rcases ty_cases ht with ⟨h5, h1, h4⟩ | ⟨h5, h1, h4, ho⟩
  · have hk : (valFit t x m).k = 5 := by unfold valFit; rw [if_pos h5]; rfl
    unfold fitsV ofKind
    rw [hk]
    have : ((5 : Int) == u.k) = false := by simp; omega
    simp [this]
  · have hv : valFit t x m = fitV t.k x.k x.n x.s m := by unfold valFit; rw [if_neg h5]
    have hL : (valFit t x m).l = [] := by rw [hv]; exact fitV_l _ _ _ _ _
    have hkk := fitV_kind t.k x.k x.n x.s m ⟨h1, h4⟩
    rw [← hv] at hkk
    unfold fitsV
    rw [hr, hu, hL]
    have e : ofKind (valFit t x m) u.k = true ↔ (valFit t x m).k = u.k ∨ ((valFit t x m).k = 0 ∧ (u.k = 3 ∨ u.k = 4)) := by unfold ofKind; simp
    rw [Bool.eq_iff_iff]
    simp only [Bool.true_and, List.any_nil, Bool.not_false, Bool.and_true, Bool.and_eq_true, decide_eq_true_eq]
    rw [e]
    have hu1 := ty_cases hu
    omega
/-- The law, in plain words. -/
theorem law_fits {t u : Ty} (ht : rightType t = true) (hu : rightType u = true) (x : RawV) (hx : x.ok) :
    fitsV (valFit t x 500) t = true ∧ (∀ y ∈ (valFit t x 500).l, fitsV y ⟨t.o, 0⟩ = true) ∧ fitsV (zeroV t) t = true ∧
    (t.k ≠ u.k → fitsV (valFit t x 500) u = ((decide (t.k = 3 ∨ t.k = 4) && decide (u.k = 3 ∨ u.k = 4)) && decide ((valFit t x 500).k = 0))) ∧
    (t = u → fitsV (valFit t x 500) u = true) ∧ (t.k = u.k → t.k ≠ 5 → t = u) := by
  refine ⟨valFit_fits ht x 500 hx (by decide), valFit_items ht x 500 hx (by decide), zero_fits ht, fits_other ht hu x 500 hx (by decide), ?_, ?_⟩
  · rintro rfl; exact valFit_fits ht x 500 hx (by decide)
  · intro h1 h2
    rcases ty_cases ht with ⟨h5, _, _⟩ | ⟨h5, _, _, ho⟩
    · exact absurd h5 h2
    rcases ty_cases hu with ⟨h6, _, _⟩ | ⟨h6, _, _, ho'⟩
    · omega
    · cases t; cases u; simp at *; omega
theorem fitV_text (k j n : Int) (s : List UInt8) (m : Int) : (fitV k j n s m).s.length ≤ 60 := by
  have := (valText_right s).1
  unfold fitV valOne
  (repeat' split) <;> simp [V.s, V.nil] <;> omega
end Go.Proofs.YtdlolkogifigpaaDoor
end

section
/- Right values, and their bytes by the program. No statement of the program is proved here. -/
namespace Go.Proofs.YtdlolkogifigpaaDoor
open Go Go.RowKit Go.Mor Go.Sh Go.Sh.Cd1
set_option maxRecDepth 100000
set_option maxHeartbeats 2000000
/-- What a right value that is no list is. -/
theorem right1_inv {x : V} (h : right1 x = true) : x = .mk 0 0 [] [] ∨ (∃ n, -1000000000000000 ≤ n ∧ n ≤ 1000000000000000 ∧ x = .mk 1 n [] []) ∨ (∃ s, rightText s = true ∧ x = .mk 2 0 s []) ∨ (∃ k n, (k = 3 ∨ k = 4) ∧ rightID n = true ∧ x = .mk k n [] []) := by
  unfold right1 bare at h
  have e := V.eta x
  by_cases h0 : x.k = 0
  · rw [if_pos h0] at h
    simp at h
    obtain ⟨⟨h1, h2⟩, h3⟩ := h
    exact .inl (by rw [← e, h0, h1, h2, h3])
  rw [if_neg h0] at h
  by_cases h0 : x.k = 1
  · rw [if_pos h0] at h
    simp at h
    obtain ⟨⟨⟨h1, h2⟩, h3⟩, h4⟩ := h
    exact .inr (.inl ⟨x.n, h3, h4, by rw [← e, h0, h1, h2]; rfl⟩)
  rw [if_neg h0] at h
  by_cases h0 : x.k = 2
  · rw [if_pos h0] at h
    simp at h
    obtain ⟨⟨h1, h2⟩, h3⟩ := h
    exact .inr (.inr (.inl ⟨x.s, h3, by rw [← e, h0, h1, h2]; rfl⟩))
  rw [if_neg h0] at h
  by_cases h0 : x.k = 3 ∨ x.k = 4
  · rw [if_pos h0] at h
    simp at h
    obtain ⟨⟨h1, h2⟩, h3⟩ := h
    exact .inr (.inr (.inr ⟨x.k, x.n, h0, h3, by rw [← e, h1, h2]; rfl⟩))
  · rw [if_neg h0] at h; cases h
theorem rightText_len {s : List UInt8} (h : rightText s = true) : s.length ≤ 60 := by unfold rightText at h; simp at h; exact h.1
theorem rightID_inv {n : Int} (h : rightID n = true) : (1 ≤ n ∧ n ≤ 100000) ∨ (-20 ≤ n ∧ n ≤ -1) := by unfold rightID at h; simpa using h
theorem right1_ok {x : V} (h : right1 x = true) : V1Ok x ∧ x.k ≠ 5 ∧ x.l = [] := by
  unfold V1Ok I64
  rcases right1_inv h with rfl | ⟨n, h1, h2, rfl⟩ | ⟨s, h1, rfl⟩ | ⟨k, n, h1, h2, rfl⟩
  · refine ⟨⟨⟨?_, ?_⟩, ⟨?_, ?_⟩, ?_⟩, ?_, rfl⟩ <;> simp [V.k, V.n, V.s]
  · refine ⟨⟨⟨?_, ?_⟩, ⟨?_, ?_⟩, ?_⟩, ?_, rfl⟩ <;> simp [V.k, V.n, V.s] <;> omega
  · have := rightText_len h1
    refine ⟨⟨⟨?_, ?_⟩, ⟨?_, ?_⟩, ?_⟩, ?_, rfl⟩ <;> simp [V.k, V.n, V.s] <;> omega
  · have := rightID_inv h2
    refine ⟨⟨⟨?_, ?_⟩, ⟨?_, ?_⟩, ?_⟩, ?_, rfl⟩ <;> simp [V.k, V.n, V.s] <;> omega
theorem rightL_inv {x : V} (h : rightV x = true) (h5 : x.k = 5) : x.n = 0 ∧ x.s = [] ∧ x.l.length ≤ 12 ∧ ∀ y ∈ x.l, y.k ≠ 5 ∧ right1 y = true := by
  unfold rightV at h
  rw [if_pos h5] at h
  simp only [Bool.and_eq_true, beq_iff_eq, decide_eq_true_eq, Bool.not_eq_true', List.any_eq_false] at h
  obtain ⟨⟨⟨h1, h2⟩, h3⟩, h4⟩ := h
  refine ⟨h1, h2, h3, fun y hy => ?_⟩
  have := h4 y hy
  unfold noItem at this
  simp at this
  exact this
theorem rightV_one {x : V} (h : rightV x = true) (h5 : x.k ≠ 5) : right1 x = true := by unfold rightV at h; rwa [if_neg h5] at h
theorem rightV_vok {x : V} (h : rightV x = true) : VOk x ∧ VSmall x ∧ x.s.length ≤ 60 ∧ x.l.length ≤ 12 := by
  have hm : maxLen = 9223372036854775807 := rfl
  by_cases h5 : x.k = 5
  · obtain ⟨h1, h2, h3, h4⟩ := rightL_inv h h5
    refine ⟨⟨by unfold TextsOk; rw [h2]; simp, fun y hy => ?_⟩, ?_, by rw [h2]; simp, h3⟩
    · have := (right1_ok (h4 y hy).2).1.2.2; unfold TextsOk; omega
    · obtain ⟨k, n, s, l⟩ := x
      simp only [Vl] at h3 h4
      refine .mk (by omega) (fun y hy => ?_)
      have := (right1_ok (h4 y hy).2).2.2
      obtain ⟨k', n', s', l'⟩ := y
      simp only [Vl] at this; subst this
      exact .mk (by simp) (by simp)
  · have h0 := right1_ok (rightV_one h h5)
    refine ⟨⟨by have := h0.1.2.2; unfold TextsOk; omega, by rw [h0.2.2]; simp⟩, ?_, h0.1.2.2, by rw [h0.2.2]; simp⟩
    obtain ⟨k, n, s, l⟩ := x
    have := h0.2.2
    simp only [Vl] at this; subst this
    exact .mk (by simp) (by simp)
def encTV (x : V) : TV := if rightV x then .tuple [S (str (encV x)), I 0] else .tuple [S (str []), I 30]
theorem encTo_all (x : V) (h5 : x.k = 5) : encTo x.l x.l.length = encV x := by
  unfold encTo encV; rw [if_pos h5, List.take_of_length_le (Nat.le_refl _)]
theorem lay_ok (a0 a1 : Addr) (m : Nat) (x : V) (h : rightV x = true) : SCalls Tryd.prog (gl a0 a1 m) 59 [nilT, tv x] [] (.own 1000 1 (byR (encV x))) [.row 5 1 (encV x).length] := by
  by_cases h5 : x.k = 5
  · obtain ⟨h1, h2, h3, h4⟩ := rightL_inv h h5
    rw [← encTo_all x h5]
    exact lay_nilL a0 a1 m x h5 h3 (fun y hy => ⟨(right1_ok (h4 y hy).2).1, (h4 y hy).1⟩)
  · obtain ⟨⟨o1, o2, o3⟩, _, _⟩ := right1_ok (rightV_one h h5)
    have := lay_nil1 a0 a1 m x o1 o2 o3 h5
    unfold encV; rw [if_neg h5]; exact this
theorem encode_ok (a0 a1 : Addr) (m : Nat) (x : V) (hx : VOk x) : SCalls Tryd.prog (gl a0 a1 m) 28 [tv x] [] (encTV x) [] := by
  have HR := rightV_ok a0 a1 m x hx
  refine call_of0 hmix tf_val_Encode rfl ?_
  unfold encTV
  simp only [vcA, Nat.reduceLT, Int.reduceEq, Int.reduceAdd, Int.reduceSub, Nat.reduceBEq, Nat.reduceEqDiff, reduceCtorEq, Nat.reduceAdd, Nat.reduceSub, Nat.reduceMul, Nat.reduceLeDiff, Int.reduceToNat, Int.reduceLT, Int.reduceLE, Int.reduceNeg, reduceIte, I, S, tv, nv, tyT, RawV.tv, R1.row, rowsGet, rowsLen, row4, Vk, Vn, Vs, Vl]
  (with_reducible apply v_call); (· simp only [vcA, Nat.reduceLT, Int.reduceEq, Int.reduceAdd, Int.reduceSub, Nat.reduceBEq, Nat.reduceEqDiff, reduceCtorEq, Nat.reduceAdd, Nat.reduceSub, Nat.reduceMul, Nat.reduceLeDiff, Int.reduceToNat, Int.reduceLT, Int.reduceLE, Int.reduceNeg, reduceIte, I, S, tv, nv, tyT, RawV.tv, R1.row, rowsGet, rowsLen, row4, Vk, Vn, Vs, Vl]; with_reducible rfl); (· exact HR); (· first | rfl | (simp only [moOk, nbeq, nble, List.length_nil, beq_self_eq_true, Bool.true_and, Bool.and_true, Bool.and_eq_true, decide_eq_true_eq]; omega)); (· simp only [vcA, Nat.reduceLT, Int.reduceEq, Int.reduceAdd, Int.reduceSub, Nat.reduceBEq, Nat.reduceEqDiff, reduceCtorEq, Nat.reduceAdd, Nat.reduceSub, Nat.reduceMul, Nat.reduceLeDiff, Int.reduceToNat, Int.reduceLT, Int.reduceLE, Int.reduceNeg, reduceIte, I, S, tv, nv, tyT, RawV.tv, R1.row, rowsGet, rowsLen, row4, Vk, Vn, Vs, Vl]; with_reducible rfl)
  cases hr : rightV x
  · simp only [vcA, Nat.reduceLT, Int.reduceEq, Int.reduceAdd, Int.reduceSub, Nat.reduceBEq, Nat.reduceEqDiff, reduceCtorEq, Nat.reduceAdd, Nat.reduceSub, Nat.reduceMul, Nat.reduceLeDiff, Int.reduceToNat, Int.reduceLT, Int.reduceLE, Int.reduceNeg, reduceIte, I, S, tv, nv, tyT, RawV.tv, R1.row, rowsGet, rowsLen, row4, Vk, Vn, Vs, Vl]
    rfl
  · have HL := lay_ok a0 a1 m x hr
    simp only [vcA, Nat.reduceLT, Int.reduceEq, Int.reduceAdd, Int.reduceSub, Nat.reduceBEq, Nat.reduceEqDiff, reduceCtorEq, Nat.reduceAdd, Nat.reduceSub, Nat.reduceMul, Nat.reduceLeDiff, Int.reduceToNat, Int.reduceLT, Int.reduceLE, Int.reduceNeg, reduceIte, I, S, tv, nv, tyT, RawV.tv, R1.row, rowsGet, rowsLen, row4, Vk, Vn, Vs, Vl]
    (with_reducible apply v_call); (· simp only [vcA, Nat.reduceLT, Int.reduceEq, Int.reduceAdd, Int.reduceSub, Nat.reduceBEq, Nat.reduceEqDiff, reduceCtorEq, Nat.reduceAdd, Nat.reduceSub, Nat.reduceMul, Nat.reduceLeDiff, Int.reduceToNat, Int.reduceLT, Int.reduceLE, Int.reduceNeg, reduceIte, I, S, tv, nv, tyT, RawV.tv, R1.row, rowsGet, rowsLen, row4, Vk, Vn, Vs, Vl, nilT]; with_reducible rfl); (· exact HL); (· first | rfl | (simp only [moOk, nbeq, nble, List.length_nil, beq_self_eq_true, Bool.true_and, Bool.and_true, Bool.and_eq_true, decide_eq_true_eq]; omega)); (· simp only [vcA, Nat.reduceLT, Int.reduceEq, Int.reduceAdd, Int.reduceSub, Nat.reduceBEq, Nat.reduceEqDiff, reduceCtorEq, Nat.reduceAdd, Nat.reduceSub, Nat.reduceMul, Nat.reduceLeDiff, Int.reduceToNat, Int.reduceLT, Int.reduceLE, Int.reduceNeg, reduceIte, I, S, tv, nv, tyT, RawV.tv, R1.row, rowsGet, rowsLen, row4, Vk, Vn, Vs, Vl, nilT]; with_reducible rfl)
    simp only [vcA, Nat.reduceLT, Int.reduceEq, Int.reduceAdd, Int.reduceSub, Nat.reduceBEq, Nat.reduceEqDiff, reduceCtorEq, Nat.reduceAdd, Nat.reduceSub, Nat.reduceMul, Nat.reduceLeDiff, Int.reduceToNat, Int.reduceLT, Int.reduceLE, Int.reduceNeg, reduceIte, I, S, tv, nv, tyT, RawV.tv, R1.row, rowsGet, rowsLen, row4, Vk, Vn, Vs, Vl, byP, byApp, byLen, bySeq, strMk]
end Go.Proofs.YtdlolkogifigpaaDoor
end

section
/- Readers of bytes in plain words: what is laid is read back; what is cut off is none. -/
namespace Go.Mor
open Go Go.RowKit
set_option maxHeartbeats 1000000

/-- A reader: of a text and a place, what stands there and the place behind it. -/
abbrev Rd (α : Type) : Type := List UInt8 → Int → Option (α × Int)
def Rd.bind {α β : Type} (r : Rd α) (f : α → Rd β) : Rd β := fun s a => match r s a with | none => none | some (v, b) => f v s b
def Rd.ret {α : Type} (v : α) : Rd α := fun _ a => some (v, a)
def Rd.fail {α : Type} : Rd α := fun _ _ => none
/-- e is read as v, whatever stands around it. -/
def Enc {α : Type} (r : Rd α) (e : List UInt8) (v : α) : Prop := ∀ pre post : List UInt8, r (pre ++ e ++ post) pre.length = some (v, ((pre.length + e.length : Nat) : Int))
/-- What is cut off is none; what is not is as it was. -/
def Cuts {α : Type} (r : Rd α) : Prop := ∀ (s : List UInt8) (a : Int) (v : α) (b : Int) (k : Nat), r s a = some (v, b) → a ≤ k → a ≤ b ∧ (b ≤ k → r (s.take k) a = some (v, b)) ∧ (k < b → r (s.take k) a = none)
theorem Enc.bind {α β : Type} {r : Rd α} {f : α → Rd β} {e1 e2 : List UInt8} {v1 : α} {v2 : β} (h1 : Enc r e1 v1) (h2 : Enc (f v1) e2 v2) : Enc (r.bind f) (e1 ++ e2) v2 := by
  intro pre post
  have a := h1 pre (e2 ++ post)
  have b := h2 (pre ++ e1) post
  rw [show pre ++ (e1 ++ e2) ++ post = pre ++ e1 ++ (e2 ++ post) by simp, Rd.bind, a]
  simp only [List.append_assoc, List.length_append] at b ⊢
  rw [b]
  congr 3; omega
theorem Enc.ret {α : Type} (v : α) : Enc (Rd.ret v) [] v := fun pre post => by simp [Rd.ret]
theorem Cuts.bind {α β : Type} {r : Rd α} {f : α → Rd β} (h1 : Cuts r) (h2 : ∀ v, Cuts (f v)) : Cuts (r.bind f) := by
  intro s a v b k h hk
  unfold Rd.bind at h ⊢
  cases hr : r s a with
  | none => rw [hr] at h; cases h
  | some p =>
    obtain ⟨v1, b1⟩ := p
    rw [hr] at h
    dsimp only at h
    obtain ⟨g1, g2, g3⟩ := h1 s a v1 b1 k hr hk
    by_cases hb : b1 ≤ k
    · obtain ⟨j1, j2, j3⟩ := h2 v1 s b1 v b k h hb
      rw [g2 hb]
      exact ⟨by omega, j2, j3⟩
    · obtain ⟨j1, _, _⟩ := h2 v1 s b1 v b b1.toNat h (by omega)
      rw [g3 (by omega)]
      exact ⟨by omega, fun h => by omega, fun _ => rfl⟩
theorem Cuts.ret {α : Type} (v : α) : Cuts (Rd.ret v) := by
  intro s a v' b k h hk
  simp only [Rd.ret, Option.some.injEq, Prod.mk.injEq] at h ⊢
  obtain ⟨rfl, rfl⟩ := h
  exact ⟨by omega, fun _ => ⟨rfl, rfl⟩, fun h => by omega⟩
theorem Cuts.fail {α : Type} : Cuts (Rd.fail (α := α)) := fun s a v b k h => by cases h
theorem Cuts.ite {α : Type} {c : Bool} {r q : Rd α} (h1 : Cuts r) (h2 : Cuts q) : Cuts (if c = true then r else q) := by cases c <;> simpa
/-- Bytes that begin others tell what those tell. -/
theorem Enc.begins {α : Type} {r : Rd α} {e e' : List UInt8} {v v' : α} (h : Enc r e v) (h' : Enc r e' v') (hp : e <+: e') : v = v' := by
  obtain ⟨t, rfl⟩ := hp
  have a := h [] t
  have b := h' [] []
  simp at a b
  rw [a] at b
  simp at b
  exact b.1
theorem Enc.cut {α : Type} {r : Rd α} {e : List UInt8} {v : α} (h : Enc r e v) (hc : Cuts r) (k : Nat) (hk : k < e.length) : r (e.take k) 0 = none := by
  have a := h [] []
  simp at a
  exact (hc e 0 v _ k a (by omega)).2.2 (by omega)

/-! Numbers. -/
def cont : List UInt8 → List UInt8
  | [] => []
  | [g] => [g]
  | g :: r => (g + 128) :: cont r
theorem cont_snoc (l : List UInt8) (g : UInt8) : cont (l ++ [g]) = l.map (· + 128) ++ [g] := by
  induction l with
  | nil => rfl
  | cons a r ih =>
    cases r with
    | nil => rfl
    | cons b q => simp only [List.cons_append, cont, List.map_cons] at ih ⊢; rw [ih]
theorem pack_cont (l : List UInt8) : pack l = cont l := by
  rcases List.eq_nil_or_concat l with rfl | ⟨q, g, rfl⟩
  · rfl
  · rw [List.concat_eq_append, cont_snoc]
    have : ∀ (n : Nat) (q : List UInt8) (g : UInt8), q.length = n → pack (q ++ [g]) = q.map (· + 128) ++ [g] := by
      intro n
      induction n with
      | zero => intro q g hq; obtain rfl := List.eq_nil_of_length_eq_zero hq; rfl
      | succ n ih =>
        intro q g hq
        rcases List.eq_nil_or_concat q with rfl | ⟨p, a, rfl⟩
        · simp at hq
        · rw [List.concat_eq_append] at hq ⊢
          rw [pack_snoc, ih p a (by simp at hq; omega), bump_snoc]
          simp
    exact this q.length q g rfl
theorem cont_length (l : List UInt8) : (cont l).length = l.length := by rw [← pack_cont, pack_length]
theorem u8_lt (b : UInt8) : b.toNat < 256 := b.toNat_lt
theorem rdGo_last {k : Nat} {b : UInt8} (st : Nat × Nat) (r : List UInt8) (hk : k ≠ 0) (h0 : b.toNat ≠ 0) (h9 : k = 9 → b.toNat ≤ 1) (hb : b.toNat < 128) : rdGo k st (b :: r) = .ok (st.1 + b.toNat * 2 ^ (7 * k - 1), st.2, k + 1) := by
  rw [rdGo, if_neg (by rintro ⟨_, h | ⟨h, h'⟩⟩ <;> omega)]
  simp only [hk, if_false, hb, if_true, Nat.mod_eq_of_lt hb]
theorem rdGo_more {k : Nat} {b : UInt8} (st : Nat × Nat) (r : List UInt8) (hk : k ≠ 0) (h9 : k ≠ 9) (hb : 128 ≤ b.toNat) : rdGo k st (b :: r) = rdGo (k + 1) (st.1 + b.toNat % 128 * 2 ^ (7 * k - 1), st.2) r := by
  rw [rdGo, if_neg (by rintro ⟨_, h | ⟨h, h'⟩⟩ <;> omega)]
  have : ¬ b.toNat < 128 := by omega
  simp only [hk, if_false, this]
theorem rdGo_last0 {b : UInt8} (st : Nat × Nat) (r : List UInt8) (hb : b.toNat < 128) : rdGo 0 st (b :: r) = .ok (b.toNat / 2, b.toNat % 2, 1) := by
  rw [rdGo, if_neg (by simp)]
  simp only [if_true, hb, Nat.mod_eq_of_lt hb]
theorem rdGo_more0 {b : UInt8} (st : Nat × Nat) (r : List UInt8) (hb : 128 ≤ b.toNat) : rdGo 0 st (b :: r) = rdGo 1 (b.toNat % 128 / 2, b.toNat % 128 % 2) r := by
  rw [rdGo, if_neg (by simp)]
  have : ¬ b.toNat < 128 := by omega
  simp only [if_true, this, if_false]
theorem rdGo_tail : ∀ (f k : Nat) (st : Nat × Nat) (m : Nat) (rest : List UInt8), m ≠ 0 → 1 ≤ k → k + f = 10 → m < 2 ^ (64 - 7 * k) →
    rdGo k st (cont (tailN f m) ++ rest) = .ok (st.1 + m * 2 ^ (7 * k - 1), st.2, k + (tailN f m).length) := by
  intro f
  induction f with
  | zero => intro k st m rest hm h1 h2 h3; obtain rfl : k = 10 := by omega
            simp at h3; omega
  | succ f ih =>
    intro k st m rest hm h1 h2 h3
    have hb : (UInt8.ofNat (m % 128)).toNat = m % 128 := by rw [UInt8.toNat_ofNat']; omega
    rw [tailN, if_neg hm]
    by_cases hd : m / 128 = 0
    · rw [hd, tailN_zero]
      simp only [cont, List.cons_append, List.nil_append]
      have hm' : m % 128 = m := by omega
      rw [rdGo_last st rest (by omega) (by rw [hb]; omega) (by rintro rfl; rw [hb]; simp at h3; omega) (by rw [hb]; omega), hb, hm']
      simp
    · have hk9 : k ≠ 9 := by rintro rfl; simp at h3; omega
      obtain ⟨x, r, hx⟩ : ∃ x r, tailN f (m / 128) = x :: r := by
        obtain ⟨f', rfl⟩ : ∃ f', f = f' + 1 := ⟨f - 1, by omega⟩
        rw [tailN, if_neg hd]; exact ⟨_, _, rfl⟩
      have hcn : cont (UInt8.ofNat (m % 128) :: tailN f (m / 128)) = (UInt8.ofNat (m % 128) + 128) :: cont (tailN f (m / 128)) := by rw [hx]; rfl
      rw [hcn, List.cons_append]
      have hbb : (UInt8.ofNat (m % 128) + 128).toNat = m % 128 + 128 := by
        rw [UInt8.toNat_add, hb]; show (m % 128 + 128) % 256 = _; omega
      rw [rdGo_more st _ (by omega) hk9 (by rw [hbb]; omega), hbb]
      have hp : (2 : Nat) ^ (64 - 7 * k) = 2 ^ (64 - 7 * (k + 1)) * 128 := by
        rw [show 64 - 7 * k = (64 - 7 * (k + 1)) + 7 by omega, Nat.pow_add]
      rw [ih (k + 1) _ (m / 128) rest hd (by omega) (by omega) (by rw [hp] at h3; omega)]
      have hq : (2 : Nat) ^ (7 * (k + 1) - 1) = 128 * 2 ^ (7 * k - 1) := by
        rw [show 7 * (k + 1) - 1 = 7 + (7 * k - 1) by omega, Nat.pow_add]
      simp only [List.length_cons]
      congr 2
      · rw [hq, show (m % 128 + 128) % 128 = m % 128 by omega]
        generalize 2 ^ (7 * k - 1) = Q
        have : m * Q = (m % 128) * Q + (m / 128) * (128 * Q) := by
          conv => lhs; rw [show m = m % 128 + 128 * (m / 128) by omega]
          rw [Nat.add_mul, Nat.mul_comm 128 (m / 128), Nat.mul_assoc]
        omega
      · congr 1; omega
theorem rd_num (x : Int) (h0 : -9223372036854775808 ≤ x) (h1 : x ≤ 9223372036854775807) (pre post : List UInt8) : rd (pre ++ num x ++ post) pre.length = .ok (x, (num x).length) := by
  have hm := mag_lt x h0 h1
  have hpos := num_pos x
  unfold rd
  rw [if_pos (by simp; omega)]
  have hd : List.drop (pre.length : Int).toNat (pre ++ num x ++ post) = num x ++ post := by
    rw [show (pre.length : Int).toNat = pre.length by omega, List.append_assoc, List.drop_left]
  have hnl : (num x).length = 1 + (tailN 9 (mag x / 64)).length := by rw [num, pack_length]; simp [groups]; omega
  rw [hd, hnl, num, pack_cont, groups]
  have hs : sgn x ≤ 1 := by unfold sgn; split <;> omega
  have hb : (UInt8.ofNat (mag x % 64 * 2 + sgn x)).toNat = mag x % 64 * 2 + sgn x := by rw [UInt8.toNat_ofNat']; omega
  have key : rdGo 0 (0, 0) (cont (UInt8.ofNat (mag x % 64 * 2 + sgn x) :: tailN 9 (mag x / 64)) ++ post) = .ok (mag x, sgn x, 1 + (tailN 9 (mag x / 64)).length) := by
    by_cases hz : mag x / 64 = 0
    · rw [hz, tailN_zero]
      simp only [cont, List.cons_append, List.nil_append]
      rw [rdGo_last0 _ _ (by rw [hb]; omega), hb]
      congr 2
      · omega
      · congr 1; omega
    · obtain ⟨y, r, hx⟩ : ∃ y r, tailN 9 (mag x / 64) = y :: r := by
        rw [show (9 : Nat) = 8 + 1 from rfl, tailN, if_neg hz]; exact ⟨_, _, rfl⟩
      have hcn : cont (UInt8.ofNat (mag x % 64 * 2 + sgn x) :: tailN 9 (mag x / 64)) = (UInt8.ofNat (mag x % 64 * 2 + sgn x) + 128) :: cont (tailN 9 (mag x / 64)) := by rw [hx]; rfl
      have hbb : (UInt8.ofNat (mag x % 64 * 2 + sgn x) + 128).toNat = mag x % 64 * 2 + sgn x + 128 := by
        rw [UInt8.toNat_add, hb]; show (_ + 128) % 256 = _; omega
      rw [hcn, List.cons_append, rdGo_more0 _ _ (by rw [hbb]; omega), hbb]
      rw [rdGo_tail 9 1 _ _ post hz (by omega) (by omega) (by show mag x / 64 < 144115188075855872; omega)]
      congr 2
      · show (mag x % 64 * 2 + sgn x + 128) % 128 / 2 + mag x / 64 * 64 = mag x; omega
      · congr 1; show (mag x % 64 * 2 + sgn x + 128) % 128 % 2 = sgn x; omega
  rw [key]
  dsimp only
  congr 2
  · unfold sgn mag; split <;> simp <;> omega
theorem enc_num (x : Int) (h0 : -9223372036854775808 ≤ x) (h1 : x ≤ 9223372036854775807) : Enc readNum (num x) x := by
  intro pre post
  rw [readNum, rd_num x h0 h1]
  simp
theorem enc_text (t : List UInt8) (ht : t.length ≤ 10000) : Enc readText (text t) t := by
  intro pre post
  have h := rd_num t.length (by omega) (by omega) pre (t ++ post)
  rw [show pre ++ text t ++ post = pre ++ num t.length ++ (t ++ post) by simp [text], readText, rdW, h]
  dsimp only
  rw [if_neg (by omega), if_neg (by simp; omega)]
  dsimp only
  rw [show ((pre.length : Int) + ((num t.length).length : Nat)).toNat = (pre ++ num t.length).length by simp; omega, List.drop_left, show ((t.length : Int)).toNat = t.length by omega, List.take_left]
  simp [text]; omega
theorem rdGo_take : ∀ (l : List UInt8) (k : Nat) (st : Nat × Nat) (m sg z j : Nat), rdGo k st l = .ok (m, sg, z) → k < z ∧ (z ≤ k + j → rdGo k st (l.take j) = .ok (m, sg, z)) ∧ (k + j < z → rdGo k st (l.take j) = .error false) := by
  intro l
  induction l with
  | nil => intro k st m sg z j h; cases h
  | cons b r ih =>
    intro k st m sg z j h
    rw [rdGo] at h
    split at h
    · cases h
    · rename_i hc
      dsimp only at h
      split at h
      · rename_i hb
        injection h with h
        simp only [Prod.mk.injEq] at h
        obtain ⟨h1, h2, h3⟩ := h
        refine ⟨by omega, fun hz => ?_, fun hz => ?_⟩
        · obtain ⟨j', rfl⟩ : ∃ j', j = j' + 1 := ⟨j - 1, by omega⟩
          rw [List.take_succ_cons, rdGo, if_neg hc]
          dsimp only
          rw [if_pos hb, h1, h2, h3]
        · obtain rfl : j = 0 := by omega
          rfl
      · rename_i hb
        cases j with
        | zero =>
          obtain ⟨h1, _, _⟩ := ih _ _ _ _ _ 0 h
          exact ⟨by omega, fun hz => by omega, fun _ => rfl⟩
        | succ j' =>
          obtain ⟨h1, h2, h3⟩ := ih _ _ _ _ _ j' h
          refine ⟨by omega, fun hz => ?_, fun hz => ?_⟩
          all_goals
            rw [List.take_succ_cons, rdGo, if_neg hc]
            dsimp only
            rw [if_neg hb]
          · exact h2 (by omega)
          · exact h3 (by omega)
theorem rd_take {s : List UInt8} {a n : Int} {z : Nat} (h : rd s a = .ok (n, z)) (k : Nat) (hk : a ≤ k) : 0 ≤ a ∧ (a + z ≤ k → rd (s.take k) a = .ok (n, z)) ∧ (k < a + z → rd (s.take k) a = .error false) := by
  have hbd := rd_bound h
  unfold rd at h
  split at h
  · rename_i hin
    cases hr : rdGo 0 (0, 0) (s.drop a.toNat) with
    | error e => rw [hr] at h; cases h
    | ok p =>
      obtain ⟨m, sg, z'⟩ := p
      rw [hr] at h
      dsimp only at h
      injection h with h
      simp only [Prod.mk.injEq] at h
      obtain ⟨h1, rfl⟩ := h
      obtain ⟨g1, g2, g3⟩ := rdGo_take _ _ _ _ _ _ (k - a.toNat) hr
      have hd : (s.take k).drop a.toNat = (s.drop a.toNat).take (k - a.toNat) := List.drop_take
      refine ⟨hin.1, fun hz => ?_, fun hz => ?_⟩
      · unfold rd
        rw [if_pos (by simp; omega), hd, g2 (by omega)]
        dsimp only
        rw [h1]
      · unfold rd
        split
        · rw [hd, g3 (by omega)]
        · rfl
  · cases h
theorem cuts_num : Cuts readNum := by
  intro s a v b k h hk
  unfold readNum at h ⊢
  cases hr : rd s a with
  | error e => rw [hr] at h; cases h
  | ok p =>
    obtain ⟨n, z⟩ := p
    rw [hr] at h
    simp only [Option.some.injEq, Prod.mk.injEq] at h
    obtain ⟨rfl, rfl⟩ := h
    obtain ⟨_, g1, g2⟩ := rd_take hr k hk
    exact ⟨by omega, fun h => by rw [g1 h], fun h => by rw [g2 h]⟩
theorem cuts_text : Cuts readText := by
  intro s a v b k h hk
  unfold readText rdW at h ⊢
  cases hr : rd s a with
  | error e => rw [hr] at h; cases h
  | ok p =>
    obtain ⟨n, z⟩ := p
    rw [hr] at h
    dsimp only at h
    obtain ⟨g0, g1, g2⟩ := rd_take hr k hk
    by_cases hn : n < 0 ∨ 10000 < n
    · rw [if_pos hn] at h; cases h
    rw [if_neg hn] at h
    by_cases hl : (s.length : Int) - (a + z) < n
    · rw [if_pos hl] at h; cases h
    rw [if_neg hl] at h
    simp only [Option.some.injEq, Prod.mk.injEq] at h
    obtain ⟨rfl, rfl⟩ := h
    have hbd := rd_bound hr
    refine ⟨by omega, fun hb => ?_, fun hb => ?_⟩
    · rw [g1 (by omega)]
      dsimp only
      rw [if_neg hn, if_neg (by simp; omega)]
      dsimp only
      rw [List.drop_take, List.take_take, show min n.toNat (k - (a + ↑z).toNat) = n.toNat by omega]
    · by_cases hz : a + z ≤ k
      · rw [g1 hz]
        dsimp only
        rw [if_neg hn, if_pos (by simp; omega)]
      · rw [g2 (by omega)]
end Go.Mor
end

section
/- The code of Cd1 is the program's; the examples run. No statement of the program is proved here. -/
namespace Go.Proofs.YtdlolkogifigpaaDoor
open Go Go.RowKit Go.Mor Go.Sh Go.Sh.Cd1
set_option maxRecDepth 100000
set_option maxHeartbeats 8000000

theorem funcs_ok : FuncsOk Tryd.prog funcs := by
  intro f G h
  unfold funcs at h
  split at h
  · cases h; exact ⟨_, _, _, _, tf_morainelaw03_ValBack⟩
  · cases h; exact ⟨_, _, _, _, tf_morainelaw03_ValOrder⟩
  · cases h; exact ⟨_, _, _, _, tf_morainelaw03_ValCut⟩
  · cases h; exact ⟨_, _, _, _, tf_morainelaw03_ValKinds⟩
  · cases h; exact ⟨_, _, _, _, tf_morainelaw03_ValFits⟩
  · cases h; exact ⟨_, _, _, _, tf_val_Zero⟩
  · cases h; exact ⟨_, _, _, _, tf_morainelaw03_awake⟩
  · cases h; exact ⟨_, _, _, _, tf_morainelaw03_ValOf⟩
  · cases h; exact ⟨_, _, _, _, tf_val_Encode⟩
  · cases h; exact ⟨_, _, _, _, tf_val_Decode⟩
  · cases h; exact ⟨_, _, _, _, tf_moraineref03_Same⟩
  · cases h; exact ⟨_, _, _, _, tf_morainelaw03_odd⟩
  · cases h; exact ⟨_, _, _, _, tf_val_Compare⟩
  · cases h; exact ⟨_, _, _, _, tf_val_Same⟩
  · cases h; exact ⟨_, _, _, _, tf_morainelaw03_pick⟩
  · cases h; exact ⟨_, _, _, _, tf_morainelaw03_ValType⟩
  · cases h; exact ⟨_, _, _, _, tf_morainelaw03_ValFit⟩
  · cases h; exact ⟨_, _, _, _, tf_val_Fits⟩
  · cases h; exact ⟨_, _, _, _, tf_val_rightType⟩
  · cases h; exact ⟨_, _, _, _, tf_val_Read⟩
  · cases h; exact ⟨_, _, _, _, tf_val_Right⟩
  · cases h; exact ⟨_, _, _, _, tf_morainelaw03_ValOne⟩
  · cases h; exact ⟨_, _, _, _, tf_val_lay⟩
  · cases h; exact ⟨_, _, _, _, tf___val_decoder__value⟩
  · cases h; exact ⟨_, _, _, _, tf_moraineref03_Compare⟩
  · cases h; exact ⟨_, _, _, _, tf_cmp_Compare_int_⟩
  · cases h; exact ⟨_, _, _, _, tf_cmp_Compare_string_⟩
  · cases h; exact ⟨_, _, _, _, tf_val_byItems_api_Val_⟩
  · cases h; exact ⟨_, _, _, _, tf_morainelaw03_fit⟩
  · cases h; exact ⟨_, _, _, _, tf_val_ofKind⟩
  · cases h; exact ⟨_, _, _, _, tf_slices_ContainsFunc___api_Val_api_Val_⟩
  · cases h; exact ⟨_, _, _, _, tf_val_Fits_1⟩
  · cases h; exact ⟨_, _, _, _, tf_moraineref03_IsText⟩
  · cases h; exact ⟨_, _, _, _, tf_val_reader⟩
  · cases h; exact ⟨_, _, _, _, tf_val_value⟩
  · cases h; exact ⟨_, _, _, _, tf_val_items⟩
  · cases h; exact ⟨_, _, _, _, tf_val_bare⟩
  · cases h; exact ⟨_, _, _, _, tf_val_rightText⟩
  · cases h; exact ⟨_, _, _, _, tf_val_rightID⟩
  · cases h; exact ⟨_, _, _, _, tf_val_noItem⟩
  · cases h; exact ⟨_, _, _, _, tf_morainelaw03_ValText⟩
  · cases h; exact ⟨_, _, _, _, tf___val_decoder__number⟩
  · cases h; exact ⟨_, _, _, _, tf___val_decoder__text⟩
  · cases h; exact ⟨_, _, _, _, tf___val_decoder__items⟩
  · cases h; exact ⟨_, _, _, _, tf_moraineref03_Order⟩
  · cases h; exact ⟨_, _, _, _, tf_cmp_isNaN_int_⟩
  · cases h; exact ⟨_, _, _, _, tf_cmp_isNaN_string_⟩
  · cases h; exact ⟨_, _, _, _, tf_slices_IndexFunc___api_Val_api_Val_⟩
  · cases h; exact ⟨_, _, _, _, tf_moraineref03_Sign⟩
  · cases h; exact ⟨_, _, _, _, tf_val_reader_1⟩
  · cases h; exact ⟨_, _, _, _, tf_val_first⟩
  · cases h; exact ⟨_, _, _, _, tf_val_quoted⟩
  · cases h; exact ⟨_, _, _, _, tf_val_reference⟩
  · cases h; exact ⟨_, _, _, _, tf_val_number⟩
  · cases h; exact ⟨_, _, _, _, tf_val_sign⟩
  · cases h; exact ⟨_, _, _, _, tf_val_plain⟩
  · cases h; exact ⟨_, _, _, _, tf_val_sign_1⟩
  · cases h
theorem hmix0 : Tryd.prog.follows .mixedOrders = true := by kernel_rfl
theorem awake_run : callF Tryd.prog funcs prim1 100 14 26 [] [] = some (.pv (.v (.bool true)), []) := by kernel_rfl
theorem awake_ok (a0 a1 : Addr) (n : Nat) : SCalls Tryd.prog (gl a0 a1 n) 26 [] [] (.pv (.v (.bool true))) [] :=
  callF_sound hmix0 funcs_ok (prim1_sound a0 a1 n) 14 _ _ _ _ _ awake_run
end Go.Proofs.YtdlolkogifigpaaDoor
end

section
/- The law ValKinds, walked. No statement of the program is proved here. -/
namespace Go.Proofs.YtdlolkogifigpaaDoor
open Go Go.RowKit Go.Mor Go.Sh Go.Sh.Cd1
set_option maxRecDepth 100000
set_option maxHeartbeats 4000000
theorem valOne_right' (k n : Int) (s : List UInt8) (hn : I64 n) : right1 (valOne k n s) = true ∧ (valOne k n s).k ≠ 5 := by
  have h := valOne_right k n s hn
  exact ⟨h, (right1_ok h).2.1⟩
theorem valOf_right (x : RawV) (hx : x.ok) : rightV (valOf x) = true := by
  obtain ⟨hk, hn, hs, hl, hlen⟩ := hx
  unfold valOf
  by_cases h : pickI x.k 7 < 5
  · rw [if_pos h]
    obtain ⟨h1, h2⟩ := valOne_right' (pickI x.k 7) x.n x.s hn
    by_cases h3 : 3 ≤ (valOne (pickI x.k 7) x.n x.s).k ∧ pickI (x.k.tdiv 7) 4 = 0
    · rw [if_pos h3]
      rcases right1_inv h1 with e | ⟨n, _, _, e⟩ | ⟨s, _, e⟩ | ⟨k, n, hkk, hi, e⟩
      · rw [e] at h3; simp [V.k] at h3
      · rw [e] at h3; simp [V.k] at h3
      · rw [e] at h3; simp [V.k] at h3
      · rw [e]
        have hp := pickI_lt (n := 20) (by decide) hn
        have hi : rightID (-1 - pickI x.n 20) = true := by unfold rightID; simp; omega
        have hk5 : ¬ k = 5 := by omega
        have hk0 : ¬ k = 0 := by omega
        have hk1 : ¬ k = 1 := by omega
        have hk2 : ¬ k = 2 := by omega
        simp [rightV, right1, bare, V.k, V.n, V.s, V.l, hk5, hk0, hk1, hk2, hkk, hi]
    · rw [if_neg h3]
      unfold rightV; rw [if_neg h2]; exact h1
  · rw [if_neg h]
    have hall : ∀ y ∈ oneL x.l, noItem y = false := by
      intro y hy
      simp only [oneL, List.mem_map] at hy
      obtain ⟨r, hr, rfl⟩ := hy
      obtain ⟨h1, h2⟩ := valOne_right' (pickI r.k 5) r.n r.s (hl r (List.mem_of_mem_take hr)).2.1
      simp [noItem, h1, h2]
    have hlen : (oneL x.l).length ≤ 12 := by simp [oneL]; omega
    have hany : (oneL x.l).any noItem = false := by rw [List.any_eq_false]; intro y hy; rw [hall y hy]; decide
    simp [rightV, V.k, V.n, V.s, V.l, hlen, hany]
theorem encV_len {x : V} (h : rightV x = true) : (encV x).length ≤ 980 ∧ 0 < (encV x).length := by
  by_cases h5 : x.k = 5
  · obtain ⟨h1, h2, h3, h4⟩ := rightL_inv h h5
    have := encTo_len (l := x.l) (fun y hy => (right1_ok (h4 y hy).2).1.2.2) x.l.length
    rw [encTo_all x h5] at this
    refine ⟨by omega, ?_⟩
    have := num_pos 5
    unfold encV; rw [if_pos h5]; simp; omega
  · have := enc1_len (right1_ok (rightV_one h h5)).1.2.2
    unfold encV; rw [if_neg h5]
    refine ⟨by omega, ?_⟩
    have := num_pos x.k
    unfold enc1; simp; omega
theorem rightV_I64 {x : V} (h : rightV x = true) : I64 x.k ∧ I64 x.n := by
  by_cases h5 : x.k = 5
  · obtain ⟨h1, _⟩ := rightL_inv h h5
    rw [h5, h1]; unfold I64; decide
  · have := (right1_ok (rightV_one h h5)).1
    exact ⟨this.1, this.2.1⟩
theorem encV_head (x : V) : ∃ r, encV x = num x.k ++ r := by
  by_cases h5 : x.k = 5
  · exact ⟨num x.l.length ++ x.l.flatMap enc1, by unfold encV; rw [if_pos h5, h5, List.append_assoc]⟩
  · exact ⟨_, by unfold encV; rw [if_neg h5]; rfl⟩
theorem read_kind {x : V} (h : rightV x = true) : readNum (encV x) 0 = some (x.k, ((num x.k).length : Int)) := by
  obtain ⟨r, hr⟩ := encV_head x
  have hk := (rightV_I64 h).1
  have := enc_num x.k hk.1 hk.2 [] r
  simp at this
  rw [hr]; exact this
theorem read_n {x : V} (h : rightV x = true) (hk : x.k = 1 ∨ x.k = 3 ∨ x.k = 4) : readNum (encV x) ((num x.k).length : Int) = some (x.n, ((encV x).length : Int)) := by
  have he : encV x = num x.k ++ num x.n := by unfold encV; rw [if_neg (by omega)]; unfold enc1; rw [if_pos hk]
  have hn := (rightV_I64 h).2
  have := enc_num x.n hn.1 hn.2 (num x.k) []
  simp at this
  rw [he, this]; simp
theorem valKinds_ok (a0 a1 : Addr) (m : Nat) (x : RawV) (hx : x.ok) : SCalls Tryd.prog (gl a0 a1 m) 10 [x.tv] [] (.pv (.v (.bool true))) [] := by
  refine call_of0 hmix tf_morainelaw03_ValKinds rfl ?_
  have HA := awake_ok a0 a1 m
  have HX := valOf_ok (gl a0 a1 m) x hx
  have hr := valOf_right x hx
  unfold RawV.tv at HX ⊢
  generalize valOf x = v at HX hr
  have HE := encode_ok a0 a1 m v (rightV_vok hr).1
  unfold encTV at HE
  rw [if_pos hr] at HE
  have hl := encV_len hr
  have HK := readNum_ok a0 a1 m (encV v) 0 (by omega) (by unfold I64; decide)
  rw [read_kind hr] at HK
  have hnl := num_length v.k
  simp only [vcA, Nat.reduceLT, Int.reduceEq, Int.reduceAdd, Int.reduceSub, Nat.reduceBEq, Nat.reduceEqDiff, reduceCtorEq, Nat.reduceAdd, Nat.reduceSub, Nat.reduceMul, Nat.reduceLeDiff, Int.reduceToNat, Int.reduceLT, Int.reduceLE, Int.reduceNeg, reduceIte, I, S, tv, nv, tyT, RawV.tv, R1.row, rowsGet, rowsLen, row4, Vk, Vn, Vs, Vl]
  (with_reducible apply v_call); (· simp only [vcA, Nat.reduceLT, Int.reduceEq, Int.reduceAdd, Int.reduceSub, Nat.reduceBEq, Nat.reduceEqDiff, reduceCtorEq, Nat.reduceAdd, Nat.reduceSub, Nat.reduceMul, Nat.reduceLeDiff, Int.reduceToNat, Int.reduceLT, Int.reduceLE, Int.reduceNeg, reduceIte, I, S, tv, nv, tyT, RawV.tv, R1.row, rowsGet, rowsLen, row4, Vk, Vn, Vs, Vl]; with_reducible rfl); (· exact HA); (· first | rfl | (simp only [moOk, nbeq, nble, List.length_nil, beq_self_eq_true, Bool.true_and, Bool.and_true, Bool.and_eq_true, decide_eq_true_eq]; omega)); (· simp only [vcA, Nat.reduceLT, Int.reduceEq, Int.reduceAdd, Int.reduceSub, Nat.reduceBEq, Nat.reduceEqDiff, reduceCtorEq, Nat.reduceAdd, Nat.reduceSub, Nat.reduceMul, Nat.reduceLeDiff, Int.reduceToNat, Int.reduceLT, Int.reduceLE, Int.reduceNeg, reduceIte, I, S, tv, nv, tyT, RawV.tv, R1.row, rowsGet, rowsLen, row4, Vk, Vn, Vs, Vl]; with_reducible rfl)
  simp only [vcA, Nat.reduceLT, Int.reduceEq, Int.reduceAdd, Int.reduceSub, Nat.reduceBEq, Nat.reduceEqDiff, reduceCtorEq, Nat.reduceAdd, Nat.reduceSub, Nat.reduceMul, Nat.reduceLeDiff, Int.reduceToNat, Int.reduceLT, Int.reduceLE, Int.reduceNeg, reduceIte, I, S, tv, nv, tyT, RawV.tv, R1.row, rowsGet, rowsLen, row4, Vk, Vn, Vs, Vl]
  (with_reducible apply v_call); (· simp only [vcA, Nat.reduceLT, Int.reduceEq, Int.reduceAdd, Int.reduceSub, Nat.reduceBEq, Nat.reduceEqDiff, reduceCtorEq, Nat.reduceAdd, Nat.reduceSub, Nat.reduceMul, Nat.reduceLeDiff, Int.reduceToNat, Int.reduceLT, Int.reduceLE, Int.reduceNeg, reduceIte, I, S, tv, nv, tyT, RawV.tv, R1.row, rowsGet, rowsLen, row4, Vk, Vn, Vs, Vl]; with_reducible rfl); (· exact HX); (· first | rfl | (simp only [moOk, nbeq, nble, List.length_nil, beq_self_eq_true, Bool.true_and, Bool.and_true, Bool.and_eq_true, decide_eq_true_eq]; omega)); (· simp only [vcA, Nat.reduceLT, Int.reduceEq, Int.reduceAdd, Int.reduceSub, Nat.reduceBEq, Nat.reduceEqDiff, reduceCtorEq, Nat.reduceAdd, Nat.reduceSub, Nat.reduceMul, Nat.reduceLeDiff, Int.reduceToNat, Int.reduceLT, Int.reduceLE, Int.reduceNeg, reduceIte, I, S, tv, nv, tyT, RawV.tv, R1.row, rowsGet, rowsLen, row4, Vk, Vn, Vs, Vl]; with_reducible rfl)
  simp only [vcA, Nat.reduceLT, Int.reduceEq, Int.reduceAdd, Int.reduceSub, Nat.reduceBEq, Nat.reduceEqDiff, reduceCtorEq, Nat.reduceAdd, Nat.reduceSub, Nat.reduceMul, Nat.reduceLeDiff, Int.reduceToNat, Int.reduceLT, Int.reduceLE, Int.reduceNeg, reduceIte, I, S, tv, nv, tyT, RawV.tv, R1.row, rowsGet, rowsLen, row4, Vk, Vn, Vs, Vl]
  (with_reducible apply v_call); (· simp only [vcA, Nat.reduceLT, Int.reduceEq, Int.reduceAdd, Int.reduceSub, Nat.reduceBEq, Nat.reduceEqDiff, reduceCtorEq, Nat.reduceAdd, Nat.reduceSub, Nat.reduceMul, Nat.reduceLeDiff, Int.reduceToNat, Int.reduceLT, Int.reduceLE, Int.reduceNeg, reduceIte, I, S, tv, nv, tyT, RawV.tv, R1.row, rowsGet, rowsLen, row4, Vk, Vn, Vs, Vl]; with_reducible rfl); (· exact HE); (· first | rfl | (simp only [moOk, nbeq, nble, List.length_nil, beq_self_eq_true, Bool.true_and, Bool.and_true, Bool.and_eq_true, decide_eq_true_eq]; omega)); (· simp only [vcA, Nat.reduceLT, Int.reduceEq, Int.reduceAdd, Int.reduceSub, Nat.reduceBEq, Nat.reduceEqDiff, reduceCtorEq, Nat.reduceAdd, Nat.reduceSub, Nat.reduceMul, Nat.reduceLeDiff, Int.reduceToNat, Int.reduceLT, Int.reduceLE, Int.reduceNeg, reduceIte, I, S, tv, nv, tyT, RawV.tv, R1.row, rowsGet, rowsLen, row4, Vk, Vn, Vs, Vl]; with_reducible rfl)
  simp only [vcA, Nat.reduceLT, Int.reduceEq, Int.reduceAdd, Int.reduceSub, Nat.reduceBEq, Nat.reduceEqDiff, reduceCtorEq, Nat.reduceAdd, Nat.reduceSub, Nat.reduceMul, Nat.reduceLeDiff, Int.reduceToNat, Int.reduceLT, Int.reduceLE, Int.reduceNeg, reduceIte, I, S, tv, nv, tyT, RawV.tv, R1.row, rowsGet, rowsLen, row4, Vk, Vn, Vs, Vl]
  (with_reducible apply v_call); (· simp only [vcA, Nat.reduceLT, Int.reduceEq, Int.reduceAdd, Int.reduceSub, Nat.reduceBEq, Nat.reduceEqDiff, reduceCtorEq, Nat.reduceAdd, Nat.reduceSub, Nat.reduceMul, Nat.reduceLeDiff, Int.reduceToNat, Int.reduceLT, Int.reduceLE, Int.reduceNeg, reduceIte, I, S, tv, nv, tyT, RawV.tv, R1.row, rowsGet, rowsLen, row4, Vk, Vn, Vs, Vl, numTV]; with_reducible rfl); (· exact HK); (· first | rfl | (simp only [moOk, nbeq, nble, List.length_nil, beq_self_eq_true, Bool.true_and, Bool.and_true, Bool.and_eq_true, decide_eq_true_eq]; omega)); (· simp only [vcA, Nat.reduceLT, Int.reduceEq, Int.reduceAdd, Int.reduceSub, Nat.reduceBEq, Nat.reduceEqDiff, reduceCtorEq, Nat.reduceAdd, Nat.reduceSub, Nat.reduceMul, Nat.reduceLeDiff, Int.reduceToNat, Int.reduceLT, Int.reduceLE, Int.reduceNeg, reduceIte, I, S, tv, nv, tyT, RawV.tv, R1.row, rowsGet, rowsLen, row4, Vk, Vn, Vs, Vl, numTV]; with_reducible rfl)
  simp only [vcA, Nat.reduceLT, Int.reduceEq, Int.reduceAdd, Int.reduceSub, Nat.reduceBEq, Nat.reduceEqDiff, reduceCtorEq, Nat.reduceAdd, Nat.reduceSub, Nat.reduceMul, Nat.reduceLeDiff, Int.reduceToNat, Int.reduceLT, Int.reduceLE, Int.reduceNeg, reduceIte, I, S, tv, nv, tyT, RawV.tv, R1.row, rowsGet, rowsLen, row4, Vk, Vn, Vs, Vl]
  have HN : (v.k = 1 ∨ v.k = 3 ∨ v.k = 4) → SCalls Tryd.prog (gl a0 a1 m) 35 [S (str (encV v)), I ((num v.k).length : Int)] [] (numTV (some (v.n, ((encV v).length : Int)))) [] := fun hk => by
    have h := readNum_ok a0 a1 m (encV v) ((num v.k).length : Int) (by omega) (by unfold I64; omega)
    rw [read_n hr hk] at h; exact h
  repeat' (first | (apply And.intro) | (intro _))
  all_goals first
    | ((with_reducible apply v_call); (· simp only [vcA, Nat.reduceLT, Int.reduceEq, Int.reduceAdd, Int.reduceSub, Nat.reduceBEq, Nat.reduceEqDiff, reduceCtorEq, Nat.reduceAdd, Nat.reduceSub, Nat.reduceMul, Nat.reduceLeDiff, Int.reduceToNat, Int.reduceLT, Int.reduceLE, Int.reduceNeg, reduceIte, I, S, tv, nv, tyT, RawV.tv, R1.row, rowsGet, rowsLen, row4, Vk, Vn, Vs, Vl, numTV]; with_reducible rfl); (· exact HN (by omega)); (· first | rfl | (simp only [moOk, nbeq, nble, List.length_nil, beq_self_eq_true, Bool.true_and, Bool.and_true, Bool.and_eq_true, decide_eq_true_eq]; omega)); (· simp only [vcA, Nat.reduceLT, Int.reduceEq, Int.reduceAdd, Int.reduceSub, Nat.reduceBEq, Nat.reduceEqDiff, reduceCtorEq, Nat.reduceAdd, Nat.reduceSub, Nat.reduceMul, Nat.reduceLeDiff, Int.reduceToNat, Int.reduceLT, Int.reduceLE, Int.reduceNeg, reduceIte, I, S, tv, nv, tyT, RawV.tv, R1.row, rowsGet, rowsLen, row4, Vk, Vn, Vs, Vl, numTV]; with_reducible rfl); simp only [vcA, Nat.reduceLT, Int.reduceEq, Int.reduceAdd, Int.reduceSub, Nat.reduceBEq, Nat.reduceEqDiff, reduceCtorEq, Nat.reduceAdd, Nat.reduceSub, Nat.reduceMul, Nat.reduceLeDiff, Int.reduceToNat, Int.reduceLT, Int.reduceLE, Int.reduceNeg, reduceIte, I, S, tv, nv, tyT, RawV.tv, R1.row, rowsGet, rowsLen, row4, Vk, Vn, Vs, Vl]; done)
    | trivial
end Go.Proofs.YtdlolkogifigpaaDoor
end
