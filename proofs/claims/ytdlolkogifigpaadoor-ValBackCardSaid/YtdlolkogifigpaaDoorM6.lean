/- Merged texts: Zy1 Zy4 Pt1 Zy5 Zy6 Zy7 Zy8 Pz1 PRead Aw1 Zk1 Pz2 Zb1. No statement of the program is proved here. -/
import Derived.Test.YtdlolkogifigpaaDoorM5
set_option linter.unusedSimpArgs false
set_option linter.unusedVariables false
section
/- The statements' ValOf. No statement of the program is proved here. -/
namespace Go.Proofs.YtdlolkogifigpaaDoor
open Go Go.RowKit Go.Mor Go.Sh Go.Sh.Cd1
set_option maxRecDepth 100000
set_option maxHeartbeats 2000000
def oneOf (r : R1) : V := valOne (pickI r.k 5) r.n r.s
def onesTo (l : List R1) (i : Nat) : List V := (l.take i).map oneOf
theorem onesTo_succ {l : List R1} {i : Nat} {r : R1} (h : l[i]? = some r) : onesTo l (i + 1) = onesTo l i ++ [oneOf r] := by
  unfold onesTo; rw [List.take_add_one, h]; simp
theorem onesTo_len {l : List R1} {i : Nat} (h : i ≤ l.length) : (onesTo l i).length = i := by simp [onesTo]; omega
theorem oneOf_l (r : R1) : (oneOf r).l = [] := valOne_l _ _ _
theorem rowsApp (l : List V) (y : V) : V.rows (l ++ [y]) = V.rows l ++ [V.row y] := by simp [rows_eq]
theorem rowNil {y : V} (h : y.l = []) : V.row y = [.v (.int .i64 y.k), .v (.int .i64 y.n), .v (.string (str y.s)), .sl 4 []] := by rw [row4, h, V.rows_nil]
theorem valOf_list (g : Sh.Glob) (x : RawV) (hx : x.ok) (hk5 : ¬ pickI x.k 7 < 5) : SCalls Tryd.prog g 27 [x.tv] [] (tv (valOf x)) [] := by
  refine call_of1 hmix tf_morainelaw03_ValOf rfl rfl ?_
  obtain ⟨hk, hn, hs, hl, hlen⟩ := hx
  simp only [vcA, Nat.reduceLT, Int.reduceEq, Int.reduceAdd, Int.reduceSub, Nat.reduceBEq, Nat.reduceEqDiff, reduceCtorEq, Nat.reduceAdd, Nat.reduceSub, Nat.reduceMul, Nat.reduceLeDiff, Int.reduceToNat, Int.reduceLT, Int.reduceLE, Int.reduceNeg, reduceIte, RawV.tv, I, S]
  (with_reducible apply v_call); (· simp only [vcA, Nat.reduceLT, Int.reduceEq, Int.reduceAdd, Int.reduceSub, Nat.reduceBEq, Nat.reduceEqDiff, reduceCtorEq, Nat.reduceAdd, Nat.reduceSub, Nat.reduceMul, Nat.reduceLeDiff, Int.reduceToNat, Int.reduceLT, Int.reduceLE, Int.reduceNeg, reduceIte, I, S]; with_reducible rfl); (· exact pickI_ok g _ _ hk (by decide)); (· first | rfl | (simp only [moOk, nbeq, nble, List.length_nil, beq_self_eq_true, Bool.true_and, Bool.and_true, Bool.and_eq_true, decide_eq_true_eq]; omega)); (· simp only [vcA, Nat.reduceLT, Int.reduceEq, Int.reduceAdd, Int.reduceSub, Nat.reduceBEq, Nat.reduceEqDiff, reduceCtorEq, Nat.reduceAdd, Nat.reduceSub, Nat.reduceMul, Nat.reduceLeDiff, Int.reduceToNat, Int.reduceLT, Int.reduceLE, Int.reduceNeg, reduceIte, I, S]; with_reducible rfl)
  simp only [vcA, Nat.reduceLT, Int.reduceEq, Int.reduceAdd, Int.reduceSub, Nat.reduceBEq, Nat.reduceEqDiff, reduceCtorEq, Nat.reduceAdd, Nat.reduceSub, Nat.reduceMul, Nat.reduceLeDiff, Int.reduceToNat, Int.reduceLT, Int.reduceLE, Int.reduceNeg, reduceIte, hk5, I, S]
  refine v_loop (σ := { i : Nat // i ≤ x.l.length ∧ i ≤ 12 })
    (fun i => ⟨[(1, .ptr 1 0), (2, .ptr 2 0), (5, .ptr 5 0), (6, I (i.1 : Int))], [(1, [I x.k, I x.n, S (str x.s), .pv (.sl 3 (x.l.map R1.row))]), (2, [I 0, I 0, S ⟨#[]⟩, nilT]), (5, [I 5, I 0, S ⟨#[]⟩, .own 3000 4 (V.rows (onesTo x.l i.1))])], [(3000, (31, 4, i.1))], []⟩)
    (fun i => 12 - i.1) ⟨0, Nat.zero_le _, Nat.zero_le _⟩ ?_ ?_
  · refine ES.Lw.trans ?_ (adB_lw (x := 5) (j := 3) (d := 3000) (e := 31) (W := 4) (.inr (by decide)) (by decide) rfl (by simp only [vcA, Nat.reduceLT, Int.reduceEq, Int.reduceAdd, Int.reduceSub, Nat.reduceBEq, Nat.reduceEqDiff, reduceCtorEq, Nat.reduceAdd, Nat.reduceSub, Nat.reduceMul, Nat.reduceLeDiff, Int.reduceToNat, Int.reduceLT, Int.reduceLE, Int.reduceNeg, reduceIte]) rfl)
    exact lw_eq rfl
  rintro ⟨i, hi, h12⟩
  have ol := onesTo_len hi
  simp only [vcA, Nat.reduceLT, Int.reduceEq, Int.reduceAdd, Int.reduceSub, Nat.reduceBEq, Nat.reduceEqDiff, reduceCtorEq, Nat.reduceAdd, Nat.reduceSub, Nat.reduceMul, Nat.reduceLeDiff, Int.reduceToNat, Int.reduceLT, Int.reduceLE, Int.reduceNeg, reduceIte, I, S, tv, nv, tyT, RawV.tv, R1.row, rowsGet, rowsLen, row4, Vk, Vn, Vs, Vl, nilT]
  have he : valOf x = .mk 5 0 [] (oneL x.l) := by unfold valOf; rw [if_neg hk5]
  have hend : (i = x.l.length ∨ i = 12) → onesTo x.l i = oneL x.l := by
    intro h
    unfold oneL onesTo
    rcases h with h | h
    · rw [h, List.take_of_length_le (Nat.le_refl _), List.take_of_length_le (by omega)]; rfl
    · rw [h]; rfl
  refine ⟨fun h1 => ⟨fun h2 => .inl ⟨by omega, fun r hr => ?_⟩, fun h2 => ?_⟩, fun h1 => ?_⟩
  · obtain ⟨o1, o2, o3⟩ := hl r (List.mem_of_getElem? hr)
    (with_reducible apply v_call); (· simp only [vcA, Nat.reduceLT, Int.reduceEq, Int.reduceAdd, Int.reduceSub, Nat.reduceBEq, Nat.reduceEqDiff, reduceCtorEq, Nat.reduceAdd, Nat.reduceSub, Nat.reduceMul, Nat.reduceLeDiff, Int.reduceToNat, Int.reduceLT, Int.reduceLE, Int.reduceNeg, reduceIte, I, S]; with_reducible rfl); (· exact pickI_ok g _ _ o1 (by decide)); (· first | rfl | (simp only [moOk, nbeq, nble, List.length_nil, beq_self_eq_true, Bool.true_and, Bool.and_true, Bool.and_eq_true, decide_eq_true_eq]; omega)); (· simp only [vcA, Nat.reduceLT, Int.reduceEq, Int.reduceAdd, Int.reduceSub, Nat.reduceBEq, Nat.reduceEqDiff, reduceCtorEq, Nat.reduceAdd, Nat.reduceSub, Nat.reduceMul, Nat.reduceLeDiff, Int.reduceToNat, Int.reduceLT, Int.reduceLE, Int.reduceNeg, reduceIte, I, S]; with_reducible rfl)
    simp only [vcA, Nat.reduceLT, Int.reduceEq, Int.reduceAdd, Int.reduceSub, Nat.reduceBEq, Nat.reduceEqDiff, reduceCtorEq, Nat.reduceAdd, Nat.reduceSub, Nat.reduceMul, Nat.reduceLeDiff, Int.reduceToNat, Int.reduceLT, Int.reduceLE, Int.reduceNeg, reduceIte, I, S, tv, nv, tyT, RawV.tv, R1.row, rowsGet, rowsLen, row4, Vk, Vn, Vs, Vl]
    refine ⟨by omega, fun r' hr' => ?_⟩
    rw [hr] at hr'; cases hr'
    have HV := (valOne_ok g (pickI r.k 5) r.k r.n r.s o2 o3).out (nv_tv (valOne_l _ _ _))
    unfold tv at HV
    rw [valOne_l, V.rows_nil] at HV
    (with_reducible apply v_call); (· simp only [vcA, Nat.reduceLT, Int.reduceEq, Int.reduceAdd, Int.reduceSub, Nat.reduceBEq, Nat.reduceEqDiff, reduceCtorEq, Nat.reduceAdd, Nat.reduceSub, Nat.reduceMul, Nat.reduceLeDiff, Int.reduceToNat, Int.reduceLT, Int.reduceLE, Int.reduceNeg, reduceIte, I, S, tv, nv, tyT, RawV.tv, R1.row, rowsGet, rowsLen, row4, Vk, Vn, Vs, Vl]; with_reducible rfl); (· exact HV); (· first | rfl | (simp only [moOk, nbeq, nble, List.length_nil, beq_self_eq_true, Bool.true_and, Bool.and_true, Bool.and_eq_true, decide_eq_true_eq]; omega)); (· simp only [vcA, Nat.reduceLT, Int.reduceEq, Int.reduceAdd, Int.reduceSub, Nat.reduceBEq, Nat.reduceEqDiff, reduceCtorEq, Nat.reduceAdd, Nat.reduceSub, Nat.reduceMul, Nat.reduceLeDiff, Int.reduceToNat, Int.reduceLT, Int.reduceLE, Int.reduceNeg, reduceIte, I, S, tv, nv, tyT, RawV.tv, R1.row, rowsGet, rowsLen, row4, Vk, Vn, Vs, Vl]; with_reducible rfl)
    simp only [vcA, Nat.reduceLT, Int.reduceEq, Int.reduceAdd, Int.reduceSub, Nat.reduceBEq, Nat.reduceEqDiff, reduceCtorEq, Nat.reduceAdd, Nat.reduceSub, Nat.reduceMul, Nat.reduceLeDiff, Int.reduceToNat, Int.reduceLT, Int.reduceLE, Int.reduceNeg, reduceIte, I, S, tv, nv, tyT, RawV.tv, R1.row, rowsGet, rowsLen, row4, Vk, Vn, Vs, Vl, ol]
    refine ⟨⟨by omega, by have hm : maxLen = 9223372036854775807 := rfl; omega⟩, loopK_of ⟨i + 1, by omega, by omega⟩ (by show 12 - (i + 1) < 12 - i; omega) ?_⟩
    have w1 : IntKind.i64.wrap ((i : Int) + 1) = ((i + 1 : Nat) : Int) := by rw [wrap64 (by omega) (by omega)]; omega
    refine lw_eq ?_
    simp only [onesTo_succ hr, rowsApp, rowNil (oneOf_l r), w1]
    rfl
  · rw [he, hend (.inr (by omega))]; rfl
  · rw [he, hend (.inl (by omega))]; rfl
theorem valOf_l_small {x : RawV} (h : pickI x.k 7 < 5) : (valOf x).l = [] := by
  unfold valOf; rw [if_pos h]; split
  · rfl
  · exact valOne_l _ _ _
theorem valOf_ok (g : Sh.Glob) (x : RawV) (hx : x.ok) : SCalls Tryd.prog g 27 [x.tv] [] (tv (valOf x)) [] := by
  by_cases h : pickI x.k 7 < 5
  · exact (valOf_small g x hx h).out (nv_tv (valOf_l_small h))
  · exact valOf_list g x hx h
end Go.Proofs.YtdlolkogifigpaaDoor
end

section
/- Values as bytes: the program's way. No statement of the program is proved here. -/
namespace Go.Proofs.YtdlolkogifigpaaDoor
open Go Go.RowKit Go.Mor Go.Sh Go.Sh.Cd1
set_option maxRecDepth 100000
set_option maxHeartbeats 2000000
theorem bl_str (l : List UInt8) : bl (str l) = l := by simp [bl, str]
theorem in64_T {x : Int} (h : I64 x) : in64 x = true := by unfold in64; obtain ⟨h1, h2⟩ := h; simp [h1, h2]
theorem num_ok (a0 a1 : Addr) (m : Nat) (x : Int) (h : I64 x) : SCalls Tryd.prog (gl a0 a1 m) 46 [I x] [] (S (str (num x))) [] :=
  prim1_sound a0 a1 m _ _ _ _ _ (by simp [prim1, I, Nat.beq, in64_T h])
theorem text_ok (a0 a1 : Addr) (m : Nat) (l : List UInt8) (h : l.length ≤ 10000) : SCalls Tryd.prog (gl a0 a1 m) 76 [S (str l)] [] (.tuple [S (str (text l)), I 0]) [] :=
  prim1_sound a0 a1 m _ _ _ _ _ (by simp [prim1, S, Nat.beq, bl_str, textTV, h]; omega)
theorem readNum_ok (a0 a1 : Addr) (m : Nat) (l : List UInt8) (a : Int) (hl : l.length < 1125899906842624) (h : I64 a) : SCalls Tryd.prog (gl a0 a1 m) 35 [S (str l), I a] [] (numTV (readNum l a)) [] :=
  prim1_sound a0 a1 m _ _ _ _ _ (by simp [prim1, S, I, Nat.beq, bl_str, in64_T h, hl])
theorem readText_ok (a0 a1 : Addr) (m : Nat) (l : List UInt8) (a : Int) (hl : l.length < 1125899906842624) (h : I64 a) : SCalls Tryd.prog (gl a0 a1 m) 78 [S (str l), I a] [] (readTV (readText l a)) [] :=
  prim1_sound a0 a1 m _ _ _ _ _ (by simp [prim1, S, I, Nat.beq, bl_str, in64_T h, hl])
/-- Bytes as a slice's elements. -/
def byR (l : List UInt8) : List (List PV) := l.map fun u => [.v (.int .u8 u.toNat)]
theorem byP (l : List UInt8) : bytesP (str l) = byR l := by simp [bytesP, byR, str]
theorem byApp (a b : List UInt8) : byR a ++ byR b = byR (a ++ b) := by simp [byR]
theorem byLen (a : List UInt8) : (byR a).length = a.length := by simp [byR]
theorem bySeq : ∀ (a : List UInt8), seqO Sh.byteOf (byR a) = some a
  | [] => rfl
  | u :: a => by
    have ih := bySeq a
    unfold byR at ih ⊢
    simp only [List.map_cons, seqO, ih, Sh.byteOf]
    simp
theorem strMk (l : List UInt8) : (⟨l.toArray⟩ : ByteArray) = str l := rfl
/-- The bytes of a value that is no list. -/
def enc1 (x : V) : List UInt8 := num x.k ++ (if x.k = 1 ∨ x.k = 3 ∨ x.k = 4 then num x.n else if x.k = 2 then text x.s else [])
def encV (x : V) : List UInt8 := if x.k = 5 then num 5 ++ num x.l.length ++ x.l.flatMap enc1 else enc1 x
theorem text_len {l : List UInt8} (h : l.length ≤ 60) : (text l).length ≤ 70 := by
  have := num_length l.length
  simp [text]; omega
theorem lay_one (a0 a1 : Addr) (m : Nat) (x : V) (b : List UInt8) (hk : I64 x.k) (hn : I64 x.n) (hs : x.s.length ≤ 60) (h5 : x.k ≠ 5) (hb : b.length ≤ 100000) :
    SCalls Tryd.prog (gl a0 a1 m) 59 [.own 1000 1 (byR b), tv x] [.row 5 1 b.length] (.own 1000 1 (byR (b ++ enc1 x))) [.row 5 1 (b ++ enc1 x).length] := by
  have HK := num_ok a0 a1 m x.k hk
  have HN := num_ok a0 a1 m x.n hn
  have lk' := num_length x.k
  have ln := num_length x.n
  have hm : maxLen = 9223372036854775807 := rfl
  refine call_of hmix tf_val_lay rfl rfl (by simp [moOk, Nat.beq_refl, nble]) ?_
  simp only [vcA, Nat.reduceLT, Int.reduceEq, Int.reduceAdd, Int.reduceSub, Nat.reduceBEq, Nat.reduceEqDiff, reduceCtorEq, Nat.reduceAdd, Nat.reduceSub, Nat.reduceMul, Nat.reduceLeDiff, Int.reduceToNat, Int.reduceLT, Int.reduceLE, Int.reduceNeg, reduceIte, I, S, tv, nv, tyT, RawV.tv, R1.row, rowsGet, rowsLen, row4, Vk, Vn, Vs, Vl]
  refine .inl ?_
  (with_reducible apply v_call); (· simp only [vcA, Nat.reduceLT, Int.reduceEq, Int.reduceAdd, Int.reduceSub, Nat.reduceBEq, Nat.reduceEqDiff, reduceCtorEq, Nat.reduceAdd, Nat.reduceSub, Nat.reduceMul, Nat.reduceLeDiff, Int.reduceToNat, Int.reduceLT, Int.reduceLE, Int.reduceNeg, reduceIte, I, S, tv, nv, tyT, RawV.tv, R1.row, rowsGet, rowsLen, row4, Vk, Vn, Vs, Vl, byP, byApp, byLen, bySeq, strMk]; with_reducible rfl); (· exact HK); (· first | rfl | (simp only [moOk, nbeq, nble, List.length_nil, beq_self_eq_true, Bool.true_and, Bool.and_true, Bool.and_eq_true, decide_eq_true_eq]; omega)); (· simp only [vcA, Nat.reduceLT, Int.reduceEq, Int.reduceAdd, Int.reduceSub, Nat.reduceBEq, Nat.reduceEqDiff, reduceCtorEq, Nat.reduceAdd, Nat.reduceSub, Nat.reduceMul, Nat.reduceLeDiff, Int.reduceToNat, Int.reduceLT, Int.reduceLE, Int.reduceNeg, reduceIte, I, S, tv, nv, tyT, RawV.tv, R1.row, rowsGet, rowsLen, row4, Vk, Vn, Vs, Vl, byP, byApp, byLen, bySeq, strMk]; with_reducible rfl)
  by_cases e1 : x.k = 1
  · have nk := num_length 1
    rw [show enc1 x = num x.k ++ num x.n by unfold enc1; rw [if_pos (by omega)]]
    simp only [vcA, Nat.reduceLT, Int.reduceEq, Int.reduceAdd, Int.reduceSub, Nat.reduceBEq, Nat.reduceEqDiff, reduceCtorEq, Nat.reduceAdd, Nat.reduceSub, Nat.reduceMul, Nat.reduceLeDiff, Int.reduceToNat, Int.reduceLT, Int.reduceLE, Int.reduceNeg, reduceIte, I, S, tv, nv, tyT, RawV.tv, R1.row, rowsGet, rowsLen, row4, Vk, Vn, Vs, Vl, byP, byApp, byLen, bySeq, strMk, e1, List.nil_append, Nat.zero_add]
    refine ⟨⟨by omega, by omega⟩, .inl ?_⟩
    (with_reducible apply v_call); (· simp only [vcA, Nat.reduceLT, Int.reduceEq, Int.reduceAdd, Int.reduceSub, Nat.reduceBEq, Nat.reduceEqDiff, reduceCtorEq, Nat.reduceAdd, Nat.reduceSub, Nat.reduceMul, Nat.reduceLeDiff, Int.reduceToNat, Int.reduceLT, Int.reduceLE, Int.reduceNeg, reduceIte, I, S, tv, nv, tyT, RawV.tv, R1.row, rowsGet, rowsLen, row4, Vk, Vn, Vs, Vl, byP, byApp, byLen, bySeq, strMk]; with_reducible rfl); (· exact HN); (· first | rfl | (simp only [moOk, nbeq, nble, List.length_nil, beq_self_eq_true, Bool.true_and, Bool.and_true, Bool.and_eq_true, decide_eq_true_eq]; omega)); (· simp only [vcA, Nat.reduceLT, Int.reduceEq, Int.reduceAdd, Int.reduceSub, Nat.reduceBEq, Nat.reduceEqDiff, reduceCtorEq, Nat.reduceAdd, Nat.reduceSub, Nat.reduceMul, Nat.reduceLeDiff, Int.reduceToNat, Int.reduceLT, Int.reduceLE, Int.reduceNeg, reduceIte, I, S, tv, nv, tyT, RawV.tv, R1.row, rowsGet, rowsLen, row4, Vk, Vn, Vs, Vl, byP, byApp, byLen, bySeq, strMk]; with_reducible rfl)
    simp only [vcA, Nat.reduceLT, Int.reduceEq, Int.reduceAdd, Int.reduceSub, Nat.reduceBEq, Nat.reduceEqDiff, reduceCtorEq, Nat.reduceAdd, Nat.reduceSub, Nat.reduceMul, Nat.reduceLeDiff, Int.reduceToNat, Int.reduceLT, Int.reduceLE, Int.reduceNeg, reduceIte, I, S, tv, nv, tyT, RawV.tv, R1.row, rowsGet, rowsLen, row4, Vk, Vn, Vs, Vl, byP, byApp, byLen, bySeq, strMk]
    exact ⟨⟨by omega, by omega⟩, by simp only [List.append_assoc, Nat.add_assoc, List.nil_append]⟩
  by_cases e3 : x.k = 3
  · have nk := num_length 3
    rw [show enc1 x = num x.k ++ num x.n by unfold enc1; rw [if_pos (by omega)]]
    simp only [vcA, Nat.reduceLT, Int.reduceEq, Int.reduceAdd, Int.reduceSub, Nat.reduceBEq, Nat.reduceEqDiff, reduceCtorEq, Nat.reduceAdd, Nat.reduceSub, Nat.reduceMul, Nat.reduceLeDiff, Int.reduceToNat, Int.reduceLT, Int.reduceLE, Int.reduceNeg, reduceIte, I, S, tv, nv, tyT, RawV.tv, R1.row, rowsGet, rowsLen, row4, Vk, Vn, Vs, Vl, byP, byApp, byLen, bySeq, strMk, e3, List.nil_append, Nat.zero_add]
    refine ⟨⟨by omega, by omega⟩, .inl ?_⟩
    (with_reducible apply v_call); (· simp only [vcA, Nat.reduceLT, Int.reduceEq, Int.reduceAdd, Int.reduceSub, Nat.reduceBEq, Nat.reduceEqDiff, reduceCtorEq, Nat.reduceAdd, Nat.reduceSub, Nat.reduceMul, Nat.reduceLeDiff, Int.reduceToNat, Int.reduceLT, Int.reduceLE, Int.reduceNeg, reduceIte, I, S, tv, nv, tyT, RawV.tv, R1.row, rowsGet, rowsLen, row4, Vk, Vn, Vs, Vl, byP, byApp, byLen, bySeq, strMk]; with_reducible rfl); (· exact HN); (· first | rfl | (simp only [moOk, nbeq, nble, List.length_nil, beq_self_eq_true, Bool.true_and, Bool.and_true, Bool.and_eq_true, decide_eq_true_eq]; omega)); (· simp only [vcA, Nat.reduceLT, Int.reduceEq, Int.reduceAdd, Int.reduceSub, Nat.reduceBEq, Nat.reduceEqDiff, reduceCtorEq, Nat.reduceAdd, Nat.reduceSub, Nat.reduceMul, Nat.reduceLeDiff, Int.reduceToNat, Int.reduceLT, Int.reduceLE, Int.reduceNeg, reduceIte, I, S, tv, nv, tyT, RawV.tv, R1.row, rowsGet, rowsLen, row4, Vk, Vn, Vs, Vl, byP, byApp, byLen, bySeq, strMk]; with_reducible rfl)
    simp only [vcA, Nat.reduceLT, Int.reduceEq, Int.reduceAdd, Int.reduceSub, Nat.reduceBEq, Nat.reduceEqDiff, reduceCtorEq, Nat.reduceAdd, Nat.reduceSub, Nat.reduceMul, Nat.reduceLeDiff, Int.reduceToNat, Int.reduceLT, Int.reduceLE, Int.reduceNeg, reduceIte, I, S, tv, nv, tyT, RawV.tv, R1.row, rowsGet, rowsLen, row4, Vk, Vn, Vs, Vl, byP, byApp, byLen, bySeq, strMk]
    exact ⟨⟨by omega, by omega⟩, by simp only [List.append_assoc, Nat.add_assoc, List.nil_append]⟩
  by_cases e4 : x.k = 4
  · have nk := num_length 4
    rw [show enc1 x = num x.k ++ num x.n by unfold enc1; rw [if_pos (by omega)]]
    simp only [vcA, Nat.reduceLT, Int.reduceEq, Int.reduceAdd, Int.reduceSub, Nat.reduceBEq, Nat.reduceEqDiff, reduceCtorEq, Nat.reduceAdd, Nat.reduceSub, Nat.reduceMul, Nat.reduceLeDiff, Int.reduceToNat, Int.reduceLT, Int.reduceLE, Int.reduceNeg, reduceIte, I, S, tv, nv, tyT, RawV.tv, R1.row, rowsGet, rowsLen, row4, Vk, Vn, Vs, Vl, byP, byApp, byLen, bySeq, strMk, e4, List.nil_append, Nat.zero_add]
    refine ⟨⟨by omega, by omega⟩, .inl ?_⟩
    (with_reducible apply v_call); (· simp only [vcA, Nat.reduceLT, Int.reduceEq, Int.reduceAdd, Int.reduceSub, Nat.reduceBEq, Nat.reduceEqDiff, reduceCtorEq, Nat.reduceAdd, Nat.reduceSub, Nat.reduceMul, Nat.reduceLeDiff, Int.reduceToNat, Int.reduceLT, Int.reduceLE, Int.reduceNeg, reduceIte, I, S, tv, nv, tyT, RawV.tv, R1.row, rowsGet, rowsLen, row4, Vk, Vn, Vs, Vl, byP, byApp, byLen, bySeq, strMk]; with_reducible rfl); (· exact HN); (· first | rfl | (simp only [moOk, nbeq, nble, List.length_nil, beq_self_eq_true, Bool.true_and, Bool.and_true, Bool.and_eq_true, decide_eq_true_eq]; omega)); (· simp only [vcA, Nat.reduceLT, Int.reduceEq, Int.reduceAdd, Int.reduceSub, Nat.reduceBEq, Nat.reduceEqDiff, reduceCtorEq, Nat.reduceAdd, Nat.reduceSub, Nat.reduceMul, Nat.reduceLeDiff, Int.reduceToNat, Int.reduceLT, Int.reduceLE, Int.reduceNeg, reduceIte, I, S, tv, nv, tyT, RawV.tv, R1.row, rowsGet, rowsLen, row4, Vk, Vn, Vs, Vl, byP, byApp, byLen, bySeq, strMk]; with_reducible rfl)
    simp only [vcA, Nat.reduceLT, Int.reduceEq, Int.reduceAdd, Int.reduceSub, Nat.reduceBEq, Nat.reduceEqDiff, reduceCtorEq, Nat.reduceAdd, Nat.reduceSub, Nat.reduceMul, Nat.reduceLeDiff, Int.reduceToNat, Int.reduceLT, Int.reduceLE, Int.reduceNeg, reduceIte, I, S, tv, nv, tyT, RawV.tv, R1.row, rowsGet, rowsLen, row4, Vk, Vn, Vs, Vl, byP, byApp, byLen, bySeq, strMk]
    exact ⟨⟨by omega, by omega⟩, by simp only [List.append_assoc, Nat.add_assoc, List.nil_append]⟩
  by_cases e2 : x.k = 2
  · have nk := num_length 2
    have tk := text_len hs
    rw [show enc1 x = num x.k ++ text x.s by unfold enc1; rw [if_neg (by omega), if_pos e2]]
    simp only [vcA, Nat.reduceLT, Int.reduceEq, Int.reduceAdd, Int.reduceSub, Nat.reduceBEq, Nat.reduceEqDiff, reduceCtorEq, Nat.reduceAdd, Nat.reduceSub, Nat.reduceMul, Nat.reduceLeDiff, Int.reduceToNat, Int.reduceLT, Int.reduceLE, Int.reduceNeg, reduceIte, I, S, tv, nv, tyT, RawV.tv, R1.row, rowsGet, rowsLen, row4, Vk, Vn, Vs, Vl, byP, byApp, byLen, bySeq, strMk, e2, List.nil_append, Nat.zero_add]
    refine ⟨⟨by omega, by omega⟩, ?_⟩
    (with_reducible apply v_call); (· simp only [vcA, Nat.reduceLT, Int.reduceEq, Int.reduceAdd, Int.reduceSub, Nat.reduceBEq, Nat.reduceEqDiff, reduceCtorEq, Nat.reduceAdd, Nat.reduceSub, Nat.reduceMul, Nat.reduceLeDiff, Int.reduceToNat, Int.reduceLT, Int.reduceLE, Int.reduceNeg, reduceIte, I, S, tv, nv, tyT, RawV.tv, R1.row, rowsGet, rowsLen, row4, Vk, Vn, Vs, Vl, byP, byApp, byLen, bySeq, strMk]; with_reducible rfl); (· exact text_ok a0 a1 m x.s (by omega)); (· first | rfl | (simp only [moOk, nbeq, nble, List.length_nil, beq_self_eq_true, Bool.true_and, Bool.and_true, Bool.and_eq_true, decide_eq_true_eq]; omega)); (· simp only [vcA, Nat.reduceLT, Int.reduceEq, Int.reduceAdd, Int.reduceSub, Nat.reduceBEq, Nat.reduceEqDiff, reduceCtorEq, Nat.reduceAdd, Nat.reduceSub, Nat.reduceMul, Nat.reduceLeDiff, Int.reduceToNat, Int.reduceLT, Int.reduceLE, Int.reduceNeg, reduceIte, I, S, tv, nv, tyT, RawV.tv, R1.row, rowsGet, rowsLen, row4, Vk, Vn, Vs, Vl, byP, byApp, byLen, bySeq, strMk]; with_reducible rfl)
    simp only [vcA, Nat.reduceLT, Int.reduceEq, Int.reduceAdd, Int.reduceSub, Nat.reduceBEq, Nat.reduceEqDiff, reduceCtorEq, Nat.reduceAdd, Nat.reduceSub, Nat.reduceMul, Nat.reduceLeDiff, Int.reduceToNat, Int.reduceLT, Int.reduceLE, Int.reduceNeg, reduceIte, I, S, tv, nv, tyT, RawV.tv, R1.row, rowsGet, rowsLen, row4, Vk, Vn, Vs, Vl, byP, byApp, byLen, bySeq, strMk]
    exact ⟨⟨by omega, by omega⟩, by simp only [List.append_assoc, Nat.add_assoc, List.nil_append]⟩
  rw [show enc1 x = num x.k by unfold enc1; rw [if_neg (by omega), if_neg e2, List.append_nil]]
  simp only [vcA, Nat.reduceLT, Int.reduceEq, Int.reduceAdd, Int.reduceSub, Nat.reduceBEq, Nat.reduceEqDiff, reduceCtorEq, Nat.reduceAdd, Nat.reduceSub, Nat.reduceMul, Nat.reduceLeDiff, Int.reduceToNat, Int.reduceLT, Int.reduceLE, Int.reduceNeg, reduceIte, I, S, tv, nv, tyT, RawV.tv, R1.row, rowsGet, rowsLen, row4, Vk, Vn, Vs, Vl, byP, byApp, byLen, bySeq, strMk, e1, e2, e3, e4, h5, List.nil_append, Nat.zero_add]
  exact ⟨by omega, by omega⟩
/-- A value that is no list, onto nothing. -/
theorem lay_nil1 (a0 a1 : Addr) (m : Nat) (x : V) (hk : I64 x.k) (hn : I64 x.n) (hs : x.s.length ≤ 60) (h5 : x.k ≠ 5) :
    SCalls Tryd.prog (gl a0 a1 m) 59 [nilT, tv x] [] (.own 1000 1 (byR (enc1 x))) [.row 5 1 (enc1 x).length] := by
  have HK := num_ok a0 a1 m x.k hk
  have HN := num_ok a0 a1 m x.n hn
  have lk' := num_length x.k
  have ln := num_length x.n
  have hm : maxLen = 9223372036854775807 := rfl
  refine call_of hmix tf_val_lay rfl rfl (by simp [moOk, nble]) ?_
  simp only [vcA, Nat.reduceLT, Int.reduceEq, Int.reduceAdd, Int.reduceSub, Nat.reduceBEq, Nat.reduceEqDiff, reduceCtorEq, Nat.reduceAdd, Nat.reduceSub, Nat.reduceMul, Nat.reduceLeDiff, Int.reduceToNat, Int.reduceLT, Int.reduceLE, Int.reduceNeg, reduceIte, I, S, tv, nv, tyT, RawV.tv, R1.row, rowsGet, rowsLen, row4, Vk, Vn, Vs, Vl, nilT]
  refine .inr ?_
  (with_reducible apply v_call); (· simp only [vcA, Nat.reduceLT, Int.reduceEq, Int.reduceAdd, Int.reduceSub, Nat.reduceBEq, Nat.reduceEqDiff, reduceCtorEq, Nat.reduceAdd, Nat.reduceSub, Nat.reduceMul, Nat.reduceLeDiff, Int.reduceToNat, Int.reduceLT, Int.reduceLE, Int.reduceNeg, reduceIte, I, S, tv, nv, tyT, RawV.tv, R1.row, rowsGet, rowsLen, row4, Vk, Vn, Vs, Vl, byP, byApp, byLen, bySeq, strMk]; with_reducible rfl); (· exact HK); (· first | rfl | (simp only [moOk, nbeq, nble, List.length_nil, beq_self_eq_true, Bool.true_and, Bool.and_true, Bool.and_eq_true, decide_eq_true_eq]; omega)); (· simp only [vcA, Nat.reduceLT, Int.reduceEq, Int.reduceAdd, Int.reduceSub, Nat.reduceBEq, Nat.reduceEqDiff, reduceCtorEq, Nat.reduceAdd, Nat.reduceSub, Nat.reduceMul, Nat.reduceLeDiff, Int.reduceToNat, Int.reduceLT, Int.reduceLE, Int.reduceNeg, reduceIte, I, S, tv, nv, tyT, RawV.tv, R1.row, rowsGet, rowsLen, row4, Vk, Vn, Vs, Vl, byP, byApp, byLen, bySeq, strMk]; with_reducible rfl)
  by_cases e1 : x.k = 1
  · have nk := num_length 1
    rw [show enc1 x = num x.k ++ num x.n by unfold enc1; rw [if_pos (by omega)]]
    simp only [vcA, Nat.reduceLT, Int.reduceEq, Int.reduceAdd, Int.reduceSub, Nat.reduceBEq, Nat.reduceEqDiff, reduceCtorEq, Nat.reduceAdd, Nat.reduceSub, Nat.reduceMul, Nat.reduceLeDiff, Int.reduceToNat, Int.reduceLT, Int.reduceLE, Int.reduceNeg, reduceIte, I, S, tv, nv, tyT, RawV.tv, R1.row, rowsGet, rowsLen, row4, Vk, Vn, Vs, Vl, byP, byApp, byLen, bySeq, strMk, e1, List.nil_append, Nat.zero_add]
    refine ⟨⟨by omega, by omega⟩, .inl ?_⟩
    (with_reducible apply v_call); (· simp only [vcA, Nat.reduceLT, Int.reduceEq, Int.reduceAdd, Int.reduceSub, Nat.reduceBEq, Nat.reduceEqDiff, reduceCtorEq, Nat.reduceAdd, Nat.reduceSub, Nat.reduceMul, Nat.reduceLeDiff, Int.reduceToNat, Int.reduceLT, Int.reduceLE, Int.reduceNeg, reduceIte, I, S, tv, nv, tyT, RawV.tv, R1.row, rowsGet, rowsLen, row4, Vk, Vn, Vs, Vl, byP, byApp, byLen, bySeq, strMk]; with_reducible rfl); (· exact HN); (· first | rfl | (simp only [moOk, nbeq, nble, List.length_nil, beq_self_eq_true, Bool.true_and, Bool.and_true, Bool.and_eq_true, decide_eq_true_eq]; omega)); (· simp only [vcA, Nat.reduceLT, Int.reduceEq, Int.reduceAdd, Int.reduceSub, Nat.reduceBEq, Nat.reduceEqDiff, reduceCtorEq, Nat.reduceAdd, Nat.reduceSub, Nat.reduceMul, Nat.reduceLeDiff, Int.reduceToNat, Int.reduceLT, Int.reduceLE, Int.reduceNeg, reduceIte, I, S, tv, nv, tyT, RawV.tv, R1.row, rowsGet, rowsLen, row4, Vk, Vn, Vs, Vl, byP, byApp, byLen, bySeq, strMk]; with_reducible rfl)
    simp only [vcA, Nat.reduceLT, Int.reduceEq, Int.reduceAdd, Int.reduceSub, Nat.reduceBEq, Nat.reduceEqDiff, reduceCtorEq, Nat.reduceAdd, Nat.reduceSub, Nat.reduceMul, Nat.reduceLeDiff, Int.reduceToNat, Int.reduceLT, Int.reduceLE, Int.reduceNeg, reduceIte, I, S, tv, nv, tyT, RawV.tv, R1.row, rowsGet, rowsLen, row4, Vk, Vn, Vs, Vl, byP, byApp, byLen, bySeq, strMk]
    exact ⟨by omega, by omega⟩
  by_cases e3 : x.k = 3
  · have nk := num_length 3
    rw [show enc1 x = num x.k ++ num x.n by unfold enc1; rw [if_pos (by omega)]]
    simp only [vcA, Nat.reduceLT, Int.reduceEq, Int.reduceAdd, Int.reduceSub, Nat.reduceBEq, Nat.reduceEqDiff, reduceCtorEq, Nat.reduceAdd, Nat.reduceSub, Nat.reduceMul, Nat.reduceLeDiff, Int.reduceToNat, Int.reduceLT, Int.reduceLE, Int.reduceNeg, reduceIte, I, S, tv, nv, tyT, RawV.tv, R1.row, rowsGet, rowsLen, row4, Vk, Vn, Vs, Vl, byP, byApp, byLen, bySeq, strMk, e3, List.nil_append, Nat.zero_add]
    refine ⟨⟨by omega, by omega⟩, .inl ?_⟩
    (with_reducible apply v_call); (· simp only [vcA, Nat.reduceLT, Int.reduceEq, Int.reduceAdd, Int.reduceSub, Nat.reduceBEq, Nat.reduceEqDiff, reduceCtorEq, Nat.reduceAdd, Nat.reduceSub, Nat.reduceMul, Nat.reduceLeDiff, Int.reduceToNat, Int.reduceLT, Int.reduceLE, Int.reduceNeg, reduceIte, I, S, tv, nv, tyT, RawV.tv, R1.row, rowsGet, rowsLen, row4, Vk, Vn, Vs, Vl, byP, byApp, byLen, bySeq, strMk]; with_reducible rfl); (· exact HN); (· first | rfl | (simp only [moOk, nbeq, nble, List.length_nil, beq_self_eq_true, Bool.true_and, Bool.and_true, Bool.and_eq_true, decide_eq_true_eq]; omega)); (· simp only [vcA, Nat.reduceLT, Int.reduceEq, Int.reduceAdd, Int.reduceSub, Nat.reduceBEq, Nat.reduceEqDiff, reduceCtorEq, Nat.reduceAdd, Nat.reduceSub, Nat.reduceMul, Nat.reduceLeDiff, Int.reduceToNat, Int.reduceLT, Int.reduceLE, Int.reduceNeg, reduceIte, I, S, tv, nv, tyT, RawV.tv, R1.row, rowsGet, rowsLen, row4, Vk, Vn, Vs, Vl, byP, byApp, byLen, bySeq, strMk]; with_reducible rfl)
    simp only [vcA, Nat.reduceLT, Int.reduceEq, Int.reduceAdd, Int.reduceSub, Nat.reduceBEq, Nat.reduceEqDiff, reduceCtorEq, Nat.reduceAdd, Nat.reduceSub, Nat.reduceMul, Nat.reduceLeDiff, Int.reduceToNat, Int.reduceLT, Int.reduceLE, Int.reduceNeg, reduceIte, I, S, tv, nv, tyT, RawV.tv, R1.row, rowsGet, rowsLen, row4, Vk, Vn, Vs, Vl, byP, byApp, byLen, bySeq, strMk]
    exact ⟨by omega, by omega⟩
  by_cases e4 : x.k = 4
  · have nk := num_length 4
    rw [show enc1 x = num x.k ++ num x.n by unfold enc1; rw [if_pos (by omega)]]
    simp only [vcA, Nat.reduceLT, Int.reduceEq, Int.reduceAdd, Int.reduceSub, Nat.reduceBEq, Nat.reduceEqDiff, reduceCtorEq, Nat.reduceAdd, Nat.reduceSub, Nat.reduceMul, Nat.reduceLeDiff, Int.reduceToNat, Int.reduceLT, Int.reduceLE, Int.reduceNeg, reduceIte, I, S, tv, nv, tyT, RawV.tv, R1.row, rowsGet, rowsLen, row4, Vk, Vn, Vs, Vl, byP, byApp, byLen, bySeq, strMk, e4, List.nil_append, Nat.zero_add]
    refine ⟨⟨by omega, by omega⟩, .inl ?_⟩
    (with_reducible apply v_call); (· simp only [vcA, Nat.reduceLT, Int.reduceEq, Int.reduceAdd, Int.reduceSub, Nat.reduceBEq, Nat.reduceEqDiff, reduceCtorEq, Nat.reduceAdd, Nat.reduceSub, Nat.reduceMul, Nat.reduceLeDiff, Int.reduceToNat, Int.reduceLT, Int.reduceLE, Int.reduceNeg, reduceIte, I, S, tv, nv, tyT, RawV.tv, R1.row, rowsGet, rowsLen, row4, Vk, Vn, Vs, Vl, byP, byApp, byLen, bySeq, strMk]; with_reducible rfl); (· exact HN); (· first | rfl | (simp only [moOk, nbeq, nble, List.length_nil, beq_self_eq_true, Bool.true_and, Bool.and_true, Bool.and_eq_true, decide_eq_true_eq]; omega)); (· simp only [vcA, Nat.reduceLT, Int.reduceEq, Int.reduceAdd, Int.reduceSub, Nat.reduceBEq, Nat.reduceEqDiff, reduceCtorEq, Nat.reduceAdd, Nat.reduceSub, Nat.reduceMul, Nat.reduceLeDiff, Int.reduceToNat, Int.reduceLT, Int.reduceLE, Int.reduceNeg, reduceIte, I, S, tv, nv, tyT, RawV.tv, R1.row, rowsGet, rowsLen, row4, Vk, Vn, Vs, Vl, byP, byApp, byLen, bySeq, strMk]; with_reducible rfl)
    simp only [vcA, Nat.reduceLT, Int.reduceEq, Int.reduceAdd, Int.reduceSub, Nat.reduceBEq, Nat.reduceEqDiff, reduceCtorEq, Nat.reduceAdd, Nat.reduceSub, Nat.reduceMul, Nat.reduceLeDiff, Int.reduceToNat, Int.reduceLT, Int.reduceLE, Int.reduceNeg, reduceIte, I, S, tv, nv, tyT, RawV.tv, R1.row, rowsGet, rowsLen, row4, Vk, Vn, Vs, Vl, byP, byApp, byLen, bySeq, strMk]
    exact ⟨by omega, by omega⟩
  by_cases e2 : x.k = 2
  · have nk := num_length 2
    have tk := text_len hs
    rw [show enc1 x = num x.k ++ text x.s by unfold enc1; rw [if_neg (by omega), if_pos e2]]
    simp only [vcA, Nat.reduceLT, Int.reduceEq, Int.reduceAdd, Int.reduceSub, Nat.reduceBEq, Nat.reduceEqDiff, reduceCtorEq, Nat.reduceAdd, Nat.reduceSub, Nat.reduceMul, Nat.reduceLeDiff, Int.reduceToNat, Int.reduceLT, Int.reduceLE, Int.reduceNeg, reduceIte, I, S, tv, nv, tyT, RawV.tv, R1.row, rowsGet, rowsLen, row4, Vk, Vn, Vs, Vl, byP, byApp, byLen, bySeq, strMk, e2, List.nil_append, Nat.zero_add]
    refine ⟨⟨by omega, by omega⟩, ?_⟩
    (with_reducible apply v_call); (· simp only [vcA, Nat.reduceLT, Int.reduceEq, Int.reduceAdd, Int.reduceSub, Nat.reduceBEq, Nat.reduceEqDiff, reduceCtorEq, Nat.reduceAdd, Nat.reduceSub, Nat.reduceMul, Nat.reduceLeDiff, Int.reduceToNat, Int.reduceLT, Int.reduceLE, Int.reduceNeg, reduceIte, I, S, tv, nv, tyT, RawV.tv, R1.row, rowsGet, rowsLen, row4, Vk, Vn, Vs, Vl, byP, byApp, byLen, bySeq, strMk]; with_reducible rfl); (· exact text_ok a0 a1 m x.s (by omega)); (· first | rfl | (simp only [moOk, nbeq, nble, List.length_nil, beq_self_eq_true, Bool.true_and, Bool.and_true, Bool.and_eq_true, decide_eq_true_eq]; omega)); (· simp only [vcA, Nat.reduceLT, Int.reduceEq, Int.reduceAdd, Int.reduceSub, Nat.reduceBEq, Nat.reduceEqDiff, reduceCtorEq, Nat.reduceAdd, Nat.reduceSub, Nat.reduceMul, Nat.reduceLeDiff, Int.reduceToNat, Int.reduceLT, Int.reduceLE, Int.reduceNeg, reduceIte, I, S, tv, nv, tyT, RawV.tv, R1.row, rowsGet, rowsLen, row4, Vk, Vn, Vs, Vl, byP, byApp, byLen, bySeq, strMk]; with_reducible rfl)
    simp only [vcA, Nat.reduceLT, Int.reduceEq, Int.reduceAdd, Int.reduceSub, Nat.reduceBEq, Nat.reduceEqDiff, reduceCtorEq, Nat.reduceAdd, Nat.reduceSub, Nat.reduceMul, Nat.reduceLeDiff, Int.reduceToNat, Int.reduceLT, Int.reduceLE, Int.reduceNeg, reduceIte, I, S, tv, nv, tyT, RawV.tv, R1.row, rowsGet, rowsLen, row4, Vk, Vn, Vs, Vl, byP, byApp, byLen, bySeq, strMk]
    exact ⟨by omega, by omega⟩
  rw [show enc1 x = num x.k by unfold enc1; rw [if_neg (by omega), if_neg e2, List.append_nil]]
  simp only [vcA, Nat.reduceLT, Int.reduceEq, Int.reduceAdd, Int.reduceSub, Nat.reduceBEq, Nat.reduceEqDiff, reduceCtorEq, Nat.reduceAdd, Nat.reduceSub, Nat.reduceMul, Nat.reduceLeDiff, Int.reduceToNat, Int.reduceLT, Int.reduceLE, Int.reduceNeg, reduceIte, I, S, tv, nv, tyT, RawV.tv, R1.row, rowsGet, rowsLen, row4, Vk, Vn, Vs, Vl, byP, byApp, byLen, bySeq, strMk, e1, e2, e3, e4, h5, List.nil_append, Nat.zero_add]
  exact ⟨by omega, by omega⟩
theorem enc1_len {x : V} (hs : x.s.length ≤ 60) : (enc1 x).length ≤ 80 := by
  have h1 := num_length x.k
  have h2 := num_length x.n
  have h3 := text_len hs
  unfold enc1
  rw [List.length_append]
  split
  · omega
  split
  · omega
  · simp; omega
/-- What may be laid as bytes. -/
def V1Ok (x : V) : Prop := I64 x.k ∧ I64 x.n ∧ x.s.length ≤ 60
def encTo (l : List V) (i : Nat) : List UInt8 := num 5 ++ num l.length ++ (l.take i).flatMap enc1
theorem encTo_succ {l : List V} {i : Nat} {y : V} (h : l[i]? = some y) : encTo l (i + 1) = encTo l i ++ enc1 y := by
  unfold encTo; rw [List.take_add_one, h]; simp
theorem encTo_len {l : List V} (h : ∀ y ∈ l, y.s.length ≤ 60) : ∀ i, (encTo l i).length ≤ 20 + i * 80
  | 0 => by have h1 := num_length 5; have h2 := num_length l.length; simp [encTo]; omega
  | i + 1 => by
    have ih := encTo_len h i
    cases hy : l[i]? with
    | none =>
      have : encTo l (i + 1) = encTo l i := by unfold encTo; rw [List.take_add_one, hy]; simp
      rw [this]; omega
    | some y =>
      have := enc1_len (h y (List.mem_of_getElem? hy))
      rw [encTo_succ hy, List.length_append]; omega
theorem lay_nilL (a0 a1 : Addr) (m : Nat) (x : V) (h5 : x.k = 5) (hl : x.l.length ≤ 12) (hx : ∀ y ∈ x.l, V1Ok y ∧ y.k ≠ 5) :
    SCalls Tryd.prog (gl a0 a1 m) 59 [nilT, tv x] [] (.own 1000 1 (byR (encTo x.l x.l.length))) [.row 5 1 (encTo x.l x.l.length).length] := by
  have HK := num_ok a0 a1 m 5 (by unfold I64; decide)
  have HN := num_ok a0 a1 m x.l.length (by unfold I64; omega)
  have lk' := num_length 5
  have ln := num_length x.l.length
  have hm : maxLen = 9223372036854775807 := rfl
  have hL := encTo_len (l := x.l) (fun y hy => (hx y hy).1.2.2)
  refine call_of hmix tf_val_lay rfl rfl (by simp [moOk, nble]) ?_
  simp only [vcA, Nat.reduceLT, Int.reduceEq, Int.reduceAdd, Int.reduceSub, Nat.reduceBEq, Nat.reduceEqDiff, reduceCtorEq, Nat.reduceAdd, Nat.reduceSub, Nat.reduceMul, Nat.reduceLeDiff, Int.reduceToNat, Int.reduceLT, Int.reduceLE, Int.reduceNeg, reduceIte, I, S, tv, nv, tyT, RawV.tv, R1.row, rowsGet, rowsLen, row4, Vk, Vn, Vs, Vl, nilT, h5]
  refine .inr ?_
  (with_reducible apply v_call); (· simp only [vcA, Nat.reduceLT, Int.reduceEq, Int.reduceAdd, Int.reduceSub, Nat.reduceBEq, Nat.reduceEqDiff, reduceCtorEq, Nat.reduceAdd, Nat.reduceSub, Nat.reduceMul, Nat.reduceLeDiff, Int.reduceToNat, Int.reduceLT, Int.reduceLE, Int.reduceNeg, reduceIte, I, S, tv, nv, tyT, RawV.tv, R1.row, rowsGet, rowsLen, row4, Vk, Vn, Vs, Vl, byP, byApp, byLen, bySeq, strMk]; with_reducible rfl); (· exact HK); (· first | rfl | (simp only [moOk, nbeq, nble, List.length_nil, beq_self_eq_true, Bool.true_and, Bool.and_true, Bool.and_eq_true, decide_eq_true_eq]; omega)); (· simp only [vcA, Nat.reduceLT, Int.reduceEq, Int.reduceAdd, Int.reduceSub, Nat.reduceBEq, Nat.reduceEqDiff, reduceCtorEq, Nat.reduceAdd, Nat.reduceSub, Nat.reduceMul, Nat.reduceLeDiff, Int.reduceToNat, Int.reduceLT, Int.reduceLE, Int.reduceNeg, reduceIte, I, S, tv, nv, tyT, RawV.tv, R1.row, rowsGet, rowsLen, row4, Vk, Vn, Vs, Vl, byP, byApp, byLen, bySeq, strMk]; with_reducible rfl)
  simp only [vcA, Nat.reduceLT, Int.reduceEq, Int.reduceAdd, Int.reduceSub, Nat.reduceBEq, Nat.reduceEqDiff, reduceCtorEq, Nat.reduceAdd, Nat.reduceSub, Nat.reduceMul, Nat.reduceLeDiff, Int.reduceToNat, Int.reduceLT, Int.reduceLE, Int.reduceNeg, reduceIte, I, S, tv, nv, tyT, RawV.tv, R1.row, rowsGet, rowsLen, row4, Vk, Vn, Vs, Vl, byP, byApp, byLen, bySeq, strMk]
  refine ⟨⟨by omega, by omega⟩, .inl ?_⟩
  (with_reducible apply v_call); (· simp only [vcA, Nat.reduceLT, Int.reduceEq, Int.reduceAdd, Int.reduceSub, Nat.reduceBEq, Nat.reduceEqDiff, reduceCtorEq, Nat.reduceAdd, Nat.reduceSub, Nat.reduceMul, Nat.reduceLeDiff, Int.reduceToNat, Int.reduceLT, Int.reduceLE, Int.reduceNeg, reduceIte, I, S, tv, nv, tyT, RawV.tv, R1.row, rowsGet, rowsLen, row4, Vk, Vn, Vs, Vl, byP, byApp, byLen, bySeq, strMk]; with_reducible rfl); (· exact HN); (· first | rfl | (simp only [moOk, nbeq, nble, List.length_nil, beq_self_eq_true, Bool.true_and, Bool.and_true, Bool.and_eq_true, decide_eq_true_eq]; omega)); (· simp only [vcA, Nat.reduceLT, Int.reduceEq, Int.reduceAdd, Int.reduceSub, Nat.reduceBEq, Nat.reduceEqDiff, reduceCtorEq, Nat.reduceAdd, Nat.reduceSub, Nat.reduceMul, Nat.reduceLeDiff, Int.reduceToNat, Int.reduceLT, Int.reduceLE, Int.reduceNeg, reduceIte, I, S, tv, nv, tyT, RawV.tv, R1.row, rowsGet, rowsLen, row4, Vk, Vn, Vs, Vl, byP, byApp, byLen, bySeq, strMk]; with_reducible rfl)
  simp only [vcA, Nat.reduceLT, Int.reduceEq, Int.reduceAdd, Int.reduceSub, Nat.reduceBEq, Nat.reduceEqDiff, reduceCtorEq, Nat.reduceAdd, Nat.reduceSub, Nat.reduceMul, Nat.reduceLeDiff, Int.reduceToNat, Int.reduceLT, Int.reduceLE, Int.reduceNeg, reduceIte, I, S, tv, nv, tyT, RawV.tv, R1.row, rowsGet, rowsLen, row4, Vk, Vn, Vs, Vl, byP, byApp, byLen, bySeq, strMk]
  refine ⟨⟨by omega, by omega⟩, ?_⟩
  have e0 : encTo x.l 0 = num 5 ++ num x.l.length := by simp [encTo]
  refine v_loop (σ := { i : Nat // i ≤ x.l.length })
    (fun i => ⟨[(0, .own 13 1 (byR (encTo x.l i.1))), (45, .pv (.sl 4 (V.rows x.l))), (46, I (x.l.length : Int)), (47, I (i.1 : Int))], [], [(13, (5, 1, (encTo x.l i.1).length))], []⟩)
    (fun i => x.l.length - i.1) ⟨0, Nat.zero_le _⟩ ?_ ?_
  · simp only [e0, List.length_append]
    apply lw_of <;> simp [leL, lk, sv, Nat.beq, I, S, ES.kill, has, drp, nilT]
  rintro ⟨i, hi⟩
  have hLi := hL i
  simp only [vcA, Nat.reduceLT, Int.reduceEq, Int.reduceAdd, Int.reduceSub, Nat.reduceBEq, Nat.reduceEqDiff, reduceCtorEq, Nat.reduceAdd, Nat.reduceSub, Nat.reduceMul, Nat.reduceLeDiff, Int.reduceToNat, Int.reduceLT, Int.reduceLE, Int.reduceNeg, reduceIte, I, S, tv, nv, tyT, RawV.tv, R1.row, rowsGet, rowsLen, row4, Vk, Vn, Vs, Vl, byP, byApp, byLen, bySeq, strMk]
  refine ⟨fun hlt => ⟨by omega, fun y hy => ?_⟩, fun hge => ?_⟩
  · obtain ⟨⟨o1, o2, o3⟩, o4⟩ := hx y (List.mem_of_getElem? hy)
    have hH := lay_one a0 a1 m y (encTo x.l i) o1 o2 o3 o4 (by omega)
    have hle : (encTo x.l i).length ≤ (encTo x.l (i + 1)).length := by rw [encTo_succ hy]; simp
    have hle0 : Nat.ble 0 4 = true := rfl
    rw [← encTo_succ hy] at hH
    (with_reducible apply v_call); (· simp only [vcA, Nat.reduceLT, Int.reduceEq, Int.reduceAdd, Int.reduceSub, Nat.reduceBEq, Nat.reduceEqDiff, reduceCtorEq, Nat.reduceAdd, Nat.reduceSub, Nat.reduceMul, Nat.reduceLeDiff, Int.reduceToNat, Int.reduceLT, Int.reduceLE, Int.reduceNeg, reduceIte, I, S, tv, nv, tyT, RawV.tv, R1.row, rowsGet, rowsLen, row4, Vk, Vn, Vs, Vl, byP, byApp, byLen, bySeq, strMk]; with_reducible rfl); (· exact hH); (· first | rfl | (simp only [moOk, nbeq, nble, List.length_nil, beq_self_eq_true, Bool.true_and, Bool.and_true, Bool.and_eq_true, decide_eq_true_eq]; omega)); (· simp only [vcA, Nat.reduceLT, Int.reduceEq, Int.reduceAdd, Int.reduceSub, Nat.reduceBEq, Nat.reduceEqDiff, reduceCtorEq, Nat.reduceAdd, Nat.reduceSub, Nat.reduceMul, Nat.reduceLeDiff, Int.reduceToNat, Int.reduceLT, Int.reduceLE, Int.reduceNeg, reduceIte, I, S, tv, nv, tyT, RawV.tv, R1.row, rowsGet, rowsLen, row4, Vk, Vn, Vs, Vl, byP, byApp, byLen, bySeq, strMk]; with_reducible rfl)
    simp only [vcA, Nat.reduceLT, Int.reduceEq, Int.reduceAdd, Int.reduceSub, Nat.reduceBEq, Nat.reduceEqDiff, reduceCtorEq, Nat.reduceAdd, Nat.reduceSub, Nat.reduceMul, Nat.reduceLeDiff, Int.reduceToNat, Int.reduceLT, Int.reduceLE, Int.reduceNeg, reduceIte, I, S, tv, nv, tyT, RawV.tv, R1.row, rowsGet, rowsLen, row4, Vk, Vn, Vs, Vl, byP, byApp, byLen, bySeq, strMk]
    refine loopK_of ⟨i + 1, by omega⟩ (by show x.l.length - (i + 1) < x.l.length - i; omega) ?_
    have w1 : IntKind.i64.wrap ((i : Int) + 1) = (i : Int) + 1 := wrap64 (by omega) (by omega)
    apply lw_of <;> simp [leL, lk, sv, Nat.beq, I, S, ES.kill, has, drp, nilT, w1]
  · obtain rfl : i = x.l.length := by omega
    trivial
end Go.Proofs.YtdlolkogifigpaaDoor
end

section
/- Texts by the document's signs are texts by the decoder; what ValText, ValOne, fit make is right. Plain Lean. No statement of the program is proved here. -/
namespace Go.Proofs.YtdlolkogifigpaaDoor
open Go Go.RowKit Go.Mor
theorem byte_lt (l : List UInt8) (i : Nat) : (l.getD i 0).toNat < 256 := (l.getD i 0).toNat_lt
theorem signL_decode (b : UInt8) (t : List UInt8) : signL (b :: t) = if (Lib.decodeL (b :: t)).1 = 65533 ∧ (Lib.decodeL (b :: t)).2 = 1 then 0 else (Lib.decodeL (b :: t)).2 := by
  rw [Lib.decodeL_N, signL, if_neg (by simp)]
  exact signN_decode _ _ _ _ _ (byte_lt _ _) (byte_lt _ _) (byte_lt _ _) (byte_lt _ _)
theorem rune_lo (n b0 b1 b2 b3 : Nat) : (b0 < 128 → (Lib.decodeN n b0 b1 b2 b3).1 = b0) ∧ (128 ≤ b0 → 128 ≤ (Lib.decodeN n b0 b1 b2 b3).1) := by
  unfold Lib.decodeN
  refine ⟨fun h => by rw [if_pos h], fun h => ?_⟩
  rw [if_neg (by omega)]
  (repeat' split) <;> simp only <;> omega
theorem plainR_lead (b : UInt8) (t : List UInt8) : plainR (Lib.decodeL (b :: t)).1 = (!decide (b.toNat < 32) && !(b.toNat == 127)) := by
  rw [Lib.decodeL_N]
  have h := rune_lo (b :: t).length ((b :: t).getD 0 0).toNat ((b :: t).getD 1 0).toNat ((b :: t).getD 2 0).toNat ((b :: t).getD 3 0).toNat
  have e : (b :: t).getD 0 0 = b := rfl
  rw [e] at h ⊢
  generalize (Lib.decodeN _ _ _ _ _).1 = r at h ⊢
  unfold plainR
  rw [Bool.eq_iff_iff]
  rcases Nat.lt_or_ge b.toNat 128 with hb | hb
  · rw [h.1 hb]; simp
  · have := h.2 hb
    simp; omega
theorem isText_eq : ∀ (n : Nat) (l : List UInt8), l.length ≤ n → isText l = (Lib.validD l && plainD l) := by
  intro n
  induction n with
  | zero => intro l hl; obtain rfl := List.eq_nil_of_length_eq_zero (by omega : l.length = 0); rfl
  | succ n ih =>
    intro l hl
    cases l with
    | nil => rfl
    | cons b t =>
      rw [isText_cons, Lib.validD_step _ (by simp), plainD_step _ (by simp), plainR_lead, signL_decode]
      have hw := Lib.decodeL_width (b :: t)
      split
      · simp
      · rw [ih _ (by simp at hl ⊢; omega)]
        have h0 : ((Lib.decodeL (b :: t)).2 == 0) = false := by simp; omega
        rw [h0]
        generalize Lib.validD _ = p
        generalize plainD _ = q
        cases p <;> cases q <;> simp
theorem signL_app (a c : List UInt8) (h : signL a ≠ 0) : signL (a ++ c) = signL a := by
  have hne : a ≠ [] := by rintro rfl; exact h rfl
  have hl := (signL_le a).1
  unfold signL at *
  rw [if_neg hne] at h hl ⊢
  rw [if_neg (by simp [hne])]
  have g : ∀ i, i < a.length → (a ++ c).getD i 0 = a.getD i 0 := fun i hi => by
    simp only [List.getD_eq_getElem?_getD]; rw [List.getElem?_append_left hi]
  have h0 : 0 < a.length := List.length_pos_iff.2 hne
  rw [g 0 h0]
  simp only [List.length_append]
  generalize hB0 : (a.getD 0 0).toNat = B0 at h hl ⊢
  have g1 : 1 < a.length → ((a ++ c).getD 1 0).toNat = (a.getD 1 0).toNat := fun h => by rw [g 1 h]
  have g2 : 2 < a.length → ((a ++ c).getD 2 0).toNat = (a.getD 2 0).toNat := fun h => by rw [g 2 h]
  have g3 : 3 < a.length → ((a ++ c).getD 3 0).toNat = (a.getD 3 0).toNat := fun h => by rw [g 3 h]
  generalize ((a ++ c).getD 1 0).toNat = C1 at g1 ⊢
  generalize ((a ++ c).getD 2 0).toNat = C2 at g2 ⊢
  generalize ((a ++ c).getD 3 0).toNat = C3 at g3 ⊢
  generalize (a.getD 1 0).toNat = D1 at g1 h hl ⊢
  generalize (a.getD 2 0).toNat = D2 at g2 h hl ⊢
  generalize (a.getD 3 0).toNat = D3 at g3 h hl ⊢
  unfold signN at *
  by_cases c1 : B0 < 128
  · rw [if_pos c1, if_pos c1]
  rw [if_neg c1] at h hl ⊢
  rw [if_neg c1]
  by_cases c2 : 194 ≤ B0 ∧ B0 ≤ 223
  · rw [if_pos c2] at h hl ⊢
    rw [if_pos c2]
    split at h
    · contradiction
    · rw [if_neg (by omega), if_neg (by assumption)]
  rw [if_neg c2] at h hl ⊢
  rw [if_neg c2]
  by_cases c3 : 224 ≤ B0 ∧ B0 ≤ 239
  · rw [if_pos c3] at h hl ⊢
    rw [if_pos c3]
    generalize (if B0 = 224 then 160 else 128) = lo at *
    generalize (if B0 = 237 then 159 else 191) = hi at *
    split at h
    · contradiction
    · rw [if_neg (by omega), if_neg (by assumption)]
  rw [if_neg c3] at h hl ⊢
  rw [if_neg c3]
  by_cases c4 : 240 ≤ B0 ∧ B0 ≤ 244
  · rw [if_pos c4] at h hl ⊢
    rw [if_pos c4]
    generalize (if B0 = 240 then 144 else 128) = lo at *
    generalize (if B0 = 244 then 143 else 191) = hi at *
    split at h
    · contradiction
    · rw [if_neg (by omega), if_neg (by assumption)]
  rw [if_neg c4] at h
  contradiction
theorem isText_app : ∀ (n : Nat) (a c : List UInt8), a.length ≤ n → isText a = true → isText c = true → isText (a ++ c) = true := by
  intro n
  induction n with
  | zero => intro a c ha _ hc; obtain rfl := List.eq_nil_of_length_eq_zero (by omega : a.length = 0); exact hc
  | succ n ih =>
    intro a c hl ha hc
    cases a with
    | nil => exact hc
    | cons b t =>
      rw [isText_cons] at ha
      simp only [Bool.and_eq_true, Bool.not_eq_true', beq_eq_false_iff_ne] at ha
      obtain ⟨⟨⟨h1, h2⟩, h3⟩, h4⟩ := ha
      have hs := signL_app (b :: t) c h1
      have hle := (signL_le (b :: t)).1
      rw [List.cons_append] at hs
      rw [List.cons_append, isText_cons, hs, ← List.cons_append, List.drop_append_of_le_length hle]
      rw [ih _ c (by simp at hl ⊢; omega) h4 hc]
      simp [h1, h2, h3]
theorem vtN_right : ∀ (n : Nat) (l out : List UInt8), isText out = true → out.length ≤ 20 → isText (vtN n l out) = true ∧ (vtN n l out).length ≤ 20 := by
  intro n
  induction n with
  | zero => intro l out h1 h2; exact ⟨h1, h2⟩
  | succ n ih =>
    intro l out h1 h2
    simp only [vtN]
    split
    · exact ⟨h1, h2⟩
    · rename_i hn
      refine ih _ _ ?_ ?_
      · split
        · rename_i ht; exact isText_app _ _ _ (Nat.le_refl _) h1 ht
        · exact h1
      · split
        · have hl : 0 < l.length := List.length_pos_iff.2 (fun h => hn (.inl h))
          have hs := stepN_le hl
          have : ¬ 17 ≤ out.length := fun h => hn (.inr h)
          simp only [List.length_append, List.length_take]; omega
        · exact h2
theorem valText_right (l : List UInt8) : (valText l).length ≤ 20 ∧ isText (valText l) = true := (vtN_right _ l [] rfl (by simp)).symm
theorem valText_rt (l : List UInt8) : rightText (valText l) = true := by
  obtain ⟨h1, h2⟩ := valText_right l
  rw [isText_eq _ _ (Nat.le_refl _)] at h2
  unfold rightText
  simp only [Bool.and_eq_true] at h2 ⊢
  exact ⟨by simp; omega, h2⟩
theorem right1_num {n : Int} (h1 : -1000000000000000 ≤ n) (h2 : n ≤ 1000000000000000) : right1 (.mk 1 n [] []) = true := by simp [right1, V.k, bare, V.n, V.s, V.l, h1, h2]
theorem right1_ref {k n : Int} (hk : k = 3 ∨ k = 4) (h : 1 ≤ n ∧ n ≤ 100000) : right1 (.mk k n [] []) = true := by
  rcases hk with rfl | rfl <;> simp [right1, V.k, bare, V.n, V.s, V.l, rightID, h.1, h.2]
theorem valOne_right (k n : Int) (s : List UInt8) (hn : I64 n) : right1 (valOne k n s) = true := by
  have h1 := pickI_lt (n := 1000000000000001) (by decide) hn
  have h2 := pickI_lt (n := 100000) (by decide) hn
  unfold valOne
  split
  · split
    · exact right1_num (by omega) (by omega)
    · exact right1_num (by omega) (by omega)
  · split
    · simp [right1, V.k, V.n, V.s, V.l, valText_rt]
    · split
      · rename_i h
        exact right1_ref h ⟨by omega, by omega⟩
      · rfl
theorem valOne_k (k n : Int) (s : List UInt8) (h : 1 ≤ k ∧ k ≤ 4) : (valOne k n s).k = k := by
  unfold valOne
  split
  · rename_i h; simp [V.k, h]
  · split
    · rename_i h; simp [V.k, h]
    · rw [if_pos (by omega)]; rfl
theorem fitV_right (k j n : Int) (s : List UInt8) (m : Int) (hn : I64 n) (hm : 1 ≤ m) (hk : k ≠ 5) : right1 (fitV k j n s m) = true := by
  have h2 := pickI_lt (n := min m 100000) (by omega) hn
  unfold fitV
  rw [if_neg hk]
  split
  · rename_i h
    split
    · rfl
    · exact right1_ref h ⟨by omega, by omega⟩
  · exact valOne_right _ _ _ hn
theorem fitV_kind (k j n : Int) (s : List UInt8) (m : Int) (hk : 1 ≤ k ∧ k ≤ 4) : (fitV k j n s m).k = k ∨ (fitV k j n s m).k = 0 ∧ (k = 3 ∨ k = 4) := by
  unfold fitV
  rw [if_neg (by omega)]
  split
  · rename_i h
    split
    · exact .inr ⟨rfl, h⟩
    · exact .inl rfl
  · exact .inl (valOne_k _ _ _ hk)
end Go.Proofs.YtdlolkogifigpaaDoor
namespace Go.Proofs.YtdlolkogifigpaaDoor
open Go Go.RowKit Go.Mor
theorem valType_right (a b : Int) (ha : I64 a) (hb : I64 b) : rightType (valType a b) = true := by
  have h1 := pickI_lt (n := 6) (by decide) ha
  have h2 := pickI_lt (n := 4) (by decide) hb
  unfold valType rightType
  split
  · rw [if_neg (by simp only; omega)]; exact decide_eq_true ⟨by show (1 : Int) ≤ 1 + pickI a 6; omega, by show 1 + pickI a 6 ≤ 4; omega, rfl⟩
  · rw [if_pos rfl]; exact decide_eq_true ⟨by show (1 : Int) ≤ 1 + pickI b 4; omega, by show 1 + pickI b 4 ≤ 4; omega⟩
theorem ty_cases {t : Ty} (h : rightType t = true) : (t.k = 5 ∧ 1 ≤ t.o ∧ t.o ≤ 4) ∨ (t.k ≠ 5 ∧ 1 ≤ t.k ∧ t.k ≤ 4 ∧ t.o = 0) := by
  unfold rightType at h
  split at h
  · simp at h; exact .inl ⟨by assumption, h⟩
  · simp at h; exact .inr ⟨by assumption, h⟩
theorem ofKind_fit (k j n : Int) (s : List UInt8) (m : Int) (hk : 1 ≤ k ∧ k ≤ 4) : ofKind (fitV k j n s m) k = true := by
  unfold ofKind
  rcases fitV_kind k j n s m hk with h | ⟨h, h2⟩
  · simp [h]
  · rw [h]; rcases h2 with rfl | rfl <;> simp
theorem fitV_not5 (k j n : Int) (s : List UInt8) (m : Int) (hk : 1 ≤ k ∧ k ≤ 4) : (fitV k j n s m).k ≠ 5 := by
  rcases fitV_kind k j n s m hk with h | ⟨h, h2⟩ <;> omega
theorem fits_one (k j n : Int) (s : List UInt8) (m : Int) (hk : 1 ≤ k ∧ k ≤ 4) (hn : I64 n) (hm : 1 ≤ m) : fitsV (fitV k j n s m) ⟨k, 0⟩ = true := by
  unfold fitsV rightV
  rw [if_neg (fitV_not5 k j n s m hk), fitV_right k j n s m hn hm (by omega), ofKind_fit k j n s m hk, fitV_l]
  simp [rightType]; omega
theorem fitL_mem {o m : Int} {l : List R1} {y : V} (h : y ∈ fitL o m l) : ∃ r ∈ l, y = fitV o r.k r.n r.s m := by
  unfold fitL at h
  obtain ⟨r, hr, rfl⟩ := List.mem_map.1 h
  exact ⟨r, List.mem_of_mem_take hr, rfl⟩
theorem valFit_fits {t : Ty} (ht : rightType t = true) (x : RawV) (m : Int) (hx : x.ok) (hm : 1 ≤ m) : fitsV (valFit t x m) t = true := by
  obtain ⟨hk, hn, hs, hl, hlen⟩ := hx
  unfold valFit
  rcases ty_cases ht with ⟨h5, h1, h4⟩ | ⟨h5, h1, h4, ho⟩
  · rw [if_pos h5]
    unfold fitsV rightV
    have e1 : (fitL t.o m x.l).any noItem = false := by
      rw [List.any_eq_false]
      intro y hy
      obtain ⟨r, hr, rfl⟩ := fitL_mem hy
      have := fitV_not5 t.o r.k r.n r.s m ⟨h1, h4⟩
      unfold noItem
      rw [fitV_right _ _ _ _ _ (hl r hr).2.1 hm (by omega)]
      simp [this]
    have e2 : (fitL t.o m x.l).any (fun y => !ofKind y t.o) = false := by
      rw [List.any_eq_false]
      intro y hy
      obtain ⟨r, hr, rfl⟩ := fitL_mem hy
      rw [ofKind_fit _ _ _ _ _ ⟨h1, h4⟩]; simp
    have e3 : (fitL t.o m x.l).length ≤ 12 := by unfold fitL; simp; omega
    have e4 : ofKind (.mk 5 0 [] (fitL t.o m x.l)) t.k = true := by rw [h5]; rfl
    rw [ht, e4]
    simp only [V.k, V.n, V.s, V.l, if_true, e1, e2]
    simp [e3]
  · rw [if_neg h5]
    have := fits_one t.k x.k x.n x.s m ⟨h1, h4⟩ hn hm
    rw [show (⟨t.k, 0⟩ : Ty) = t by cases t; simp at ho ⊢; exact ho.symm] at this
    exact this
theorem valFit_items {t : Ty} (ht : rightType t = true) (x : RawV) (m : Int) (hx : x.ok) (hm : 1 ≤ m) : ∀ y ∈ (valFit t x m).l, fitsV y ⟨t.o, 0⟩ = true := by
  obtain ⟨hk, hn, hs, hl, hlen⟩ := hx
  intro y hy
  unfold valFit at hy
  rcases ty_cases ht with ⟨h5, h1, h4⟩ | ⟨h5, h1, h4, ho⟩
  · rw [if_pos h5] at hy
    obtain ⟨r, hr, rfl⟩ := fitL_mem hy
    exact fits_one _ _ _ _ _ ⟨h1, h4⟩ (hl r hr).2.1 hm
  · rw [if_neg h5, fitV_l] at hy; simp at hy
theorem zero_fits {t : Ty} (ht : rightType t = true) : fitsV (zeroV t) t = true := by
  unfold fitsV zeroV
  rcases ty_cases ht with ⟨h5, h1, h4⟩ | ⟨h5, h1, h4, ho⟩
  · simp [ht, h5, rightV, ofKind, V.k, V.n, V.s, V.l]
  · rw [ht]
    have : t.k = 1 ∨ t.k = 2 ∨ t.k = 3 ∨ t.k = 4 := by omega
    rcases this with h | h | h | h <;> simp [h, rightV, right1, bare, ofKind, V.k, V.n, V.s, V.l, V.nil, rightText] <;> first | rfl | exact ⟨rfl, rfl⟩
theorem fits_other {t u : Ty} (ht : rightType t = true) (hu : rightType u = true) (x : RawV) (m : Int) (hx : x.ok) (hm : 1 ≤ m) (hne : t.k ≠ u.k) :
    fitsV (valFit t x m) u = ((decide (t.k = 3 ∨ t.k = 4) && decide (u.k = 3 ∨ u.k = 4)) && decide ((valFit t x m).k = 0)) := by
  have hf := valFit_fits ht x m hx hm
  have hr : rightV (valFit t x m) = true := by
    unfold fitsV at hf; simp only [Bool.and_eq_true] at hf; exact hf.1.1.1
  rcases ty_cases ht with ⟨h5, h1, h4⟩ | ⟨h5, h1, h4, ho⟩
  · have hk : (valFit t x m).k = 5 := by unfold valFit; rw [if_pos h5]; rfl
    unfold fitsV ofKind
    rw [hk]
    have : ((5 : Int) == u.k) = false := by simp; omega
    simp [this]
  · have hv : valFit t x m = fitV t.k x.k x.n x.s m := by unfold valFit; rw [if_neg h5]
    have hL : (valFit t x m).l = [] := by rw [hv]; exact fitV_l _ _ _ _ _
    have hkk := fitV_kind t.k x.k x.n x.s m ⟨h1, h4⟩
    rw [← hv] at hkk
    unfold fitsV
    rw [hr, hu, hL]
    have e : ofKind (valFit t x m) u.k = true ↔ (valFit t x m).k = u.k ∨ ((valFit t x m).k = 0 ∧ (u.k = 3 ∨ u.k = 4)) := by unfold ofKind; simp
    rw [Bool.eq_iff_iff]
    simp only [Bool.true_and, List.any_nil, Bool.not_false, Bool.and_true, Bool.and_eq_true, decide_eq_true_eq]
    rw [e]
    have hu1 := ty_cases hu
    omega
/-- The law, in plain words. -/
theorem law_fits {t u : Ty} (ht : rightType t = true) (hu : rightType u = true) (x : RawV) (hx : x.ok) :
    fitsV (valFit t x 500) t = true ∧ (∀ y ∈ (valFit t x 500).l, fitsV y ⟨t.o, 0⟩ = true) ∧ fitsV (zeroV t) t = true ∧
    (t.k ≠ u.k → fitsV (valFit t x 500) u = ((decide (t.k = 3 ∨ t.k = 4) && decide (u.k = 3 ∨ u.k = 4)) && decide ((valFit t x 500).k = 0))) ∧
    (t = u → fitsV (valFit t x 500) u = true) ∧ (t.k = u.k → t.k ≠ 5 → t = u) := by
  refine ⟨valFit_fits ht x 500 hx (by decide), valFit_items ht x 500 hx (by decide), zero_fits ht, fits_other ht hu x 500 hx (by decide), ?_, ?_⟩
  · rintro rfl; exact valFit_fits ht x 500 hx (by decide)
  · intro h1 h2
    rcases ty_cases ht with ⟨h5, _, _⟩ | ⟨h5, _, _, ho⟩
    · exact absurd h5 h2
    rcases ty_cases hu with ⟨h6, _, _⟩ | ⟨h6, _, _, ho'⟩
    · omega
    · cases t; cases u; simp at *; omega
theorem fitV_text (k j n : Int) (s : List UInt8) (m : Int) : (fitV k j n s m).s.length ≤ 60 := by
  have := (valText_right s).1
  unfold fitV valOne
  (repeat' split) <;> simp [V.s, V.nil] <;> omega
end Go.Proofs.YtdlolkogifigpaaDoor
end

section
/- Right values, and their bytes by the program. No statement of the program is proved here. -/
namespace Go.Proofs.YtdlolkogifigpaaDoor
open Go Go.RowKit Go.Mor Go.Sh Go.Sh.Cd1
set_option maxRecDepth 100000
set_option maxHeartbeats 2000000
/-- What a right value that is no list is. -/
theorem right1_inv {x : V} (h : right1 x = true) : x = .mk 0 0 [] [] ∨ (∃ n, -1000000000000000 ≤ n ∧ n ≤ 1000000000000000 ∧ x = .mk 1 n [] []) ∨ (∃ s, rightText s = true ∧ x = .mk 2 0 s []) ∨ (∃ k n, (k = 3 ∨ k = 4) ∧ rightID n = true ∧ x = .mk k n [] []) := by
  unfold right1 bare at h
  have e := V.eta x
  by_cases h0 : x.k = 0
  · rw [if_pos h0] at h
    simp at h
    obtain ⟨⟨h1, h2⟩, h3⟩ := h
    exact .inl (by rw [← e, h0, h1, h2, h3])
  rw [if_neg h0] at h
  by_cases h0 : x.k = 1
  · rw [if_pos h0] at h
    simp at h
    obtain ⟨⟨⟨h1, h2⟩, h3⟩, h4⟩ := h
    exact .inr (.inl ⟨x.n, h3, h4, by rw [← e, h0, h1, h2]; rfl⟩)
  rw [if_neg h0] at h
  by_cases h0 : x.k = 2
  · rw [if_pos h0] at h
    simp at h
    obtain ⟨⟨h1, h2⟩, h3⟩ := h
    exact .inr (.inr (.inl ⟨x.s, h3, by rw [← e, h0, h1, h2]; rfl⟩))
  rw [if_neg h0] at h
  by_cases h0 : x.k = 3 ∨ x.k = 4
  · rw [if_pos h0] at h
    simp at h
    obtain ⟨⟨h1, h2⟩, h3⟩ := h
    exact .inr (.inr (.inr ⟨x.k, x.n, h0, h3, by rw [← e, h1, h2]; rfl⟩))
  · rw [if_neg h0] at h; cases h
theorem rightText_len {s : List UInt8} (h : rightText s = true) : s.length ≤ 60 := by unfold rightText at h; simp at h; exact h.1
theorem rightID_inv {n : Int} (h : rightID n = true) : (1 ≤ n ∧ n ≤ 100000) ∨ (-20 ≤ n ∧ n ≤ -1) := by unfold rightID at h; simpa using h
theorem right1_ok {x : V} (h : right1 x = true) : V1Ok x ∧ x.k ≠ 5 ∧ x.l = [] := by
  unfold V1Ok I64
  rcases right1_inv h with rfl | ⟨n, h1, h2, rfl⟩ | ⟨s, h1, rfl⟩ | ⟨k, n, h1, h2, rfl⟩
  · refine ⟨⟨⟨?_, ?_⟩, ⟨?_, ?_⟩, ?_⟩, ?_, rfl⟩ <;> simp [V.k, V.n, V.s]
  · refine ⟨⟨⟨?_, ?_⟩, ⟨?_, ?_⟩, ?_⟩, ?_, rfl⟩ <;> simp [V.k, V.n, V.s] <;> omega
  · have := rightText_len h1
    refine ⟨⟨⟨?_, ?_⟩, ⟨?_, ?_⟩, ?_⟩, ?_, rfl⟩ <;> simp [V.k, V.n, V.s] <;> omega
  · have := rightID_inv h2
    refine ⟨⟨⟨?_, ?_⟩, ⟨?_, ?_⟩, ?_⟩, ?_, rfl⟩ <;> simp [V.k, V.n, V.s] <;> omega
theorem rightL_inv {x : V} (h : rightV x = true) (h5 : x.k = 5) : x.n = 0 ∧ x.s = [] ∧ x.l.length ≤ 12 ∧ ∀ y ∈ x.l, y.k ≠ 5 ∧ right1 y = true := by
  unfold rightV at h
  rw [if_pos h5] at h
  simp only [Bool.and_eq_true, beq_iff_eq, decide_eq_true_eq, Bool.not_eq_true', List.any_eq_false] at h
  obtain ⟨⟨⟨h1, h2⟩, h3⟩, h4⟩ := h
  refine ⟨h1, h2, h3, fun y hy => ?_⟩
  have := h4 y hy
  unfold noItem at this
  simp at this
  exact this
theorem rightV_one {x : V} (h : rightV x = true) (h5 : x.k ≠ 5) : right1 x = true := by unfold rightV at h; rwa [if_neg h5] at h
theorem rightV_vok {x : V} (h : rightV x = true) : VOk x ∧ VSmall x ∧ x.s.length ≤ 60 ∧ x.l.length ≤ 12 := by
  have hm : maxLen = 9223372036854775807 := rfl
  by_cases h5 : x.k = 5
  · obtain ⟨h1, h2, h3, h4⟩ := rightL_inv h h5
    refine ⟨⟨by unfold TextsOk; rw [h2]; simp, fun y hy => ?_⟩, ?_, by rw [h2]; simp, h3⟩
    · have := (right1_ok (h4 y hy).2).1.2.2; unfold TextsOk; omega
    · obtain ⟨k, n, s, l⟩ := x
      simp only [Vl] at h3 h4
      refine .mk (by omega) (fun y hy => ?_)
      have := (right1_ok (h4 y hy).2).2.2
      obtain ⟨k', n', s', l'⟩ := y
      simp only [Vl] at this; subst this
      exact .mk (by simp) (by simp)
  · have h0 := right1_ok (rightV_one h h5)
    refine ⟨⟨by have := h0.1.2.2; unfold TextsOk; omega, by rw [h0.2.2]; simp⟩, ?_, h0.1.2.2, by rw [h0.2.2]; simp⟩
    obtain ⟨k, n, s, l⟩ := x
    have := h0.2.2
    simp only [Vl] at this; subst this
    exact .mk (by simp) (by simp)
def encTV (x : V) : TV := if rightV x then .tuple [S (str (encV x)), I 0] else .tuple [S (str []), I 30]
theorem encTo_all (x : V) (h5 : x.k = 5) : encTo x.l x.l.length = encV x := by
  unfold encTo encV; rw [if_pos h5, List.take_of_length_le (Nat.le_refl _)]
theorem lay_ok (a0 a1 : Addr) (m : Nat) (x : V) (h : rightV x = true) : SCalls Tryd.prog (gl a0 a1 m) 59 [nilT, tv x] [] (.own 1000 1 (byR (encV x))) [.row 5 1 (encV x).length] := by
  by_cases h5 : x.k = 5
  · obtain ⟨h1, h2, h3, h4⟩ := rightL_inv h h5
    rw [← encTo_all x h5]
    exact lay_nilL a0 a1 m x h5 h3 (fun y hy => ⟨(right1_ok (h4 y hy).2).1, (h4 y hy).1⟩)
  · obtain ⟨⟨o1, o2, o3⟩, _, _⟩ := right1_ok (rightV_one h h5)
    have := lay_nil1 a0 a1 m x o1 o2 o3 h5
    unfold encV; rw [if_neg h5]; exact this
theorem encode_ok (a0 a1 : Addr) (m : Nat) (x : V) (hx : VOk x) : SCalls Tryd.prog (gl a0 a1 m) 28 [tv x] [] (encTV x) [] := by
  have HR := rightV_ok a0 a1 m x hx
  refine call_of0 hmix tf_val_Encode rfl ?_
  unfold encTV
  simp only [vcA, Nat.reduceLT, Int.reduceEq, Int.reduceAdd, Int.reduceSub, Nat.reduceBEq, Nat.reduceEqDiff, reduceCtorEq, Nat.reduceAdd, Nat.reduceSub, Nat.reduceMul, Nat.reduceLeDiff, Int.reduceToNat, Int.reduceLT, Int.reduceLE, Int.reduceNeg, reduceIte, I, S, tv, nv, tyT, RawV.tv, R1.row, rowsGet, rowsLen, row4, Vk, Vn, Vs, Vl]
  (with_reducible apply v_call); (· simp only [vcA, Nat.reduceLT, Int.reduceEq, Int.reduceAdd, Int.reduceSub, Nat.reduceBEq, Nat.reduceEqDiff, reduceCtorEq, Nat.reduceAdd, Nat.reduceSub, Nat.reduceMul, Nat.reduceLeDiff, Int.reduceToNat, Int.reduceLT, Int.reduceLE, Int.reduceNeg, reduceIte, I, S, tv, nv, tyT, RawV.tv, R1.row, rowsGet, rowsLen, row4, Vk, Vn, Vs, Vl]; with_reducible rfl); (· exact HR); (· first | rfl | (simp only [moOk, nbeq, nble, List.length_nil, beq_self_eq_true, Bool.true_and, Bool.and_true, Bool.and_eq_true, decide_eq_true_eq]; omega)); (· simp only [vcA, Nat.reduceLT, Int.reduceEq, Int.reduceAdd, Int.reduceSub, Nat.reduceBEq, Nat.reduceEqDiff, reduceCtorEq, Nat.reduceAdd, Nat.reduceSub, Nat.reduceMul, Nat.reduceLeDiff, Int.reduceToNat, Int.reduceLT, Int.reduceLE, Int.reduceNeg, reduceIte, I, S, tv, nv, tyT, RawV.tv, R1.row, rowsGet, rowsLen, row4, Vk, Vn, Vs, Vl]; with_reducible rfl)
  cases hr : rightV x
  · simp only [vcA, Nat.reduceLT, Int.reduceEq, Int.reduceAdd, Int.reduceSub, Nat.reduceBEq, Nat.reduceEqDiff, reduceCtorEq, Nat.reduceAdd, Nat.reduceSub, Nat.reduceMul, Nat.reduceLeDiff, Int.reduceToNat, Int.reduceLT, Int.reduceLE, Int.reduceNeg, reduceIte, I, S, tv, nv, tyT, RawV.tv, R1.row, rowsGet, rowsLen, row4, Vk, Vn, Vs, Vl]
    rfl
  · have HL := lay_ok a0 a1 m x hr
    simp only [vcA, Nat.reduceLT, Int.reduceEq, Int.reduceAdd, Int.reduceSub, Nat.reduceBEq, Nat.reduceEqDiff, reduceCtorEq, Nat.reduceAdd, Nat.reduceSub, Nat.reduceMul, Nat.reduceLeDiff, Int.reduceToNat, Int.reduceLT, Int.reduceLE, Int.reduceNeg, reduceIte, I, S, tv, nv, tyT, RawV.tv, R1.row, rowsGet, rowsLen, row4, Vk, Vn, Vs, Vl]
    (with_reducible apply v_call); (· simp only [vcA, Nat.reduceLT, Int.reduceEq, Int.reduceAdd, Int.reduceSub, Nat.reduceBEq, Nat.reduceEqDiff, reduceCtorEq, Nat.reduceAdd, Nat.reduceSub, Nat.reduceMul, Nat.reduceLeDiff, Int.reduceToNat, Int.reduceLT, Int.reduceLE, Int.reduceNeg, reduceIte, I, S, tv, nv, tyT, RawV.tv, R1.row, rowsGet, rowsLen, row4, Vk, Vn, Vs, Vl, nilT]; with_reducible rfl); (· exact HL); (· first | rfl | (simp only [moOk, nbeq, nble, List.length_nil, beq_self_eq_true, Bool.true_and, Bool.and_true, Bool.and_eq_true, decide_eq_true_eq]; omega)); (· simp only [vcA, Nat.reduceLT, Int.reduceEq, Int.reduceAdd, Int.reduceSub, Nat.reduceBEq, Nat.reduceEqDiff, reduceCtorEq, Nat.reduceAdd, Nat.reduceSub, Nat.reduceMul, Nat.reduceLeDiff, Int.reduceToNat, Int.reduceLT, Int.reduceLE, Int.reduceNeg, reduceIte, I, S, tv, nv, tyT, RawV.tv, R1.row, rowsGet, rowsLen, row4, Vk, Vn, Vs, Vl, nilT]; with_reducible rfl)
    simp only [vcA, Nat.reduceLT, Int.reduceEq, Int.reduceAdd, Int.reduceSub, Nat.reduceBEq, Nat.reduceEqDiff, reduceCtorEq, Nat.reduceAdd, Nat.reduceSub, Nat.reduceMul, Nat.reduceLeDiff, Int.reduceToNat, Int.reduceLT, Int.reduceLE, Int.reduceNeg, reduceIte, I, S, tv, nv, tyT, RawV.tv, R1.row, rowsGet, rowsLen, row4, Vk, Vn, Vs, Vl, byP, byApp, byLen, bySeq, strMk]
end Go.Proofs.YtdlolkogifigpaaDoor
end

section
/- Values of bytes: the program's decoder. No statement of the program is proved here. -/
namespace Go.Proofs.YtdlolkogifigpaaDoor
open Go Go.RowKit Go.Mor Go.Sh Go.Sh.Cd1
set_option maxRecDepth 100000
set_option maxHeartbeats 2000000
def dNum (s : List UInt8) (a lo hi : Int) : Except Int (Int × Int) := match readNum s a with
  | none => .error 10
  | some (n, b) => if n < lo ∨ hi < n then .error 30 else .ok (n, b)
def dText (s : List UInt8) (a : Int) : Except Int (List UInt8 × Int) := match readText s a with
  | none => .error 10
  | some (t, b) => if rightText t then .ok (t, b) else .error 30
def dRest (s : List UInt8) (k b : Int) : Except Int (V × Int) :=
  if k = 1 then match dNum s b (-1000000000000000) 1000000000000000 with
    | .ok (n, c) => .ok (.mk 1 n [] [], c)
    | .error e => .error e
  else if k = 2 then match dText s b with
    | .ok (t, c) => .ok (.mk 2 0 t [], c)
    | .error e => .error e
  else if k = 3 ∨ k = 4 then match dNum s b (-20) 100000 with
    | .ok (n, c) => if n = 0 then .error 30 else .ok (.mk k n [] [], c)
    | .error e => .error e
  else .ok (.mk k 0 [] [], b)
def dVal1 (s : List UInt8) (a : Int) : Except Int (V × Int) := match dNum s a 0 4 with
  | .ok (k, b) => dRest s k b
  | .error e => .error e
def dLoop (s : List UInt8) : Nat → Int → List V → Except Int (List V × Int)
  | 0, a, l => .ok (l, a)
  | n + 1, a, l => match dVal1 s a with
    | .ok (v, b) => dLoop s n b (l ++ [v])
    | .error e => .error e
def dItems (s : List UInt8) (a : Int) : Except Int (List V × Int) := match dNum s a 0 12 with
  | .ok (n, b) => dLoop s n.toNat b []
  | .error e => .error e
def dVal (s : List UInt8) (a : Int) : Except Int (V × Int) := match dNum s a 0 5 with
  | .ok (k, b) => if k = 5 then (match dItems s b with | .ok (l, c) => .ok (.mk 5 0 [] l, c) | .error e => .error e) else dRest s k b
  | .error e => .error e
def dec (s : List UInt8) (a : Int) : MO := .box [S (str s), I a]
def SmallS (s : List UInt8) : Prop := s.length < 1125899906842624
theorem dNum_inv {s : List UInt8} {a lo hi n b : Int} (h : dNum s a lo hi = .ok (n, b)) : readNum s a = some (n, b) ∧ lo ≤ n ∧ n ≤ hi := by
  unfold dNum at h
  split at h
  · cases h
  · rename_i n' b' hr
    split at h
    · cases h
    · cases h; exact ⟨hr, by omega, by omega⟩
theorem dNum_pos {s : List UInt8} {a lo hi n b : Int} (hs : SmallS s) (h : dNum s a lo hi = .ok (n, b)) : I64 b ∧ I64 n := by
  have := readNum_bound (dNum_inv h).1
  unfold SmallS at hs
  unfold I64; omega
theorem number_ok (a0 a1 : Addr) (m : Nat) (s : List UInt8) (a lo hi : Int) (hs : SmallS s) (ha : I64 a) {n b : Int} (h : dNum s a lo hi = .ok (n, b)) :
    SCalls Tryd.prog (gl a0 a1 m) 88 [.ptr 1000 0, I lo, I hi] [dec s a] (.tuple [I n, I 0]) [dec s b] := by
  obtain ⟨hr, h1, h2⟩ := dNum_inv h
  have HR := readNum_ok a0 a1 m s a hs ha
  rw [hr] at HR
  refine call_of hmix tf___val_decoder__number rfl rfl rfl ?_
  simp only [vcA, Nat.reduceLT, Int.reduceEq, Int.reduceAdd, Int.reduceSub, Nat.reduceBEq, Nat.reduceEqDiff, reduceCtorEq, Nat.reduceAdd, Nat.reduceSub, Nat.reduceMul, Nat.reduceLeDiff, Int.reduceToNat, Int.reduceLT, Int.reduceLE, Int.reduceNeg, reduceIte, I, S, tv, nv, tyT, RawV.tv, R1.row, rowsGet, rowsLen, row4, Vk, Vn, Vs, Vl, dec]
  (with_reducible apply v_call); (· simp only [vcA, Nat.reduceLT, Int.reduceEq, Int.reduceAdd, Int.reduceSub, Nat.reduceBEq, Nat.reduceEqDiff, reduceCtorEq, Nat.reduceAdd, Nat.reduceSub, Nat.reduceMul, Nat.reduceLeDiff, Int.reduceToNat, Int.reduceLT, Int.reduceLE, Int.reduceNeg, reduceIte, I, S, tv, nv, tyT, RawV.tv, R1.row, rowsGet, rowsLen, row4, Vk, Vn, Vs, Vl, numTV]; with_reducible rfl); (· exact HR); (· first | rfl | (simp only [moOk, nbeq, nble, List.length_nil, beq_self_eq_true, Bool.true_and, Bool.and_true, Bool.and_eq_true, decide_eq_true_eq]; omega)); (· simp only [vcA, Nat.reduceLT, Int.reduceEq, Int.reduceAdd, Int.reduceSub, Nat.reduceBEq, Nat.reduceEqDiff, reduceCtorEq, Nat.reduceAdd, Nat.reduceSub, Nat.reduceMul, Nat.reduceLeDiff, Int.reduceToNat, Int.reduceLT, Int.reduceLE, Int.reduceNeg, reduceIte, I, S, tv, nv, tyT, RawV.tv, R1.row, rowsGet, rowsLen, row4, Vk, Vn, Vs, Vl, numTV]; with_reducible rfl)
  have l1 : ¬ n < lo := by omega
  have l2 : ¬ hi < n := by omega
  simp only [vcA, Nat.reduceLT, Int.reduceEq, Int.reduceAdd, Int.reduceSub, Nat.reduceBEq, Nat.reduceEqDiff, reduceCtorEq, Nat.reduceAdd, Nat.reduceSub, Nat.reduceMul, Nat.reduceLeDiff, Int.reduceToNat, Int.reduceLT, Int.reduceLE, Int.reduceNeg, reduceIte, I, S, tv, nv, tyT, RawV.tv, R1.row, rowsGet, rowsLen, row4, Vk, Vn, Vs, Vl, l1, l2, dec]
theorem number_err (a0 a1 : Addr) (m : Nat) (s : List UInt8) (a lo hi : Int) (hs : SmallS s) (ha : I64 a) {e : Int} (h : dNum s a lo hi = .error e) :
    SCalls Tryd.prog (gl a0 a1 m) 88 [.ptr 1000 0, I lo, I hi] [dec s a] (.tuple [I 0, I e]) [dec s a] ∧ e ≠ 0 := by
  have HR := readNum_ok a0 a1 m s a hs ha
  unfold dNum at h
  cases hr : readNum s a with
  | none =>
    rw [hr] at h HR; cases h
    refine ⟨call_of hmix tf___val_decoder__number rfl rfl rfl ?_, by decide⟩
    simp only [vcA, Nat.reduceLT, Int.reduceEq, Int.reduceAdd, Int.reduceSub, Nat.reduceBEq, Nat.reduceEqDiff, reduceCtorEq, Nat.reduceAdd, Nat.reduceSub, Nat.reduceMul, Nat.reduceLeDiff, Int.reduceToNat, Int.reduceLT, Int.reduceLE, Int.reduceNeg, reduceIte, I, S, tv, nv, tyT, RawV.tv, R1.row, rowsGet, rowsLen, row4, Vk, Vn, Vs, Vl, dec]
    (with_reducible apply v_call); (· simp only [vcA, Nat.reduceLT, Int.reduceEq, Int.reduceAdd, Int.reduceSub, Nat.reduceBEq, Nat.reduceEqDiff, reduceCtorEq, Nat.reduceAdd, Nat.reduceSub, Nat.reduceMul, Nat.reduceLeDiff, Int.reduceToNat, Int.reduceLT, Int.reduceLE, Int.reduceNeg, reduceIte, I, S, tv, nv, tyT, RawV.tv, R1.row, rowsGet, rowsLen, row4, Vk, Vn, Vs, Vl, numTV]; with_reducible rfl); (· exact HR); (· first | rfl | (simp only [moOk, nbeq, nble, List.length_nil, beq_self_eq_true, Bool.true_and, Bool.and_true, Bool.and_eq_true, decide_eq_true_eq]; omega)); (· simp only [vcA, Nat.reduceLT, Int.reduceEq, Int.reduceAdd, Int.reduceSub, Nat.reduceBEq, Nat.reduceEqDiff, reduceCtorEq, Nat.reduceAdd, Nat.reduceSub, Nat.reduceMul, Nat.reduceLeDiff, Int.reduceToNat, Int.reduceLT, Int.reduceLE, Int.reduceNeg, reduceIte, I, S, tv, nv, tyT, RawV.tv, R1.row, rowsGet, rowsLen, row4, Vk, Vn, Vs, Vl, numTV]; with_reducible rfl)
    simp only [vcA, Nat.reduceLT, Int.reduceEq, Int.reduceAdd, Int.reduceSub, Nat.reduceBEq, Nat.reduceEqDiff, reduceCtorEq, Nat.reduceAdd, Nat.reduceSub, Nat.reduceMul, Nat.reduceLeDiff, Int.reduceToNat, Int.reduceLT, Int.reduceLE, Int.reduceNeg, reduceIte, I, S, tv, nv, tyT, RawV.tv, R1.row, rowsGet, rowsLen, row4, Vk, Vn, Vs, Vl, dec]
  | some q =>
    obtain ⟨n, b⟩ := q
    rw [hr] at h HR
    simp only [] at h
    by_cases hc : n < lo ∨ hi < n
    · rw [if_pos hc] at h; cases h
      refine ⟨call_of hmix tf___val_decoder__number rfl rfl rfl ?_, by decide⟩
      simp only [vcA, Nat.reduceLT, Int.reduceEq, Int.reduceAdd, Int.reduceSub, Nat.reduceBEq, Nat.reduceEqDiff, reduceCtorEq, Nat.reduceAdd, Nat.reduceSub, Nat.reduceMul, Nat.reduceLeDiff, Int.reduceToNat, Int.reduceLT, Int.reduceLE, Int.reduceNeg, reduceIte, I, S, tv, nv, tyT, RawV.tv, R1.row, rowsGet, rowsLen, row4, Vk, Vn, Vs, Vl, dec]
      (with_reducible apply v_call); (· simp only [vcA, Nat.reduceLT, Int.reduceEq, Int.reduceAdd, Int.reduceSub, Nat.reduceBEq, Nat.reduceEqDiff, reduceCtorEq, Nat.reduceAdd, Nat.reduceSub, Nat.reduceMul, Nat.reduceLeDiff, Int.reduceToNat, Int.reduceLT, Int.reduceLE, Int.reduceNeg, reduceIte, I, S, tv, nv, tyT, RawV.tv, R1.row, rowsGet, rowsLen, row4, Vk, Vn, Vs, Vl, numTV]; with_reducible rfl); (· exact HR); (· first | rfl | (simp only [moOk, nbeq, nble, List.length_nil, beq_self_eq_true, Bool.true_and, Bool.and_true, Bool.and_eq_true, decide_eq_true_eq]; omega)); (· simp only [vcA, Nat.reduceLT, Int.reduceEq, Int.reduceAdd, Int.reduceSub, Nat.reduceBEq, Nat.reduceEqDiff, reduceCtorEq, Nat.reduceAdd, Nat.reduceSub, Nat.reduceMul, Nat.reduceLeDiff, Int.reduceToNat, Int.reduceLT, Int.reduceLE, Int.reduceNeg, reduceIte, I, S, tv, nv, tyT, RawV.tv, R1.row, rowsGet, rowsLen, row4, Vk, Vn, Vs, Vl, numTV]; with_reducible rfl)
      by_cases l1 : n < lo
      · simp only [vcA, Nat.reduceLT, Int.reduceEq, Int.reduceAdd, Int.reduceSub, Nat.reduceBEq, Nat.reduceEqDiff, reduceCtorEq, Nat.reduceAdd, Nat.reduceSub, Nat.reduceMul, Nat.reduceLeDiff, Int.reduceToNat, Int.reduceLT, Int.reduceLE, Int.reduceNeg, reduceIte, I, S, tv, nv, tyT, RawV.tv, R1.row, rowsGet, rowsLen, row4, Vk, Vn, Vs, Vl, l1, dec]
      · have l2 : hi < n := by omega
        simp only [vcA, Nat.reduceLT, Int.reduceEq, Int.reduceAdd, Int.reduceSub, Nat.reduceBEq, Nat.reduceEqDiff, reduceCtorEq, Nat.reduceAdd, Nat.reduceSub, Nat.reduceMul, Nat.reduceLeDiff, Int.reduceToNat, Int.reduceLT, Int.reduceLE, Int.reduceNeg, reduceIte, I, S, tv, nv, tyT, RawV.tv, R1.row, rowsGet, rowsLen, row4, Vk, Vn, Vs, Vl, l1, l2, dec]
    · rw [if_neg hc] at h; cases h
theorem rightText_ok (a0 a1 : Addr) (m : Nat) (t : List UInt8) (ht : t.length ≤ 9223372036854775807) : SCalls Tryd.prog (gl a0 a1 m) 84 [S (str t)] [] (.pv (.v (.bool (rightText t)))) [] :=
  scalls_of (vs := [.string (str t)]) (body_of (by kernel_rfl)) (fun w E r => .pv (.v _)) (fun w hG => rightText_any t a0 a1 w ht hG.g)
theorem dtext_ok (a0 a1 : Addr) (m : Nat) (s : List UInt8) (a : Int) (hs : SmallS s) (ha : I64 a) {t : List UInt8} {b : Int} (h : dText s a = .ok (t, b)) :
    SCalls Tryd.prog (gl a0 a1 m) 89 [.ptr 1000 0] [dec s a] (.tuple [S (str t), I 0]) [dec s b] := by
  have HR := readText_ok a0 a1 m s a hs ha
  unfold dText at h
  cases hr : readText s a with
  | none => rw [hr] at h; cases h
  | some q =>
    obtain ⟨t', b'⟩ := q
    rw [hr] at h HR
    have hb := readText_bound hr
    simp only [] at h
    by_cases hc : rightText t' = true
    · rw [if_pos hc] at h; cases h
      have HT := rightText_ok a0 a1 m t (by omega)
      rw [hc] at HT
      refine call_of hmix tf___val_decoder__text rfl rfl rfl ?_
      simp only [vcA, Nat.reduceLT, Int.reduceEq, Int.reduceAdd, Int.reduceSub, Nat.reduceBEq, Nat.reduceEqDiff, reduceCtorEq, Nat.reduceAdd, Nat.reduceSub, Nat.reduceMul, Nat.reduceLeDiff, Int.reduceToNat, Int.reduceLT, Int.reduceLE, Int.reduceNeg, reduceIte, I, S, tv, nv, tyT, RawV.tv, R1.row, rowsGet, rowsLen, row4, Vk, Vn, Vs, Vl, dec]
      (with_reducible apply v_call); (· simp only [vcA, Nat.reduceLT, Int.reduceEq, Int.reduceAdd, Int.reduceSub, Nat.reduceBEq, Nat.reduceEqDiff, reduceCtorEq, Nat.reduceAdd, Nat.reduceSub, Nat.reduceMul, Nat.reduceLeDiff, Int.reduceToNat, Int.reduceLT, Int.reduceLE, Int.reduceNeg, reduceIte, I, S, tv, nv, tyT, RawV.tv, R1.row, rowsGet, rowsLen, row4, Vk, Vn, Vs, Vl, readTV]; with_reducible rfl); (· exact HR); (· first | rfl | (simp only [moOk, nbeq, nble, List.length_nil, beq_self_eq_true, Bool.true_and, Bool.and_true, Bool.and_eq_true, decide_eq_true_eq]; omega)); (· simp only [vcA, Nat.reduceLT, Int.reduceEq, Int.reduceAdd, Int.reduceSub, Nat.reduceBEq, Nat.reduceEqDiff, reduceCtorEq, Nat.reduceAdd, Nat.reduceSub, Nat.reduceMul, Nat.reduceLeDiff, Int.reduceToNat, Int.reduceLT, Int.reduceLE, Int.reduceNeg, reduceIte, I, S, tv, nv, tyT, RawV.tv, R1.row, rowsGet, rowsLen, row4, Vk, Vn, Vs, Vl, readTV]; with_reducible rfl)
      simp only [vcA, Nat.reduceLT, Int.reduceEq, Int.reduceAdd, Int.reduceSub, Nat.reduceBEq, Nat.reduceEqDiff, reduceCtorEq, Nat.reduceAdd, Nat.reduceSub, Nat.reduceMul, Nat.reduceLeDiff, Int.reduceToNat, Int.reduceLT, Int.reduceLE, Int.reduceNeg, reduceIte, I, S, tv, nv, tyT, RawV.tv, R1.row, rowsGet, rowsLen, row4, Vk, Vn, Vs, Vl, dec]
      (with_reducible apply v_call); (· simp only [vcA, Nat.reduceLT, Int.reduceEq, Int.reduceAdd, Int.reduceSub, Nat.reduceBEq, Nat.reduceEqDiff, reduceCtorEq, Nat.reduceAdd, Nat.reduceSub, Nat.reduceMul, Nat.reduceLeDiff, Int.reduceToNat, Int.reduceLT, Int.reduceLE, Int.reduceNeg, reduceIte, I, S, tv, nv, tyT, RawV.tv, R1.row, rowsGet, rowsLen, row4, Vk, Vn, Vs, Vl]; with_reducible rfl); (· exact HT); (· first | rfl | (simp only [moOk, nbeq, nble, List.length_nil, beq_self_eq_true, Bool.true_and, Bool.and_true, Bool.and_eq_true, decide_eq_true_eq]; omega)); (· simp only [vcA, Nat.reduceLT, Int.reduceEq, Int.reduceAdd, Int.reduceSub, Nat.reduceBEq, Nat.reduceEqDiff, reduceCtorEq, Nat.reduceAdd, Nat.reduceSub, Nat.reduceMul, Nat.reduceLeDiff, Int.reduceToNat, Int.reduceLT, Int.reduceLE, Int.reduceNeg, reduceIte, I, S, tv, nv, tyT, RawV.tv, R1.row, rowsGet, rowsLen, row4, Vk, Vn, Vs, Vl]; with_reducible rfl)
      simp only [vcA, Nat.reduceLT, Int.reduceEq, Int.reduceAdd, Int.reduceSub, Nat.reduceBEq, Nat.reduceEqDiff, reduceCtorEq, Nat.reduceAdd, Nat.reduceSub, Nat.reduceMul, Nat.reduceLeDiff, Int.reduceToNat, Int.reduceLT, Int.reduceLE, Int.reduceNeg, reduceIte, I, S, tv, nv, tyT, RawV.tv, R1.row, rowsGet, rowsLen, row4, Vk, Vn, Vs, Vl, dec]
    · rw [if_neg hc] at h; cases h
theorem dtext_err (a0 a1 : Addr) (m : Nat) (s : List UInt8) (a : Int) (hs : SmallS s) (ha : I64 a) {e : Int} (h : dText s a = .error e) :
    SCalls Tryd.prog (gl a0 a1 m) 89 [.ptr 1000 0] [dec s a] (.tuple [S (str []), I e]) [dec s a] ∧ e ≠ 0 := by
  have HR := readText_ok a0 a1 m s a hs ha
  unfold dText at h
  cases hr : readText s a with
  | none =>
    rw [hr] at h HR; cases h
    refine ⟨call_of hmix tf___val_decoder__text rfl rfl rfl ?_, by decide⟩
    simp only [vcA, Nat.reduceLT, Int.reduceEq, Int.reduceAdd, Int.reduceSub, Nat.reduceBEq, Nat.reduceEqDiff, reduceCtorEq, Nat.reduceAdd, Nat.reduceSub, Nat.reduceMul, Nat.reduceLeDiff, Int.reduceToNat, Int.reduceLT, Int.reduceLE, Int.reduceNeg, reduceIte, I, S, tv, nv, tyT, RawV.tv, R1.row, rowsGet, rowsLen, row4, Vk, Vn, Vs, Vl, dec]
    (with_reducible apply v_call); (· simp only [vcA, Nat.reduceLT, Int.reduceEq, Int.reduceAdd, Int.reduceSub, Nat.reduceBEq, Nat.reduceEqDiff, reduceCtorEq, Nat.reduceAdd, Nat.reduceSub, Nat.reduceMul, Nat.reduceLeDiff, Int.reduceToNat, Int.reduceLT, Int.reduceLE, Int.reduceNeg, reduceIte, I, S, tv, nv, tyT, RawV.tv, R1.row, rowsGet, rowsLen, row4, Vk, Vn, Vs, Vl, readTV]; with_reducible rfl); (· exact HR); (· first | rfl | (simp only [moOk, nbeq, nble, List.length_nil, beq_self_eq_true, Bool.true_and, Bool.and_true, Bool.and_eq_true, decide_eq_true_eq]; omega)); (· simp only [vcA, Nat.reduceLT, Int.reduceEq, Int.reduceAdd, Int.reduceSub, Nat.reduceBEq, Nat.reduceEqDiff, reduceCtorEq, Nat.reduceAdd, Nat.reduceSub, Nat.reduceMul, Nat.reduceLeDiff, Int.reduceToNat, Int.reduceLT, Int.reduceLE, Int.reduceNeg, reduceIte, I, S, tv, nv, tyT, RawV.tv, R1.row, rowsGet, rowsLen, row4, Vk, Vn, Vs, Vl, readTV]; with_reducible rfl)
    simp only [vcA, Nat.reduceLT, Int.reduceEq, Int.reduceAdd, Int.reduceSub, Nat.reduceBEq, Nat.reduceEqDiff, reduceCtorEq, Nat.reduceAdd, Nat.reduceSub, Nat.reduceMul, Nat.reduceLeDiff, Int.reduceToNat, Int.reduceLT, Int.reduceLE, Int.reduceNeg, reduceIte, I, S, tv, nv, tyT, RawV.tv, R1.row, rowsGet, rowsLen, row4, Vk, Vn, Vs, Vl, dec]
    rfl
  | some q =>
    obtain ⟨t', b'⟩ := q
    rw [hr] at h HR
    have hb := readText_bound hr
    simp only [] at h
    by_cases hc : rightText t' = true
    · rw [if_pos hc] at h; cases h
    · rw [if_neg hc] at h; cases h
      have HT := rightText_ok a0 a1 m t' (by omega)
      rw [show rightText t' = false by simpa using hc] at HT
      refine ⟨call_of hmix tf___val_decoder__text rfl rfl rfl ?_, by decide⟩
      simp only [vcA, Nat.reduceLT, Int.reduceEq, Int.reduceAdd, Int.reduceSub, Nat.reduceBEq, Nat.reduceEqDiff, reduceCtorEq, Nat.reduceAdd, Nat.reduceSub, Nat.reduceMul, Nat.reduceLeDiff, Int.reduceToNat, Int.reduceLT, Int.reduceLE, Int.reduceNeg, reduceIte, I, S, tv, nv, tyT, RawV.tv, R1.row, rowsGet, rowsLen, row4, Vk, Vn, Vs, Vl, dec]
      (with_reducible apply v_call); (· simp only [vcA, Nat.reduceLT, Int.reduceEq, Int.reduceAdd, Int.reduceSub, Nat.reduceBEq, Nat.reduceEqDiff, reduceCtorEq, Nat.reduceAdd, Nat.reduceSub, Nat.reduceMul, Nat.reduceLeDiff, Int.reduceToNat, Int.reduceLT, Int.reduceLE, Int.reduceNeg, reduceIte, I, S, tv, nv, tyT, RawV.tv, R1.row, rowsGet, rowsLen, row4, Vk, Vn, Vs, Vl, readTV]; with_reducible rfl); (· exact HR); (· first | rfl | (simp only [moOk, nbeq, nble, List.length_nil, beq_self_eq_true, Bool.true_and, Bool.and_true, Bool.and_eq_true, decide_eq_true_eq]; omega)); (· simp only [vcA, Nat.reduceLT, Int.reduceEq, Int.reduceAdd, Int.reduceSub, Nat.reduceBEq, Nat.reduceEqDiff, reduceCtorEq, Nat.reduceAdd, Nat.reduceSub, Nat.reduceMul, Nat.reduceLeDiff, Int.reduceToNat, Int.reduceLT, Int.reduceLE, Int.reduceNeg, reduceIte, I, S, tv, nv, tyT, RawV.tv, R1.row, rowsGet, rowsLen, row4, Vk, Vn, Vs, Vl, readTV]; with_reducible rfl)
      simp only [vcA, Nat.reduceLT, Int.reduceEq, Int.reduceAdd, Int.reduceSub, Nat.reduceBEq, Nat.reduceEqDiff, reduceCtorEq, Nat.reduceAdd, Nat.reduceSub, Nat.reduceMul, Nat.reduceLeDiff, Int.reduceToNat, Int.reduceLT, Int.reduceLE, Int.reduceNeg, reduceIte, I, S, tv, nv, tyT, RawV.tv, R1.row, rowsGet, rowsLen, row4, Vk, Vn, Vs, Vl, dec]
      (with_reducible apply v_call); (· simp only [vcA, Nat.reduceLT, Int.reduceEq, Int.reduceAdd, Int.reduceSub, Nat.reduceBEq, Nat.reduceEqDiff, reduceCtorEq, Nat.reduceAdd, Nat.reduceSub, Nat.reduceMul, Nat.reduceLeDiff, Int.reduceToNat, Int.reduceLT, Int.reduceLE, Int.reduceNeg, reduceIte, I, S, tv, nv, tyT, RawV.tv, R1.row, rowsGet, rowsLen, row4, Vk, Vn, Vs, Vl]; with_reducible rfl); (· exact HT); (· first | rfl | (simp only [moOk, nbeq, nble, List.length_nil, beq_self_eq_true, Bool.true_and, Bool.and_true, Bool.and_eq_true, decide_eq_true_eq]; omega)); (· simp only [vcA, Nat.reduceLT, Int.reduceEq, Int.reduceAdd, Int.reduceSub, Nat.reduceBEq, Nat.reduceEqDiff, reduceCtorEq, Nat.reduceAdd, Nat.reduceSub, Nat.reduceMul, Nat.reduceLeDiff, Int.reduceToNat, Int.reduceLT, Int.reduceLE, Int.reduceNeg, reduceIte, I, S, tv, nv, tyT, RawV.tv, R1.row, rowsGet, rowsLen, row4, Vk, Vn, Vs, Vl]; with_reducible rfl)
      simp only [vcA, Nat.reduceLT, Int.reduceEq, Int.reduceAdd, Int.reduceSub, Nat.reduceBEq, Nat.reduceEqDiff, reduceCtorEq, Nat.reduceAdd, Nat.reduceSub, Nat.reduceMul, Nat.reduceLeDiff, Int.reduceToNat, Int.reduceLT, Int.reduceLE, Int.reduceNeg, reduceIte, I, S, tv, nv, tyT, RawV.tv, R1.row, rowsGet, rowsLen, row4, Vk, Vn, Vs, Vl, dec]
      rfl
/-- The rest of a value that is no list. -/
theorem value1_ok (a0 a1 : Addr) (m : Nat) (s : List UInt8) (a hi : Int) (hs : SmallS s) (ha : I64 a) {k b c : Int} {v : V} (hk : dNum s a 0 hi = .ok (k, b)) (h5 : k ≠ 5) (h : dRest s k b = .ok (v, c)) :
    SCalls Tryd.prog (gl a0 a1 m) 60 [.ptr 1000 0, I hi] [dec s a] (.tuple [nv v, I 0]) [dec s c] := by
  have HK := number_ok a0 a1 m s a 0 hi hs ha hk
  obtain ⟨hb, hkk⟩ := dNum_pos hs hk
  have hk0 := (dNum_inv hk).2.1
  refine call_of hmix tf___val_decoder__value rfl rfl rfl ?_
  unfold dec at HK ⊢
  simp only [vcA, Nat.reduceLT, Int.reduceEq, Int.reduceAdd, Int.reduceSub, Nat.reduceBEq, Nat.reduceEqDiff, reduceCtorEq, Nat.reduceAdd, Nat.reduceSub, Nat.reduceMul, Nat.reduceLeDiff, Int.reduceToNat, Int.reduceLT, Int.reduceLE, Int.reduceNeg, reduceIte, I, S, tv, nv, tyT, RawV.tv, R1.row, rowsGet, rowsLen, row4, Vk, Vn, Vs, Vl]
  (with_reducible apply v_call); (· simp only [vcA, Nat.reduceLT, Int.reduceEq, Int.reduceAdd, Int.reduceSub, Nat.reduceBEq, Nat.reduceEqDiff, reduceCtorEq, Nat.reduceAdd, Nat.reduceSub, Nat.reduceMul, Nat.reduceLeDiff, Int.reduceToNat, Int.reduceLT, Int.reduceLE, Int.reduceNeg, reduceIte, I, S, tv, nv, tyT, RawV.tv, R1.row, rowsGet, rowsLen, row4, Vk, Vn, Vs, Vl]; with_reducible rfl); (· exact HK); (· first | rfl | (simp only [moOk, nbeq, nble, List.length_nil, beq_self_eq_true, Bool.true_and, Bool.and_true, Bool.and_eq_true, decide_eq_true_eq]; omega)); (· simp only [vcA, Nat.reduceLT, Int.reduceEq, Int.reduceAdd, Int.reduceSub, Nat.reduceBEq, Nat.reduceEqDiff, reduceCtorEq, Nat.reduceAdd, Nat.reduceSub, Nat.reduceMul, Nat.reduceLeDiff, Int.reduceToNat, Int.reduceLT, Int.reduceLE, Int.reduceNeg, reduceIte, I, S, tv, nv, tyT, RawV.tv, R1.row, rowsGet, rowsLen, row4, Vk, Vn, Vs, Vl]; with_reducible rfl)
  unfold dRest at h
  by_cases e1 : k = 1
  · subst e1
    rw [if_pos rfl] at h
    cases hn : dNum s b (-1000000000000000) 1000000000000000 with
    | error e => rw [hn] at h; cases h
    | ok q =>
      obtain ⟨n, c'⟩ := q
      rw [hn] at h; cases h
      have HN := number_ok a0 a1 m s b _ _ hs hb hn
      unfold dec at HN
      simp only [vcA, Nat.reduceLT, Int.reduceEq, Int.reduceAdd, Int.reduceSub, Nat.reduceBEq, Nat.reduceEqDiff, reduceCtorEq, Nat.reduceAdd, Nat.reduceSub, Nat.reduceMul, Nat.reduceLeDiff, Int.reduceToNat, Int.reduceLT, Int.reduceLE, Int.reduceNeg, reduceIte, I, S, tv, nv, tyT, RawV.tv, R1.row, rowsGet, rowsLen, row4, Vk, Vn, Vs, Vl]
      (with_reducible apply v_call); (· simp only [vcA, Nat.reduceLT, Int.reduceEq, Int.reduceAdd, Int.reduceSub, Nat.reduceBEq, Nat.reduceEqDiff, reduceCtorEq, Nat.reduceAdd, Nat.reduceSub, Nat.reduceMul, Nat.reduceLeDiff, Int.reduceToNat, Int.reduceLT, Int.reduceLE, Int.reduceNeg, reduceIte, I, S, tv, nv, tyT, RawV.tv, R1.row, rowsGet, rowsLen, row4, Vk, Vn, Vs, Vl]; with_reducible rfl); (· exact HN); (· first | rfl | (simp only [moOk, nbeq, nble, List.length_nil, beq_self_eq_true, Bool.true_and, Bool.and_true, Bool.and_eq_true, decide_eq_true_eq]; omega)); (· simp only [vcA, Nat.reduceLT, Int.reduceEq, Int.reduceAdd, Int.reduceSub, Nat.reduceBEq, Nat.reduceEqDiff, reduceCtorEq, Nat.reduceAdd, Nat.reduceSub, Nat.reduceMul, Nat.reduceLeDiff, Int.reduceToNat, Int.reduceLT, Int.reduceLE, Int.reduceNeg, reduceIte, I, S, tv, nv, tyT, RawV.tv, R1.row, rowsGet, rowsLen, row4, Vk, Vn, Vs, Vl]; with_reducible rfl)
      simp only [vcA, Nat.reduceLT, Int.reduceEq, Int.reduceAdd, Int.reduceSub, Nat.reduceBEq, Nat.reduceEqDiff, reduceCtorEq, Nat.reduceAdd, Nat.reduceSub, Nat.reduceMul, Nat.reduceLeDiff, Int.reduceToNat, Int.reduceLT, Int.reduceLE, Int.reduceNeg, reduceIte, I, S, tv, nv, tyT, RawV.tv, R1.row, rowsGet, rowsLen, row4, Vk, Vn, Vs, Vl]
      rfl
  rw [if_neg e1] at h
  by_cases e2 : k = 2
  · subst e2
    rw [if_pos rfl] at h
    cases hn : dText s b with
    | error e => rw [hn] at h; cases h
    | ok q =>
      obtain ⟨n, c'⟩ := q
      rw [hn] at h; cases h
      have HN := dtext_ok a0 a1 m s b hs hb hn
      unfold dec at HN
      simp only [vcA, Nat.reduceLT, Int.reduceEq, Int.reduceAdd, Int.reduceSub, Nat.reduceBEq, Nat.reduceEqDiff, reduceCtorEq, Nat.reduceAdd, Nat.reduceSub, Nat.reduceMul, Nat.reduceLeDiff, Int.reduceToNat, Int.reduceLT, Int.reduceLE, Int.reduceNeg, reduceIte, I, S, tv, nv, tyT, RawV.tv, R1.row, rowsGet, rowsLen, row4, Vk, Vn, Vs, Vl]
      (with_reducible apply v_call); (· simp only [vcA, Nat.reduceLT, Int.reduceEq, Int.reduceAdd, Int.reduceSub, Nat.reduceBEq, Nat.reduceEqDiff, reduceCtorEq, Nat.reduceAdd, Nat.reduceSub, Nat.reduceMul, Nat.reduceLeDiff, Int.reduceToNat, Int.reduceLT, Int.reduceLE, Int.reduceNeg, reduceIte, I, S, tv, nv, tyT, RawV.tv, R1.row, rowsGet, rowsLen, row4, Vk, Vn, Vs, Vl]; with_reducible rfl); (· exact HN); (· first | rfl | (simp only [moOk, nbeq, nble, List.length_nil, beq_self_eq_true, Bool.true_and, Bool.and_true, Bool.and_eq_true, decide_eq_true_eq]; omega)); (· simp only [vcA, Nat.reduceLT, Int.reduceEq, Int.reduceAdd, Int.reduceSub, Nat.reduceBEq, Nat.reduceEqDiff, reduceCtorEq, Nat.reduceAdd, Nat.reduceSub, Nat.reduceMul, Nat.reduceLeDiff, Int.reduceToNat, Int.reduceLT, Int.reduceLE, Int.reduceNeg, reduceIte, I, S, tv, nv, tyT, RawV.tv, R1.row, rowsGet, rowsLen, row4, Vk, Vn, Vs, Vl]; with_reducible rfl)
      simp only [vcA, Nat.reduceLT, Int.reduceEq, Int.reduceAdd, Int.reduceSub, Nat.reduceBEq, Nat.reduceEqDiff, reduceCtorEq, Nat.reduceAdd, Nat.reduceSub, Nat.reduceMul, Nat.reduceLeDiff, Int.reduceToNat, Int.reduceLT, Int.reduceLE, Int.reduceNeg, reduceIte, I, S, tv, nv, tyT, RawV.tv, R1.row, rowsGet, rowsLen, row4, Vk, Vn, Vs, Vl]
  rw [if_neg e2] at h
  by_cases e3 : k = 3 ∨ k = 4
  · rw [if_pos e3] at h
    cases hn : dNum s b (-20) 100000 with
    | error e => rw [hn] at h; cases h
    | ok q =>
      obtain ⟨n, c'⟩ := q
      rw [hn] at h
      simp only [] at h
      by_cases hz : n = 0
      · rw [if_pos hz] at h; cases h
      rw [if_neg hz] at h; cases h
      have HN := number_ok a0 a1 m s b _ _ hs hb hn
      unfold dec at HN
      rcases e3 with rfl | rfl
      · simp only [vcA, Nat.reduceLT, Int.reduceEq, Int.reduceAdd, Int.reduceSub, Nat.reduceBEq, Nat.reduceEqDiff, reduceCtorEq, Nat.reduceAdd, Nat.reduceSub, Nat.reduceMul, Nat.reduceLeDiff, Int.reduceToNat, Int.reduceLT, Int.reduceLE, Int.reduceNeg, reduceIte, I, S, tv, nv, tyT, RawV.tv, R1.row, rowsGet, rowsLen, row4, Vk, Vn, Vs, Vl]
        (with_reducible apply v_call); (· simp only [vcA, Nat.reduceLT, Int.reduceEq, Int.reduceAdd, Int.reduceSub, Nat.reduceBEq, Nat.reduceEqDiff, reduceCtorEq, Nat.reduceAdd, Nat.reduceSub, Nat.reduceMul, Nat.reduceLeDiff, Int.reduceToNat, Int.reduceLT, Int.reduceLE, Int.reduceNeg, reduceIte, I, S, tv, nv, tyT, RawV.tv, R1.row, rowsGet, rowsLen, row4, Vk, Vn, Vs, Vl]; with_reducible rfl); (· exact HN); (· first | rfl | (simp only [moOk, nbeq, nble, List.length_nil, beq_self_eq_true, Bool.true_and, Bool.and_true, Bool.and_eq_true, decide_eq_true_eq]; omega)); (· simp only [vcA, Nat.reduceLT, Int.reduceEq, Int.reduceAdd, Int.reduceSub, Nat.reduceBEq, Nat.reduceEqDiff, reduceCtorEq, Nat.reduceAdd, Nat.reduceSub, Nat.reduceMul, Nat.reduceLeDiff, Int.reduceToNat, Int.reduceLT, Int.reduceLE, Int.reduceNeg, reduceIte, I, S, tv, nv, tyT, RawV.tv, R1.row, rowsGet, rowsLen, row4, Vk, Vn, Vs, Vl]; with_reducible rfl)
        simp only [vcA, Nat.reduceLT, Int.reduceEq, Int.reduceAdd, Int.reduceSub, Nat.reduceBEq, Nat.reduceEqDiff, reduceCtorEq, Nat.reduceAdd, Nat.reduceSub, Nat.reduceMul, Nat.reduceLeDiff, Int.reduceToNat, Int.reduceLT, Int.reduceLE, Int.reduceNeg, reduceIte, I, S, tv, nv, tyT, RawV.tv, R1.row, rowsGet, rowsLen, row4, Vk, Vn, Vs, Vl, hz]
        rfl
      · simp only [vcA, Nat.reduceLT, Int.reduceEq, Int.reduceAdd, Int.reduceSub, Nat.reduceBEq, Nat.reduceEqDiff, reduceCtorEq, Nat.reduceAdd, Nat.reduceSub, Nat.reduceMul, Nat.reduceLeDiff, Int.reduceToNat, Int.reduceLT, Int.reduceLE, Int.reduceNeg, reduceIte, I, S, tv, nv, tyT, RawV.tv, R1.row, rowsGet, rowsLen, row4, Vk, Vn, Vs, Vl]
        (with_reducible apply v_call); (· simp only [vcA, Nat.reduceLT, Int.reduceEq, Int.reduceAdd, Int.reduceSub, Nat.reduceBEq, Nat.reduceEqDiff, reduceCtorEq, Nat.reduceAdd, Nat.reduceSub, Nat.reduceMul, Nat.reduceLeDiff, Int.reduceToNat, Int.reduceLT, Int.reduceLE, Int.reduceNeg, reduceIte, I, S, tv, nv, tyT, RawV.tv, R1.row, rowsGet, rowsLen, row4, Vk, Vn, Vs, Vl]; with_reducible rfl); (· exact HN); (· first | rfl | (simp only [moOk, nbeq, nble, List.length_nil, beq_self_eq_true, Bool.true_and, Bool.and_true, Bool.and_eq_true, decide_eq_true_eq]; omega)); (· simp only [vcA, Nat.reduceLT, Int.reduceEq, Int.reduceAdd, Int.reduceSub, Nat.reduceBEq, Nat.reduceEqDiff, reduceCtorEq, Nat.reduceAdd, Nat.reduceSub, Nat.reduceMul, Nat.reduceLeDiff, Int.reduceToNat, Int.reduceLT, Int.reduceLE, Int.reduceNeg, reduceIte, I, S, tv, nv, tyT, RawV.tv, R1.row, rowsGet, rowsLen, row4, Vk, Vn, Vs, Vl]; with_reducible rfl)
        simp only [vcA, Nat.reduceLT, Int.reduceEq, Int.reduceAdd, Int.reduceSub, Nat.reduceBEq, Nat.reduceEqDiff, reduceCtorEq, Nat.reduceAdd, Nat.reduceSub, Nat.reduceMul, Nat.reduceLeDiff, Int.reduceToNat, Int.reduceLT, Int.reduceLE, Int.reduceNeg, reduceIte, I, S, tv, nv, tyT, RawV.tv, R1.row, rowsGet, rowsLen, row4, Vk, Vn, Vs, Vl, hz]
        rfl
  rw [if_neg e3] at h; cases h
  have e3' : ¬ k = 3 := fun h => e3 (.inl h)
  have e4' : ¬ k = 4 := fun h => e3 (.inr h)
  simp only [vcA, Nat.reduceLT, Int.reduceEq, Int.reduceAdd, Int.reduceSub, Nat.reduceBEq, Nat.reduceEqDiff, reduceCtorEq, Nat.reduceAdd, Nat.reduceSub, Nat.reduceMul, Nat.reduceLeDiff, Int.reduceToNat, Int.reduceLT, Int.reduceLE, Int.reduceNeg, reduceIte, I, S, tv, nv, tyT, RawV.tv, R1.row, rowsGet, rowsLen, row4, Vk, Vn, Vs, Vl, e1, e2, e3', e4', h5]
  rfl
theorem value_err0 (a0 a1 : Addr) (m : Nat) (s : List UInt8) (a hi : Int) (hs : SmallS s) (ha : I64 a) {e : Int} (hk : dNum s a 0 hi = .error e) :
    SCalls Tryd.prog (gl a0 a1 m) 60 [.ptr 1000 0, I hi] [dec s a] (.tuple [nv V.nil, I e]) [dec s a] ∧ e ≠ 0 := by
  have HK := number_err a0 a1 m s a 0 hi hs ha hk
  refine ⟨call_of hmix tf___val_decoder__value rfl rfl rfl ?_, HK.2⟩
  unfold dec at HK ⊢
  simp only [vcA, Nat.reduceLT, Int.reduceEq, Int.reduceAdd, Int.reduceSub, Nat.reduceBEq, Nat.reduceEqDiff, reduceCtorEq, Nat.reduceAdd, Nat.reduceSub, Nat.reduceMul, Nat.reduceLeDiff, Int.reduceToNat, Int.reduceLT, Int.reduceLE, Int.reduceNeg, reduceIte, I, S, tv, nv, tyT, RawV.tv, R1.row, rowsGet, rowsLen, row4, Vk, Vn, Vs, Vl]
  (with_reducible apply v_call); (· simp only [vcA, Nat.reduceLT, Int.reduceEq, Int.reduceAdd, Int.reduceSub, Nat.reduceBEq, Nat.reduceEqDiff, reduceCtorEq, Nat.reduceAdd, Nat.reduceSub, Nat.reduceMul, Nat.reduceLeDiff, Int.reduceToNat, Int.reduceLT, Int.reduceLE, Int.reduceNeg, reduceIte, I, S, tv, nv, tyT, RawV.tv, R1.row, rowsGet, rowsLen, row4, Vk, Vn, Vs, Vl]; with_reducible rfl); (· exact HK.1); (· first | rfl | (simp only [moOk, nbeq, nble, List.length_nil, beq_self_eq_true, Bool.true_and, Bool.and_true, Bool.and_eq_true, decide_eq_true_eq]; omega)); (· simp only [vcA, Nat.reduceLT, Int.reduceEq, Int.reduceAdd, Int.reduceSub, Nat.reduceBEq, Nat.reduceEqDiff, reduceCtorEq, Nat.reduceAdd, Nat.reduceSub, Nat.reduceMul, Nat.reduceLeDiff, Int.reduceToNat, Int.reduceLT, Int.reduceLE, Int.reduceNeg, reduceIte, I, S, tv, nv, tyT, RawV.tv, R1.row, rowsGet, rowsLen, row4, Vk, Vn, Vs, Vl]; with_reducible rfl)
  simp only [vcA, Nat.reduceLT, Int.reduceEq, Int.reduceAdd, Int.reduceSub, Nat.reduceBEq, Nat.reduceEqDiff, reduceCtorEq, Nat.reduceAdd, Nat.reduceSub, Nat.reduceMul, Nat.reduceLeDiff, Int.reduceToNat, Int.reduceLT, Int.reduceLE, Int.reduceNeg, reduceIte, I, S, tv, nv, tyT, RawV.tv, R1.row, rowsGet, rowsLen, row4, Vk, Vn, Vs, Vl, HK.2]
  rfl
theorem value1_err (a0 a1 : Addr) (m : Nat) (s : List UInt8) (a hi : Int) (hs : SmallS s) (ha : I64 a) {k b e : Int} (hk : dNum s a 0 hi = .ok (k, b)) (h5 : k ≠ 5) (h : dRest s k b = .error e) :
    (∃ c, SCalls Tryd.prog (gl a0 a1 m) 60 [.ptr 1000 0, I hi] [dec s a] (.tuple [nv V.nil, I e]) [dec s c]) ∧ e ≠ 0 := by
  have HK := number_ok a0 a1 m s a 0 hi hs ha hk
  obtain ⟨hb, hkk⟩ := dNum_pos hs hk
  unfold dRest at h
  by_cases e1 : k = 1
  · subst e1
    rw [if_pos rfl] at h
    cases hn : dNum s b (-1000000000000000) 1000000000000000 with
    | ok q => rw [hn] at h; cases h
    | error e =>
      rw [hn] at h; cases h
      have HN := number_err a0 a1 m s b _ _ hs hb hn
      refine ⟨⟨b, call_of hmix tf___val_decoder__value rfl rfl rfl ?_⟩, HN.2⟩
      unfold dec at HK HN ⊢
      simp only [vcA, Nat.reduceLT, Int.reduceEq, Int.reduceAdd, Int.reduceSub, Nat.reduceBEq, Nat.reduceEqDiff, reduceCtorEq, Nat.reduceAdd, Nat.reduceSub, Nat.reduceMul, Nat.reduceLeDiff, Int.reduceToNat, Int.reduceLT, Int.reduceLE, Int.reduceNeg, reduceIte, I, S, tv, nv, tyT, RawV.tv, R1.row, rowsGet, rowsLen, row4, Vk, Vn, Vs, Vl]
      (with_reducible apply v_call); (· simp only [vcA, Nat.reduceLT, Int.reduceEq, Int.reduceAdd, Int.reduceSub, Nat.reduceBEq, Nat.reduceEqDiff, reduceCtorEq, Nat.reduceAdd, Nat.reduceSub, Nat.reduceMul, Nat.reduceLeDiff, Int.reduceToNat, Int.reduceLT, Int.reduceLE, Int.reduceNeg, reduceIte, I, S, tv, nv, tyT, RawV.tv, R1.row, rowsGet, rowsLen, row4, Vk, Vn, Vs, Vl]; with_reducible rfl); (· exact HK); (· first | rfl | (simp only [moOk, nbeq, nble, List.length_nil, beq_self_eq_true, Bool.true_and, Bool.and_true, Bool.and_eq_true, decide_eq_true_eq]; omega)); (· simp only [vcA, Nat.reduceLT, Int.reduceEq, Int.reduceAdd, Int.reduceSub, Nat.reduceBEq, Nat.reduceEqDiff, reduceCtorEq, Nat.reduceAdd, Nat.reduceSub, Nat.reduceMul, Nat.reduceLeDiff, Int.reduceToNat, Int.reduceLT, Int.reduceLE, Int.reduceNeg, reduceIte, I, S, tv, nv, tyT, RawV.tv, R1.row, rowsGet, rowsLen, row4, Vk, Vn, Vs, Vl]; with_reducible rfl)
      simp only [vcA, Nat.reduceLT, Int.reduceEq, Int.reduceAdd, Int.reduceSub, Nat.reduceBEq, Nat.reduceEqDiff, reduceCtorEq, Nat.reduceAdd, Nat.reduceSub, Nat.reduceMul, Nat.reduceLeDiff, Int.reduceToNat, Int.reduceLT, Int.reduceLE, Int.reduceNeg, reduceIte, I, S, tv, nv, tyT, RawV.tv, R1.row, rowsGet, rowsLen, row4, Vk, Vn, Vs, Vl]
      (with_reducible apply v_call); (· simp only [vcA, Nat.reduceLT, Int.reduceEq, Int.reduceAdd, Int.reduceSub, Nat.reduceBEq, Nat.reduceEqDiff, reduceCtorEq, Nat.reduceAdd, Nat.reduceSub, Nat.reduceMul, Nat.reduceLeDiff, Int.reduceToNat, Int.reduceLT, Int.reduceLE, Int.reduceNeg, reduceIte, I, S, tv, nv, tyT, RawV.tv, R1.row, rowsGet, rowsLen, row4, Vk, Vn, Vs, Vl]; with_reducible rfl); (· exact HN.1); (· first | rfl | (simp only [moOk, nbeq, nble, List.length_nil, beq_self_eq_true, Bool.true_and, Bool.and_true, Bool.and_eq_true, decide_eq_true_eq]; omega)); (· simp only [vcA, Nat.reduceLT, Int.reduceEq, Int.reduceAdd, Int.reduceSub, Nat.reduceBEq, Nat.reduceEqDiff, reduceCtorEq, Nat.reduceAdd, Nat.reduceSub, Nat.reduceMul, Nat.reduceLeDiff, Int.reduceToNat, Int.reduceLT, Int.reduceLE, Int.reduceNeg, reduceIte, I, S, tv, nv, tyT, RawV.tv, R1.row, rowsGet, rowsLen, row4, Vk, Vn, Vs, Vl]; with_reducible rfl)
      simp only [vcA, Nat.reduceLT, Int.reduceEq, Int.reduceAdd, Int.reduceSub, Nat.reduceBEq, Nat.reduceEqDiff, reduceCtorEq, Nat.reduceAdd, Nat.reduceSub, Nat.reduceMul, Nat.reduceLeDiff, Int.reduceToNat, Int.reduceLT, Int.reduceLE, Int.reduceNeg, reduceIte, I, S, tv, nv, tyT, RawV.tv, R1.row, rowsGet, rowsLen, row4, Vk, Vn, Vs, Vl, HN.2]
      rfl
  rw [if_neg e1] at h
  by_cases e2 : k = 2
  · subst e2
    rw [if_pos rfl] at h
    cases hn : dText s b with
    | ok q => rw [hn] at h; cases h
    | error e =>
      rw [hn] at h; cases h
      have HN := dtext_err a0 a1 m s b hs hb hn
      refine ⟨⟨b, call_of hmix tf___val_decoder__value rfl rfl rfl ?_⟩, HN.2⟩
      unfold dec at HK HN ⊢
      simp only [vcA, Nat.reduceLT, Int.reduceEq, Int.reduceAdd, Int.reduceSub, Nat.reduceBEq, Nat.reduceEqDiff, reduceCtorEq, Nat.reduceAdd, Nat.reduceSub, Nat.reduceMul, Nat.reduceLeDiff, Int.reduceToNat, Int.reduceLT, Int.reduceLE, Int.reduceNeg, reduceIte, I, S, tv, nv, tyT, RawV.tv, R1.row, rowsGet, rowsLen, row4, Vk, Vn, Vs, Vl]
      (with_reducible apply v_call); (· simp only [vcA, Nat.reduceLT, Int.reduceEq, Int.reduceAdd, Int.reduceSub, Nat.reduceBEq, Nat.reduceEqDiff, reduceCtorEq, Nat.reduceAdd, Nat.reduceSub, Nat.reduceMul, Nat.reduceLeDiff, Int.reduceToNat, Int.reduceLT, Int.reduceLE, Int.reduceNeg, reduceIte, I, S, tv, nv, tyT, RawV.tv, R1.row, rowsGet, rowsLen, row4, Vk, Vn, Vs, Vl]; with_reducible rfl); (· exact HK); (· first | rfl | (simp only [moOk, nbeq, nble, List.length_nil, beq_self_eq_true, Bool.true_and, Bool.and_true, Bool.and_eq_true, decide_eq_true_eq]; omega)); (· simp only [vcA, Nat.reduceLT, Int.reduceEq, Int.reduceAdd, Int.reduceSub, Nat.reduceBEq, Nat.reduceEqDiff, reduceCtorEq, Nat.reduceAdd, Nat.reduceSub, Nat.reduceMul, Nat.reduceLeDiff, Int.reduceToNat, Int.reduceLT, Int.reduceLE, Int.reduceNeg, reduceIte, I, S, tv, nv, tyT, RawV.tv, R1.row, rowsGet, rowsLen, row4, Vk, Vn, Vs, Vl]; with_reducible rfl)
      simp only [vcA, Nat.reduceLT, Int.reduceEq, Int.reduceAdd, Int.reduceSub, Nat.reduceBEq, Nat.reduceEqDiff, reduceCtorEq, Nat.reduceAdd, Nat.reduceSub, Nat.reduceMul, Nat.reduceLeDiff, Int.reduceToNat, Int.reduceLT, Int.reduceLE, Int.reduceNeg, reduceIte, I, S, tv, nv, tyT, RawV.tv, R1.row, rowsGet, rowsLen, row4, Vk, Vn, Vs, Vl]
      (with_reducible apply v_call); (· simp only [vcA, Nat.reduceLT, Int.reduceEq, Int.reduceAdd, Int.reduceSub, Nat.reduceBEq, Nat.reduceEqDiff, reduceCtorEq, Nat.reduceAdd, Nat.reduceSub, Nat.reduceMul, Nat.reduceLeDiff, Int.reduceToNat, Int.reduceLT, Int.reduceLE, Int.reduceNeg, reduceIte, I, S, tv, nv, tyT, RawV.tv, R1.row, rowsGet, rowsLen, row4, Vk, Vn, Vs, Vl]; with_reducible rfl); (· exact HN.1); (· first | rfl | (simp only [moOk, nbeq, nble, List.length_nil, beq_self_eq_true, Bool.true_and, Bool.and_true, Bool.and_eq_true, decide_eq_true_eq]; omega)); (· simp only [vcA, Nat.reduceLT, Int.reduceEq, Int.reduceAdd, Int.reduceSub, Nat.reduceBEq, Nat.reduceEqDiff, reduceCtorEq, Nat.reduceAdd, Nat.reduceSub, Nat.reduceMul, Nat.reduceLeDiff, Int.reduceToNat, Int.reduceLT, Int.reduceLE, Int.reduceNeg, reduceIte, I, S, tv, nv, tyT, RawV.tv, R1.row, rowsGet, rowsLen, row4, Vk, Vn, Vs, Vl]; with_reducible rfl)
      simp only [vcA, Nat.reduceLT, Int.reduceEq, Int.reduceAdd, Int.reduceSub, Nat.reduceBEq, Nat.reduceEqDiff, reduceCtorEq, Nat.reduceAdd, Nat.reduceSub, Nat.reduceMul, Nat.reduceLeDiff, Int.reduceToNat, Int.reduceLT, Int.reduceLE, Int.reduceNeg, reduceIte, I, S, tv, nv, tyT, RawV.tv, R1.row, rowsGet, rowsLen, row4, Vk, Vn, Vs, Vl, HN.2]
      rfl
  rw [if_neg e2] at h
  by_cases e3 : k = 3 ∨ k = 4
  · rw [if_pos e3] at h
    cases hn : dNum s b (-20) 100000 with
    | error e =>
      rw [hn] at h; cases h
      have HN := number_err a0 a1 m s b _ _ hs hb hn
      refine ⟨⟨b, call_of hmix tf___val_decoder__value rfl rfl rfl ?_⟩, HN.2⟩
      unfold dec at HK HN ⊢
      rcases e3 with rfl | rfl
      · simp only [vcA, Nat.reduceLT, Int.reduceEq, Int.reduceAdd, Int.reduceSub, Nat.reduceBEq, Nat.reduceEqDiff, reduceCtorEq, Nat.reduceAdd, Nat.reduceSub, Nat.reduceMul, Nat.reduceLeDiff, Int.reduceToNat, Int.reduceLT, Int.reduceLE, Int.reduceNeg, reduceIte, I, S, tv, nv, tyT, RawV.tv, R1.row, rowsGet, rowsLen, row4, Vk, Vn, Vs, Vl]
        (with_reducible apply v_call); (· simp only [vcA, Nat.reduceLT, Int.reduceEq, Int.reduceAdd, Int.reduceSub, Nat.reduceBEq, Nat.reduceEqDiff, reduceCtorEq, Nat.reduceAdd, Nat.reduceSub, Nat.reduceMul, Nat.reduceLeDiff, Int.reduceToNat, Int.reduceLT, Int.reduceLE, Int.reduceNeg, reduceIte, I, S, tv, nv, tyT, RawV.tv, R1.row, rowsGet, rowsLen, row4, Vk, Vn, Vs, Vl]; with_reducible rfl); (· exact HK); (· first | rfl | (simp only [moOk, nbeq, nble, List.length_nil, beq_self_eq_true, Bool.true_and, Bool.and_true, Bool.and_eq_true, decide_eq_true_eq]; omega)); (· simp only [vcA, Nat.reduceLT, Int.reduceEq, Int.reduceAdd, Int.reduceSub, Nat.reduceBEq, Nat.reduceEqDiff, reduceCtorEq, Nat.reduceAdd, Nat.reduceSub, Nat.reduceMul, Nat.reduceLeDiff, Int.reduceToNat, Int.reduceLT, Int.reduceLE, Int.reduceNeg, reduceIte, I, S, tv, nv, tyT, RawV.tv, R1.row, rowsGet, rowsLen, row4, Vk, Vn, Vs, Vl]; with_reducible rfl)
        simp only [vcA, Nat.reduceLT, Int.reduceEq, Int.reduceAdd, Int.reduceSub, Nat.reduceBEq, Nat.reduceEqDiff, reduceCtorEq, Nat.reduceAdd, Nat.reduceSub, Nat.reduceMul, Nat.reduceLeDiff, Int.reduceToNat, Int.reduceLT, Int.reduceLE, Int.reduceNeg, reduceIte, I, S, tv, nv, tyT, RawV.tv, R1.row, rowsGet, rowsLen, row4, Vk, Vn, Vs, Vl]
        (with_reducible apply v_call); (· simp only [vcA, Nat.reduceLT, Int.reduceEq, Int.reduceAdd, Int.reduceSub, Nat.reduceBEq, Nat.reduceEqDiff, reduceCtorEq, Nat.reduceAdd, Nat.reduceSub, Nat.reduceMul, Nat.reduceLeDiff, Int.reduceToNat, Int.reduceLT, Int.reduceLE, Int.reduceNeg, reduceIte, I, S, tv, nv, tyT, RawV.tv, R1.row, rowsGet, rowsLen, row4, Vk, Vn, Vs, Vl]; with_reducible rfl); (· exact HN.1); (· first | rfl | (simp only [moOk, nbeq, nble, List.length_nil, beq_self_eq_true, Bool.true_and, Bool.and_true, Bool.and_eq_true, decide_eq_true_eq]; omega)); (· simp only [vcA, Nat.reduceLT, Int.reduceEq, Int.reduceAdd, Int.reduceSub, Nat.reduceBEq, Nat.reduceEqDiff, reduceCtorEq, Nat.reduceAdd, Nat.reduceSub, Nat.reduceMul, Nat.reduceLeDiff, Int.reduceToNat, Int.reduceLT, Int.reduceLE, Int.reduceNeg, reduceIte, I, S, tv, nv, tyT, RawV.tv, R1.row, rowsGet, rowsLen, row4, Vk, Vn, Vs, Vl]; with_reducible rfl)
        simp only [vcA, Nat.reduceLT, Int.reduceEq, Int.reduceAdd, Int.reduceSub, Nat.reduceBEq, Nat.reduceEqDiff, reduceCtorEq, Nat.reduceAdd, Nat.reduceSub, Nat.reduceMul, Nat.reduceLeDiff, Int.reduceToNat, Int.reduceLT, Int.reduceLE, Int.reduceNeg, reduceIte, I, S, tv, nv, tyT, RawV.tv, R1.row, rowsGet, rowsLen, row4, Vk, Vn, Vs, Vl, HN.2]
        rfl
      · simp only [vcA, Nat.reduceLT, Int.reduceEq, Int.reduceAdd, Int.reduceSub, Nat.reduceBEq, Nat.reduceEqDiff, reduceCtorEq, Nat.reduceAdd, Nat.reduceSub, Nat.reduceMul, Nat.reduceLeDiff, Int.reduceToNat, Int.reduceLT, Int.reduceLE, Int.reduceNeg, reduceIte, I, S, tv, nv, tyT, RawV.tv, R1.row, rowsGet, rowsLen, row4, Vk, Vn, Vs, Vl]
        (with_reducible apply v_call); (· simp only [vcA, Nat.reduceLT, Int.reduceEq, Int.reduceAdd, Int.reduceSub, Nat.reduceBEq, Nat.reduceEqDiff, reduceCtorEq, Nat.reduceAdd, Nat.reduceSub, Nat.reduceMul, Nat.reduceLeDiff, Int.reduceToNat, Int.reduceLT, Int.reduceLE, Int.reduceNeg, reduceIte, I, S, tv, nv, tyT, RawV.tv, R1.row, rowsGet, rowsLen, row4, Vk, Vn, Vs, Vl]; with_reducible rfl); (· exact HK); (· first | rfl | (simp only [moOk, nbeq, nble, List.length_nil, beq_self_eq_true, Bool.true_and, Bool.and_true, Bool.and_eq_true, decide_eq_true_eq]; omega)); (· simp only [vcA, Nat.reduceLT, Int.reduceEq, Int.reduceAdd, Int.reduceSub, Nat.reduceBEq, Nat.reduceEqDiff, reduceCtorEq, Nat.reduceAdd, Nat.reduceSub, Nat.reduceMul, Nat.reduceLeDiff, Int.reduceToNat, Int.reduceLT, Int.reduceLE, Int.reduceNeg, reduceIte, I, S, tv, nv, tyT, RawV.tv, R1.row, rowsGet, rowsLen, row4, Vk, Vn, Vs, Vl]; with_reducible rfl)
        simp only [vcA, Nat.reduceLT, Int.reduceEq, Int.reduceAdd, Int.reduceSub, Nat.reduceBEq, Nat.reduceEqDiff, reduceCtorEq, Nat.reduceAdd, Nat.reduceSub, Nat.reduceMul, Nat.reduceLeDiff, Int.reduceToNat, Int.reduceLT, Int.reduceLE, Int.reduceNeg, reduceIte, I, S, tv, nv, tyT, RawV.tv, R1.row, rowsGet, rowsLen, row4, Vk, Vn, Vs, Vl]
        (with_reducible apply v_call); (· simp only [vcA, Nat.reduceLT, Int.reduceEq, Int.reduceAdd, Int.reduceSub, Nat.reduceBEq, Nat.reduceEqDiff, reduceCtorEq, Nat.reduceAdd, Nat.reduceSub, Nat.reduceMul, Nat.reduceLeDiff, Int.reduceToNat, Int.reduceLT, Int.reduceLE, Int.reduceNeg, reduceIte, I, S, tv, nv, tyT, RawV.tv, R1.row, rowsGet, rowsLen, row4, Vk, Vn, Vs, Vl]; with_reducible rfl); (· exact HN.1); (· first | rfl | (simp only [moOk, nbeq, nble, List.length_nil, beq_self_eq_true, Bool.true_and, Bool.and_true, Bool.and_eq_true, decide_eq_true_eq]; omega)); (· simp only [vcA, Nat.reduceLT, Int.reduceEq, Int.reduceAdd, Int.reduceSub, Nat.reduceBEq, Nat.reduceEqDiff, reduceCtorEq, Nat.reduceAdd, Nat.reduceSub, Nat.reduceMul, Nat.reduceLeDiff, Int.reduceToNat, Int.reduceLT, Int.reduceLE, Int.reduceNeg, reduceIte, I, S, tv, nv, tyT, RawV.tv, R1.row, rowsGet, rowsLen, row4, Vk, Vn, Vs, Vl]; with_reducible rfl)
        simp only [vcA, Nat.reduceLT, Int.reduceEq, Int.reduceAdd, Int.reduceSub, Nat.reduceBEq, Nat.reduceEqDiff, reduceCtorEq, Nat.reduceAdd, Nat.reduceSub, Nat.reduceMul, Nat.reduceLeDiff, Int.reduceToNat, Int.reduceLT, Int.reduceLE, Int.reduceNeg, reduceIte, I, S, tv, nv, tyT, RawV.tv, R1.row, rowsGet, rowsLen, row4, Vk, Vn, Vs, Vl, HN.2]
        rfl
    | ok q =>
      obtain ⟨n, c'⟩ := q
      rw [hn] at h
      simp only [] at h
      by_cases hz : n = 0
      · rw [if_pos hz] at h; cases h
        have HN := number_ok a0 a1 m s b _ _ hs hb hn
        refine ⟨⟨c', call_of hmix tf___val_decoder__value rfl rfl rfl ?_⟩, by decide⟩
        unfold dec at HK HN ⊢
        rcases e3 with rfl | rfl
        · simp only [vcA, Nat.reduceLT, Int.reduceEq, Int.reduceAdd, Int.reduceSub, Nat.reduceBEq, Nat.reduceEqDiff, reduceCtorEq, Nat.reduceAdd, Nat.reduceSub, Nat.reduceMul, Nat.reduceLeDiff, Int.reduceToNat, Int.reduceLT, Int.reduceLE, Int.reduceNeg, reduceIte, I, S, tv, nv, tyT, RawV.tv, R1.row, rowsGet, rowsLen, row4, Vk, Vn, Vs, Vl]
          (with_reducible apply v_call); (· simp only [vcA, Nat.reduceLT, Int.reduceEq, Int.reduceAdd, Int.reduceSub, Nat.reduceBEq, Nat.reduceEqDiff, reduceCtorEq, Nat.reduceAdd, Nat.reduceSub, Nat.reduceMul, Nat.reduceLeDiff, Int.reduceToNat, Int.reduceLT, Int.reduceLE, Int.reduceNeg, reduceIte, I, S, tv, nv, tyT, RawV.tv, R1.row, rowsGet, rowsLen, row4, Vk, Vn, Vs, Vl]; with_reducible rfl); (· exact HK); (· first | rfl | (simp only [moOk, nbeq, nble, List.length_nil, beq_self_eq_true, Bool.true_and, Bool.and_true, Bool.and_eq_true, decide_eq_true_eq]; omega)); (· simp only [vcA, Nat.reduceLT, Int.reduceEq, Int.reduceAdd, Int.reduceSub, Nat.reduceBEq, Nat.reduceEqDiff, reduceCtorEq, Nat.reduceAdd, Nat.reduceSub, Nat.reduceMul, Nat.reduceLeDiff, Int.reduceToNat, Int.reduceLT, Int.reduceLE, Int.reduceNeg, reduceIte, I, S, tv, nv, tyT, RawV.tv, R1.row, rowsGet, rowsLen, row4, Vk, Vn, Vs, Vl]; with_reducible rfl)
          simp only [vcA, Nat.reduceLT, Int.reduceEq, Int.reduceAdd, Int.reduceSub, Nat.reduceBEq, Nat.reduceEqDiff, reduceCtorEq, Nat.reduceAdd, Nat.reduceSub, Nat.reduceMul, Nat.reduceLeDiff, Int.reduceToNat, Int.reduceLT, Int.reduceLE, Int.reduceNeg, reduceIte, I, S, tv, nv, tyT, RawV.tv, R1.row, rowsGet, rowsLen, row4, Vk, Vn, Vs, Vl]
          (with_reducible apply v_call); (· simp only [vcA, Nat.reduceLT, Int.reduceEq, Int.reduceAdd, Int.reduceSub, Nat.reduceBEq, Nat.reduceEqDiff, reduceCtorEq, Nat.reduceAdd, Nat.reduceSub, Nat.reduceMul, Nat.reduceLeDiff, Int.reduceToNat, Int.reduceLT, Int.reduceLE, Int.reduceNeg, reduceIte, I, S, tv, nv, tyT, RawV.tv, R1.row, rowsGet, rowsLen, row4, Vk, Vn, Vs, Vl]; with_reducible rfl); (· exact HN); (· first | rfl | (simp only [moOk, nbeq, nble, List.length_nil, beq_self_eq_true, Bool.true_and, Bool.and_true, Bool.and_eq_true, decide_eq_true_eq]; omega)); (· simp only [vcA, Nat.reduceLT, Int.reduceEq, Int.reduceAdd, Int.reduceSub, Nat.reduceBEq, Nat.reduceEqDiff, reduceCtorEq, Nat.reduceAdd, Nat.reduceSub, Nat.reduceMul, Nat.reduceLeDiff, Int.reduceToNat, Int.reduceLT, Int.reduceLE, Int.reduceNeg, reduceIte, I, S, tv, nv, tyT, RawV.tv, R1.row, rowsGet, rowsLen, row4, Vk, Vn, Vs, Vl]; with_reducible rfl)
          simp only [vcA, Nat.reduceLT, Int.reduceEq, Int.reduceAdd, Int.reduceSub, Nat.reduceBEq, Nat.reduceEqDiff, reduceCtorEq, Nat.reduceAdd, Nat.reduceSub, Nat.reduceMul, Nat.reduceLeDiff, Int.reduceToNat, Int.reduceLT, Int.reduceLE, Int.reduceNeg, reduceIte, I, S, tv, nv, tyT, RawV.tv, R1.row, rowsGet, rowsLen, row4, Vk, Vn, Vs, Vl, hz]
          rfl
        · simp only [vcA, Nat.reduceLT, Int.reduceEq, Int.reduceAdd, Int.reduceSub, Nat.reduceBEq, Nat.reduceEqDiff, reduceCtorEq, Nat.reduceAdd, Nat.reduceSub, Nat.reduceMul, Nat.reduceLeDiff, Int.reduceToNat, Int.reduceLT, Int.reduceLE, Int.reduceNeg, reduceIte, I, S, tv, nv, tyT, RawV.tv, R1.row, rowsGet, rowsLen, row4, Vk, Vn, Vs, Vl]
          (with_reducible apply v_call); (· simp only [vcA, Nat.reduceLT, Int.reduceEq, Int.reduceAdd, Int.reduceSub, Nat.reduceBEq, Nat.reduceEqDiff, reduceCtorEq, Nat.reduceAdd, Nat.reduceSub, Nat.reduceMul, Nat.reduceLeDiff, Int.reduceToNat, Int.reduceLT, Int.reduceLE, Int.reduceNeg, reduceIte, I, S, tv, nv, tyT, RawV.tv, R1.row, rowsGet, rowsLen, row4, Vk, Vn, Vs, Vl]; with_reducible rfl); (· exact HK); (· first | rfl | (simp only [moOk, nbeq, nble, List.length_nil, beq_self_eq_true, Bool.true_and, Bool.and_true, Bool.and_eq_true, decide_eq_true_eq]; omega)); (· simp only [vcA, Nat.reduceLT, Int.reduceEq, Int.reduceAdd, Int.reduceSub, Nat.reduceBEq, Nat.reduceEqDiff, reduceCtorEq, Nat.reduceAdd, Nat.reduceSub, Nat.reduceMul, Nat.reduceLeDiff, Int.reduceToNat, Int.reduceLT, Int.reduceLE, Int.reduceNeg, reduceIte, I, S, tv, nv, tyT, RawV.tv, R1.row, rowsGet, rowsLen, row4, Vk, Vn, Vs, Vl]; with_reducible rfl)
          simp only [vcA, Nat.reduceLT, Int.reduceEq, Int.reduceAdd, Int.reduceSub, Nat.reduceBEq, Nat.reduceEqDiff, reduceCtorEq, Nat.reduceAdd, Nat.reduceSub, Nat.reduceMul, Nat.reduceLeDiff, Int.reduceToNat, Int.reduceLT, Int.reduceLE, Int.reduceNeg, reduceIte, I, S, tv, nv, tyT, RawV.tv, R1.row, rowsGet, rowsLen, row4, Vk, Vn, Vs, Vl]
          (with_reducible apply v_call); (· simp only [vcA, Nat.reduceLT, Int.reduceEq, Int.reduceAdd, Int.reduceSub, Nat.reduceBEq, Nat.reduceEqDiff, reduceCtorEq, Nat.reduceAdd, Nat.reduceSub, Nat.reduceMul, Nat.reduceLeDiff, Int.reduceToNat, Int.reduceLT, Int.reduceLE, Int.reduceNeg, reduceIte, I, S, tv, nv, tyT, RawV.tv, R1.row, rowsGet, rowsLen, row4, Vk, Vn, Vs, Vl]; with_reducible rfl); (· exact HN); (· first | rfl | (simp only [moOk, nbeq, nble, List.length_nil, beq_self_eq_true, Bool.true_and, Bool.and_true, Bool.and_eq_true, decide_eq_true_eq]; omega)); (· simp only [vcA, Nat.reduceLT, Int.reduceEq, Int.reduceAdd, Int.reduceSub, Nat.reduceBEq, Nat.reduceEqDiff, reduceCtorEq, Nat.reduceAdd, Nat.reduceSub, Nat.reduceMul, Nat.reduceLeDiff, Int.reduceToNat, Int.reduceLT, Int.reduceLE, Int.reduceNeg, reduceIte, I, S, tv, nv, tyT, RawV.tv, R1.row, rowsGet, rowsLen, row4, Vk, Vn, Vs, Vl]; with_reducible rfl)
          simp only [vcA, Nat.reduceLT, Int.reduceEq, Int.reduceAdd, Int.reduceSub, Nat.reduceBEq, Nat.reduceEqDiff, reduceCtorEq, Nat.reduceAdd, Nat.reduceSub, Nat.reduceMul, Nat.reduceLeDiff, Int.reduceToNat, Int.reduceLT, Int.reduceLE, Int.reduceNeg, reduceIte, I, S, tv, nv, tyT, RawV.tv, R1.row, rowsGet, rowsLen, row4, Vk, Vn, Vs, Vl, hz]
          rfl
      · rw [if_neg hz] at h; cases h
  rw [if_neg e3] at h; cases h
end Go.Proofs.YtdlolkogifigpaaDoor
end

section
/- Values of bytes: lists, and Decode. No statement of the program is proved here. -/
namespace Go.Proofs.YtdlolkogifigpaaDoor
open Go Go.RowKit Go.Mor Go.Sh Go.Sh.Cd1
set_option maxRecDepth 100000
set_option maxHeartbeats 2000000
theorem dVal1_at {s : List UInt8} {a b : Int} {v : V} (hs : SmallS s) (h : dVal1 s a = .ok (v, b)) : I64 b ∧ v.l = [] := by
  unfold dVal1 at h
  cases hk : dNum s a 0 4 with
  | error e => rw [hk] at h; cases h
  | ok q =>
    obtain ⟨k, c⟩ := q
    rw [hk] at h
    have hc := (dNum_pos hs hk).1
    simp only [dRest] at h
    by_cases e1 : k = 1
    · rw [if_pos e1] at h
      cases hn : dNum s c (-1000000000000000) 1000000000000000 with
      | error e => rw [hn] at h; cases h
      | ok q => obtain ⟨n, c'⟩ := q; rw [hn] at h; cases h; exact ⟨(dNum_pos hs hn).1, rfl⟩
    rw [if_neg e1] at h
    by_cases e2 : k = 2
    · rw [if_pos e2] at h
      cases hn : dText s c with
      | error e => rw [hn] at h; cases h
      | ok q =>
        obtain ⟨n, c'⟩ := q
        rw [hn] at h; cases h
        unfold dText at hn
        cases hr : readText s c with
        | none => rw [hr] at hn; cases hn
        | some q =>
          obtain ⟨t', b'⟩ := q
          rw [hr] at hn
          have hb := readText_bound hr
          simp only [] at hn
          by_cases hh : rightText t' = true
          · rw [if_pos hh] at hn; cases hn
            unfold SmallS at hs
            refine ⟨by unfold I64; omega, rfl⟩
          · rw [if_neg hh] at hn; cases hn
    rw [if_neg e2] at h
    by_cases e3 : k = 3 ∨ k = 4
    · rw [if_pos e3] at h
      cases hn : dNum s c (-20) 100000 with
      | error e => rw [hn] at h; cases h
      | ok q =>
        obtain ⟨n, c'⟩ := q
        rw [hn] at h
        simp only [] at h
        by_cases hz : n = 0
        · rw [if_pos hz] at h; cases h
        · rw [if_neg hz] at h; cases h; exact ⟨(dNum_pos hs hn).1, rfl⟩
    rw [if_neg e3] at h; cases h
    exact ⟨hc, rfl⟩
theorem val4_ok (a0 a1 : Addr) (m : Nat) (s : List UInt8) (a : Int) (hs : SmallS s) (ha : I64 a) {v : V} {b : Int} (h : dVal1 s a = .ok (v, b)) :
    SCalls Tryd.prog (gl a0 a1 m) 60 [.ptr 1000 0, I 4] [dec s a] (.tuple [nv v, I 0]) [dec s b] := by
  unfold dVal1 at h
  cases hk : dNum s a 0 4 with
  | error e => rw [hk] at h; cases h
  | ok q =>
    obtain ⟨k, c⟩ := q
    rw [hk] at h
    exact value1_ok a0 a1 m s a 4 hs ha hk (by have := (dNum_inv hk).2; omega) h
theorem val4_err (a0 a1 : Addr) (m : Nat) (s : List UInt8) (a : Int) (hs : SmallS s) (ha : I64 a) {e : Int} (h : dVal1 s a = .error e) :
    (∃ c, SCalls Tryd.prog (gl a0 a1 m) 60 [.ptr 1000 0, I 4] [dec s a] (.tuple [nv V.nil, I e]) [dec s c]) ∧ e ≠ 0 := by
  unfold dVal1 at h
  cases hk : dNum s a 0 4 with
  | error e =>
    rw [hk] at h; cases h
    have := value_err0 a0 a1 m s a 4 hs ha hk
    exact ⟨⟨a, this.1⟩, this.2⟩
  | ok q =>
    obtain ⟨k, c⟩ := q
    rw [hk] at h
    exact value1_err a0 a1 m s a 4 hs ha hk (by have := (dNum_inv hk).2; omega) h
theorem pwk_rowV (l : List V) (v : V) (hv : v.l = []) : PWk (.sl 4 (V.rows l ++ [[.v (.int .i64 v.k), .v (.int .i64 v.n), .v (.string (str v.s)), .v (.slice none 0 0)]])) (.sl 4 (V.rows (l ++ [v]))) := by
  rw [rowsApp, rowNil hv]
  refine pwk_last rfl (fun j c d h1 h2 => ?_)
  match j with
  | 0 => simp at h1 h2; subst h1; subst h2; exact .refl _
  | 1 => simp at h1 h2; subst h1; subst h2; exact .refl _
  | 2 => simp at h1 h2; subst h1; subst h2; exact .refl _
  | 3 => simp at h1 h2; subst h1; subst h2; exact pwk_nil 4
  | j + 4 => simp at h1
theorem items_ok (a0 a1 : Addr) (m : Nat) (s : List UInt8) (a : Int) (hs : SmallS s) (ha : I64 a) {l : List V} {c : Int} (h : dItems s a = .ok (l, c)) :
    SCalls Tryd.prog (gl a0 a1 m) 90 [.ptr 1000 0] [dec s a] (.tuple [.pv (.sl 4 (V.rows l)), I 0]) [dec s c] := by
  unfold dItems at h
  cases hk : dNum s a 0 12 with
  | error e => rw [hk] at h; cases h
  | ok q =>
    obtain ⟨n, b⟩ := q
    rw [hk] at h
    simp only [] at h
    have HK := number_ok a0 a1 m s a 0 12 hs ha hk
    have hb := (dNum_pos hs hk).1
    have hn := (dNum_inv hk).2
    obtain ⟨N, rfl⟩ : ∃ N : Nat, n = N := ⟨n.toNat, by omega⟩
    rw [Int.toNat_natCast] at h
    have hm : maxLen = 9223372036854775807 := rfl
    refine call_of hmix tf___val_decoder__items rfl rfl rfl ?_
    unfold dec at HK ⊢
    simp only [vcA, Nat.reduceLT, Int.reduceEq, Int.reduceAdd, Int.reduceSub, Nat.reduceBEq, Nat.reduceEqDiff, reduceCtorEq, Nat.reduceAdd, Nat.reduceSub, Nat.reduceMul, Nat.reduceLeDiff, Int.reduceToNat, Int.reduceLT, Int.reduceLE, Int.reduceNeg, reduceIte, I, S, tv, nv, tyT, RawV.tv, R1.row, rowsGet, rowsLen, row4, Vk, Vn, Vs, Vl]
    (with_reducible apply v_call); (· simp only [vcA, Nat.reduceLT, Int.reduceEq, Int.reduceAdd, Int.reduceSub, Nat.reduceBEq, Nat.reduceEqDiff, reduceCtorEq, Nat.reduceAdd, Nat.reduceSub, Nat.reduceMul, Nat.reduceLeDiff, Int.reduceToNat, Int.reduceLT, Int.reduceLE, Int.reduceNeg, reduceIte, I, S, tv, nv, tyT, RawV.tv, R1.row, rowsGet, rowsLen, row4, Vk, Vn, Vs, Vl]; with_reducible rfl); (· exact HK); (· first | rfl | (simp only [moOk, nbeq, nble, List.length_nil, beq_self_eq_true, Bool.true_and, Bool.and_true, Bool.and_eq_true, decide_eq_true_eq]; omega)); (· simp only [vcA, Nat.reduceLT, Int.reduceEq, Int.reduceAdd, Int.reduceSub, Nat.reduceBEq, Nat.reduceEqDiff, reduceCtorEq, Nat.reduceAdd, Nat.reduceSub, Nat.reduceMul, Nat.reduceLeDiff, Int.reduceToNat, Int.reduceLT, Int.reduceLE, Int.reduceNeg, reduceIte, I, S, tv, nv, tyT, RawV.tv, R1.row, rowsGet, rowsLen, row4, Vk, Vn, Vs, Vl]; with_reducible rfl)
    simp only [vcA, Nat.reduceLT, Int.reduceEq, Int.reduceAdd, Int.reduceSub, Nat.reduceBEq, Nat.reduceEqDiff, reduceCtorEq, Nat.reduceAdd, Nat.reduceSub, Nat.reduceMul, Nat.reduceLeDiff, Int.reduceToNat, Int.reduceLT, Int.reduceLE, Int.reduceNeg, reduceIte, I, S, tv, nv, tyT, RawV.tv, R1.row, rowsGet, rowsLen, row4, Vk, Vn, Vs, Vl]
    refine v_loop (σ := { q : Nat × Int × List V // q.1 ≤ N ∧ q.2.2.length = q.1 ∧ I64 q.2.1 ∧ dLoop s (N - q.1) q.2.1 q.2.2 = .ok (l, c) })
      (fun q => ⟨[(0, .ptr 1000 0), (6, .own 3000 4 (V.rows q.1.2.2)), (17, I (N : Int)), (18, I (q.1.1 : Int))], [(1000, [S (str s), I q.1.2.1])], [(3000, (31, 4, q.1.1))], []⟩)
      (fun q => N - q.1.1) ⟨(0, b, []), Nat.zero_le _, rfl, hb, h⟩ ?_ ?_
    · refine ES.Lw.trans ?_ (adT_lw (k := 6) (d := 3000) (e := 31) (W := 4) (.inr (by decide)) rfl)
      exact lw_eq rfl
    rintro ⟨⟨i, a', l'⟩, hi, hl, ha', hd⟩
    simp only at hi hl ha' hd
    simp only [vcA, Nat.reduceLT, Int.reduceEq, Int.reduceAdd, Int.reduceSub, Nat.reduceBEq, Nat.reduceEqDiff, reduceCtorEq, Nat.reduceAdd, Nat.reduceSub, Nat.reduceMul, Nat.reduceLeDiff, Int.reduceToNat, Int.reduceLT, Int.reduceLE, Int.reduceNeg, reduceIte, I, S, tv, nv, tyT, RawV.tv, R1.row, rowsGet, rowsLen, row4, Vk, Vn, Vs, Vl]
    refine ⟨fun hlt => ?_, fun hge => ?_⟩
    · obtain ⟨r, hr⟩ : ∃ r, N - i = r + 1 := ⟨N - i - 1, by omega⟩
      have hr' : N - (i + 1) = r := by omega
      rw [hr] at hd
      simp only [dLoop] at hd
      rw [← hr'] at hd
      cases hv : dVal1 s a' with
      | error e => rw [hv] at hd; cases hd
      | ok q =>
      obtain ⟨v, b'⟩ := q
      · have HV := val4_ok a0 a1 m s a' hs ha' hv
        obtain ⟨hb', hvl⟩ := dVal1_at hs hv
        unfold dec at HV
        (with_reducible apply v_call); (· simp only [vcA, Nat.reduceLT, Int.reduceEq, Int.reduceAdd, Int.reduceSub, Nat.reduceBEq, Nat.reduceEqDiff, reduceCtorEq, Nat.reduceAdd, Nat.reduceSub, Nat.reduceMul, Nat.reduceLeDiff, Int.reduceToNat, Int.reduceLT, Int.reduceLE, Int.reduceNeg, reduceIte, I, S, tv, nv, tyT, RawV.tv, R1.row, rowsGet, rowsLen, row4, Vk, Vn, Vs, Vl]; with_reducible rfl); (· exact HV); (· first | rfl | (simp only [moOk, nbeq, nble, List.length_nil, beq_self_eq_true, Bool.true_and, Bool.and_true, Bool.and_eq_true, decide_eq_true_eq]; omega)); (· simp only [vcA, Nat.reduceLT, Int.reduceEq, Int.reduceAdd, Int.reduceSub, Nat.reduceBEq, Nat.reduceEqDiff, reduceCtorEq, Nat.reduceAdd, Nat.reduceSub, Nat.reduceMul, Nat.reduceLeDiff, Int.reduceToNat, Int.reduceLT, Int.reduceLE, Int.reduceNeg, reduceIte, I, S, tv, nv, tyT, RawV.tv, R1.row, rowsGet, rowsLen, row4, Vk, Vn, Vs, Vl]; with_reducible rfl)
        simp only [vcA, Nat.reduceLT, Int.reduceEq, Int.reduceAdd, Int.reduceSub, Nat.reduceBEq, Nat.reduceEqDiff, reduceCtorEq, Nat.reduceAdd, Nat.reduceSub, Nat.reduceMul, Nat.reduceLeDiff, Int.reduceToNat, Int.reduceLT, Int.reduceLE, Int.reduceNeg, reduceIte, I, S, tv, nv, tyT, RawV.tv, R1.row, rowsGet, rowsLen, row4, Vk, Vn, Vs, Vl, hl]
        refine ⟨⟨by omega, by omega⟩, ?_⟩
        refine loopK_of ⟨(i + 1, b', l' ++ [v]), by show i + 1 ≤ N; omega, by simp [hl], hb', by rw [hv] at hd; exact hd⟩ (by show N - (i + 1) < N - i; omega) ?_
        have w1 : IntKind.i64.wrap ((i : Int) + 1) = (i : Int) + 1 := wrap64 (by omega) (by omega)
        refine ES.Lw.trans ?_ (reT_lw (k := 6) (y := .own 3000 4 (V.rows (l' ++ [v]))) rfl (wk_own (by simp [rowsLen]) (pwk_rowV l' v hvl)))
        apply lw_of <;> simp [leL, lk, sv, Nat.beq, I, S, ES.kill, has, drp, nilT, w1]
    · obtain rfl : i = N := by omega
      rw [Nat.sub_self] at hd
      cases hd
      rfl
/-- A loop that stops at a value that is none, at the place c. -/
def Stops (a0 a1 : Addr) (m : Nat) (s : List UInt8) (e c : Int) : Nat → Int → List V → Prop
  | 0, _, _ => False
  | n + 1, a, l => (∃ v b, dVal1 s a = .ok (v, b) ∧ Stops a0 a1 m s e c n b (l ++ [v])) ∨ SCalls Tryd.prog (gl a0 a1 m) 60 [.ptr 1000 0, I 4] [dec s a] (.tuple [nv V.nil, I e]) [dec s c]
theorem dLoop_err (a0 a1 : Addr) (m : Nat) (s : List UInt8) (hs : SmallS s) {e : Int} : ∀ (n : Nat) (a : Int) (l : List V), I64 a → dLoop s n a l = .error e → ∃ c, Stops a0 a1 m s e c n a l ∧ e ≠ 0
  | 0, a, l, _, h => by simp [dLoop] at h
  | n + 1, a, l, ha, h => by
    simp only [dLoop] at h
    cases hv : dVal1 s a with
    | error e' =>
      rw [hv] at h; cases h
      obtain ⟨⟨c, hc⟩, he⟩ := val4_err a0 a1 m s a hs ha hv
      exact ⟨c, .inr hc, he⟩
    | ok q =>
      obtain ⟨v, b⟩ := q
      rw [hv] at h
      obtain ⟨c, hc, he⟩ := dLoop_err a0 a1 m s hs n b (l ++ [v]) (dVal1_at hs hv).1 h
      exact ⟨c, .inl ⟨v, b, hv, hc⟩, he⟩
theorem items_err (a0 a1 : Addr) (m : Nat) (s : List UInt8) (a : Int) (hs : SmallS s) (ha : I64 a) {e : Int} (h : dItems s a = .error e) :
    (∃ c, SCalls Tryd.prog (gl a0 a1 m) 90 [.ptr 1000 0] [dec s a] (.tuple [nilT, I e]) [dec s c]) ∧ e ≠ 0 := by
  unfold dItems at h
  cases hk : dNum s a 0 12 with
  | error e =>
    rw [hk] at h; cases h
    have HK := number_err a0 a1 m s a 0 12 hs ha hk
    refine ⟨⟨a, call_of hmix tf___val_decoder__items rfl rfl rfl ?_⟩, HK.2⟩
    unfold dec at HK ⊢
    simp only [vcA, Nat.reduceLT, Int.reduceEq, Int.reduceAdd, Int.reduceSub, Nat.reduceBEq, Nat.reduceEqDiff, reduceCtorEq, Nat.reduceAdd, Nat.reduceSub, Nat.reduceMul, Nat.reduceLeDiff, Int.reduceToNat, Int.reduceLT, Int.reduceLE, Int.reduceNeg, reduceIte, I, S, tv, nv, tyT, RawV.tv, R1.row, rowsGet, rowsLen, row4, Vk, Vn, Vs, Vl]
    (with_reducible apply v_call); (· simp only [vcA, Nat.reduceLT, Int.reduceEq, Int.reduceAdd, Int.reduceSub, Nat.reduceBEq, Nat.reduceEqDiff, reduceCtorEq, Nat.reduceAdd, Nat.reduceSub, Nat.reduceMul, Nat.reduceLeDiff, Int.reduceToNat, Int.reduceLT, Int.reduceLE, Int.reduceNeg, reduceIte, I, S, tv, nv, tyT, RawV.tv, R1.row, rowsGet, rowsLen, row4, Vk, Vn, Vs, Vl]; with_reducible rfl); (· exact HK.1); (· first | rfl | (simp only [moOk, nbeq, nble, List.length_nil, beq_self_eq_true, Bool.true_and, Bool.and_true, Bool.and_eq_true, decide_eq_true_eq]; omega)); (· simp only [vcA, Nat.reduceLT, Int.reduceEq, Int.reduceAdd, Int.reduceSub, Nat.reduceBEq, Nat.reduceEqDiff, reduceCtorEq, Nat.reduceAdd, Nat.reduceSub, Nat.reduceMul, Nat.reduceLeDiff, Int.reduceToNat, Int.reduceLT, Int.reduceLE, Int.reduceNeg, reduceIte, I, S, tv, nv, tyT, RawV.tv, R1.row, rowsGet, rowsLen, row4, Vk, Vn, Vs, Vl]; with_reducible rfl)
    simp only [vcA, Nat.reduceLT, Int.reduceEq, Int.reduceAdd, Int.reduceSub, Nat.reduceBEq, Nat.reduceEqDiff, reduceCtorEq, Nat.reduceAdd, Nat.reduceSub, Nat.reduceMul, Nat.reduceLeDiff, Int.reduceToNat, Int.reduceLT, Int.reduceLE, Int.reduceNeg, reduceIte, I, S, tv, nv, tyT, RawV.tv, R1.row, rowsGet, rowsLen, row4, Vk, Vn, Vs, Vl, HK.2]
    rfl
  | ok q =>
    obtain ⟨n, b⟩ := q
    rw [hk] at h
    simp only [] at h
    have HK := number_ok a0 a1 m s a 0 12 hs ha hk
    have hb := (dNum_pos hs hk).1
    have hn := (dNum_inv hk).2
    obtain ⟨N, rfl⟩ : ∃ N : Nat, n = N := ⟨n.toNat, by omega⟩
    rw [Int.toNat_natCast] at h
    have hm : maxLen = 9223372036854775807 := rfl
    obtain ⟨c, HE, he⟩ := dLoop_err a0 a1 m s hs N b [] hb h
    refine ⟨⟨c, call_of hmix tf___val_decoder__items rfl rfl rfl ?_⟩, he⟩
    unfold dec at HK ⊢
    simp only [vcA, Nat.reduceLT, Int.reduceEq, Int.reduceAdd, Int.reduceSub, Nat.reduceBEq, Nat.reduceEqDiff, reduceCtorEq, Nat.reduceAdd, Nat.reduceSub, Nat.reduceMul, Nat.reduceLeDiff, Int.reduceToNat, Int.reduceLT, Int.reduceLE, Int.reduceNeg, reduceIte, I, S, tv, nv, tyT, RawV.tv, R1.row, rowsGet, rowsLen, row4, Vk, Vn, Vs, Vl]
    (with_reducible apply v_call); (· simp only [vcA, Nat.reduceLT, Int.reduceEq, Int.reduceAdd, Int.reduceSub, Nat.reduceBEq, Nat.reduceEqDiff, reduceCtorEq, Nat.reduceAdd, Nat.reduceSub, Nat.reduceMul, Nat.reduceLeDiff, Int.reduceToNat, Int.reduceLT, Int.reduceLE, Int.reduceNeg, reduceIte, I, S, tv, nv, tyT, RawV.tv, R1.row, rowsGet, rowsLen, row4, Vk, Vn, Vs, Vl]; with_reducible rfl); (· exact HK); (· first | rfl | (simp only [moOk, nbeq, nble, List.length_nil, beq_self_eq_true, Bool.true_and, Bool.and_true, Bool.and_eq_true, decide_eq_true_eq]; omega)); (· simp only [vcA, Nat.reduceLT, Int.reduceEq, Int.reduceAdd, Int.reduceSub, Nat.reduceBEq, Nat.reduceEqDiff, reduceCtorEq, Nat.reduceAdd, Nat.reduceSub, Nat.reduceMul, Nat.reduceLeDiff, Int.reduceToNat, Int.reduceLT, Int.reduceLE, Int.reduceNeg, reduceIte, I, S, tv, nv, tyT, RawV.tv, R1.row, rowsGet, rowsLen, row4, Vk, Vn, Vs, Vl]; with_reducible rfl)
    simp only [vcA, Nat.reduceLT, Int.reduceEq, Int.reduceAdd, Int.reduceSub, Nat.reduceBEq, Nat.reduceEqDiff, reduceCtorEq, Nat.reduceAdd, Nat.reduceSub, Nat.reduceMul, Nat.reduceLeDiff, Int.reduceToNat, Int.reduceLT, Int.reduceLE, Int.reduceNeg, reduceIte, I, S, tv, nv, tyT, RawV.tv, R1.row, rowsGet, rowsLen, row4, Vk, Vn, Vs, Vl]
    refine v_loop (σ := { q : Nat × Int × List V // q.1 ≤ N ∧ q.2.2.length = q.1 ∧ I64 q.2.1 ∧ Stops a0 a1 m s e c (N - q.1) q.2.1 q.2.2 })
      (fun q => ⟨[(0, .ptr 1000 0), (6, .own 3000 4 (V.rows q.1.2.2)), (17, I (N : Int)), (18, I (q.1.1 : Int))], [(1000, [S (str s), I q.1.2.1])], [(3000, (31, 4, q.1.1))], []⟩)
      (fun q => N - q.1.1) ⟨(0, b, []), Nat.zero_le _, rfl, hb, HE⟩ ?_ ?_
    · refine ES.Lw.trans ?_ (adT_lw (k := 6) (d := 3000) (e := 31) (W := 4) (.inr (by decide)) rfl)
      exact lw_eq rfl
    rintro ⟨⟨i, a', l'⟩, hi, hl, ha', hd⟩
    simp only at hi hl ha' hd
    simp only [vcA, Nat.reduceLT, Int.reduceEq, Int.reduceAdd, Int.reduceSub, Nat.reduceBEq, Nat.reduceEqDiff, reduceCtorEq, Nat.reduceAdd, Nat.reduceSub, Nat.reduceMul, Nat.reduceLeDiff, Int.reduceToNat, Int.reduceLT, Int.reduceLE, Int.reduceNeg, reduceIte, I, S, tv, nv, tyT, RawV.tv, R1.row, rowsGet, rowsLen, row4, Vk, Vn, Vs, Vl]
    refine ⟨fun hlt => ?_, fun hge => ?_⟩
    · obtain ⟨r, hr⟩ : ∃ r, N - i = r + 1 := ⟨N - i - 1, by omega⟩
      have hr' : N - (i + 1) = r := by omega
      rw [hr] at hd
      simp only [Stops] at hd
      rw [← hr'] at hd
      rcases hd with ⟨v, b', hv, hd⟩ | HV
      · have HV := val4_ok a0 a1 m s a' hs ha' hv
        obtain ⟨hb', hvl⟩ := dVal1_at hs hv
        unfold dec at HV
        (with_reducible apply v_call); (· simp only [vcA, Nat.reduceLT, Int.reduceEq, Int.reduceAdd, Int.reduceSub, Nat.reduceBEq, Nat.reduceEqDiff, reduceCtorEq, Nat.reduceAdd, Nat.reduceSub, Nat.reduceMul, Nat.reduceLeDiff, Int.reduceToNat, Int.reduceLT, Int.reduceLE, Int.reduceNeg, reduceIte, I, S, tv, nv, tyT, RawV.tv, R1.row, rowsGet, rowsLen, row4, Vk, Vn, Vs, Vl]; with_reducible rfl); (· exact HV); (· first | rfl | (simp only [moOk, nbeq, nble, List.length_nil, beq_self_eq_true, Bool.true_and, Bool.and_true, Bool.and_eq_true, decide_eq_true_eq]; omega)); (· simp only [vcA, Nat.reduceLT, Int.reduceEq, Int.reduceAdd, Int.reduceSub, Nat.reduceBEq, Nat.reduceEqDiff, reduceCtorEq, Nat.reduceAdd, Nat.reduceSub, Nat.reduceMul, Nat.reduceLeDiff, Int.reduceToNat, Int.reduceLT, Int.reduceLE, Int.reduceNeg, reduceIte, I, S, tv, nv, tyT, RawV.tv, R1.row, rowsGet, rowsLen, row4, Vk, Vn, Vs, Vl]; with_reducible rfl)
        simp only [vcA, Nat.reduceLT, Int.reduceEq, Int.reduceAdd, Int.reduceSub, Nat.reduceBEq, Nat.reduceEqDiff, reduceCtorEq, Nat.reduceAdd, Nat.reduceSub, Nat.reduceMul, Nat.reduceLeDiff, Int.reduceToNat, Int.reduceLT, Int.reduceLE, Int.reduceNeg, reduceIte, I, S, tv, nv, tyT, RawV.tv, R1.row, rowsGet, rowsLen, row4, Vk, Vn, Vs, Vl, hl]
        refine ⟨⟨by omega, by omega⟩, ?_⟩
        refine loopK_of ⟨(i + 1, b', l' ++ [v]), by show i + 1 ≤ N; omega, by simp [hl], hb', hd⟩ (by show N - (i + 1) < N - i; omega) ?_
        have w1 : IntKind.i64.wrap ((i : Int) + 1) = (i : Int) + 1 := wrap64 (by omega) (by omega)
        refine ES.Lw.trans ?_ (reT_lw (k := 6) (y := .own 3000 4 (V.rows (l' ++ [v]))) rfl (wk_own (by simp [rowsLen]) (pwk_rowV l' v hvl)))
        apply lw_of <;> simp [leL, lk, sv, Nat.beq, I, S, ES.kill, has, drp, nilT, w1]
      · unfold dec at HV
        (with_reducible apply v_call); (· simp only [vcA, Nat.reduceLT, Int.reduceEq, Int.reduceAdd, Int.reduceSub, Nat.reduceBEq, Nat.reduceEqDiff, reduceCtorEq, Nat.reduceAdd, Nat.reduceSub, Nat.reduceMul, Nat.reduceLeDiff, Int.reduceToNat, Int.reduceLT, Int.reduceLE, Int.reduceNeg, reduceIte, I, S, tv, nv, tyT, RawV.tv, R1.row, rowsGet, rowsLen, row4, Vk, Vn, Vs, Vl]; with_reducible rfl); (· exact HV); (· first | rfl | (simp only [moOk, nbeq, nble, List.length_nil, beq_self_eq_true, Bool.true_and, Bool.and_true, Bool.and_eq_true, decide_eq_true_eq]; omega)); (· simp only [vcA, Nat.reduceLT, Int.reduceEq, Int.reduceAdd, Int.reduceSub, Nat.reduceBEq, Nat.reduceEqDiff, reduceCtorEq, Nat.reduceAdd, Nat.reduceSub, Nat.reduceMul, Nat.reduceLeDiff, Int.reduceToNat, Int.reduceLT, Int.reduceLE, Int.reduceNeg, reduceIte, I, S, tv, nv, tyT, RawV.tv, R1.row, rowsGet, rowsLen, row4, Vk, Vn, Vs, Vl]; with_reducible rfl)
        simp only [vcA, Nat.reduceLT, Int.reduceEq, Int.reduceAdd, Int.reduceSub, Nat.reduceBEq, Nat.reduceEqDiff, reduceCtorEq, Nat.reduceAdd, Nat.reduceSub, Nat.reduceMul, Nat.reduceLeDiff, Int.reduceToNat, Int.reduceLT, Int.reduceLE, Int.reduceNeg, reduceIte, I, S, tv, nv, tyT, RawV.tv, R1.row, rowsGet, rowsLen, row4, Vk, Vn, Vs, Vl, he, nilT]
    · obtain rfl : i = N := by omega
      rw [Nat.sub_self] at hd
      exact hd.elim
end Go.Proofs.YtdlolkogifigpaaDoor
end

section
/- Decode, walked. No statement of the program is proved here. -/
namespace Go.Proofs.YtdlolkogifigpaaDoor
open Go Go.RowKit Go.Mor Go.Sh Go.Sh.Cd1
set_option maxRecDepth 100000
set_option maxHeartbeats 2000000
theorem wk_tuple2 {a b c : TV} (h : Wk a b) : Wk (.tuple [a, c]) (.tuple [b, c]) := by
  intro w E r v hr
  cases hr with
  | tuple cs vs hl hv =>
    refine .tuple _ vs (by simpa using hl) (fun j d v hd hv' => ?_)
    match j with
    | 0 => simp at hd; subst hd; exact h w E r v (hv 0 _ v rfl hv')
    | 1 => simp at hd; subst hd; exact hv 1 _ v rfl hv'
    | j + 2 => simp at hd
theorem dRest_l {s : List UInt8} {k b c : Int} {v : V} (h : dRest s k b = .ok (v, c)) : v.l = [] := by
  unfold dRest at h
  by_cases e1 : k = 1
  · rw [if_pos e1] at h
    cases hn : dNum s b (-1000000000000000) 1000000000000000 with
    | error e => rw [hn] at h; cases h
    | ok q => rw [hn] at h; cases h; rfl
  rw [if_neg e1] at h
  by_cases e2 : k = 2
  · rw [if_pos e2] at h
    cases hn : dText s b with
    | error e => rw [hn] at h; cases h
    | ok q => rw [hn] at h; cases h; rfl
  rw [if_neg e2] at h
  by_cases e3 : k = 3 ∨ k = 4
  · rw [if_pos e3] at h
    cases hn : dNum s b (-20) 100000 with
    | error e => rw [hn] at h; cases h
    | ok q =>
      obtain ⟨n, c'⟩ := q
      rw [hn] at h
      simp only [] at h
      by_cases hz : n = 0
      · rw [if_pos hz] at h; cases h
      · rw [if_neg hz] at h; cases h; rfl
  rw [if_neg e3] at h; cases h; rfl
theorem val5_ok (a0 a1 : Addr) (m : Nat) (s : List UInt8) (a : Int) (hs : SmallS s) (ha : I64 a) {v : V} {c : Int} (h : dVal s a = .ok (v, c)) :
    SCalls Tryd.prog (gl a0 a1 m) 60 [.ptr 1000 0, I 5] [dec s a] (.tuple [tv v, I 0]) [dec s c] := by
  unfold dVal at h
  cases hk : dNum s a 0 5 with
  | error e => rw [hk] at h; cases h
  | ok q =>
    obtain ⟨k, b⟩ := q
    rw [hk] at h
    simp only [] at h
    by_cases h5 : k = 5
    · rw [if_pos h5] at h
      subst h5
      cases hi : dItems s b with
      | error e => rw [hi] at h; cases h
      | ok q =>
        obtain ⟨l, c'⟩ := q
        rw [hi] at h; cases h
        have HK := number_ok a0 a1 m s a 0 5 hs ha hk
        have HI := items_ok a0 a1 m s b hs (dNum_pos hs hk).1 hi
        refine call_of hmix tf___val_decoder__value rfl rfl rfl ?_
        unfold dec at HK HI ⊢
        simp only [vcA, Nat.reduceLT, Int.reduceEq, Int.reduceAdd, Int.reduceSub, Nat.reduceBEq, Nat.reduceEqDiff, reduceCtorEq, Nat.reduceAdd, Nat.reduceSub, Nat.reduceMul, Nat.reduceLeDiff, Int.reduceToNat, Int.reduceLT, Int.reduceLE, Int.reduceNeg, reduceIte, I, S, tv, nv, tyT, RawV.tv, R1.row, rowsGet, rowsLen, row4, Vk, Vn, Vs, Vl]
        (with_reducible apply v_call); (· simp only [vcA, Nat.reduceLT, Int.reduceEq, Int.reduceAdd, Int.reduceSub, Nat.reduceBEq, Nat.reduceEqDiff, reduceCtorEq, Nat.reduceAdd, Nat.reduceSub, Nat.reduceMul, Nat.reduceLeDiff, Int.reduceToNat, Int.reduceLT, Int.reduceLE, Int.reduceNeg, reduceIte, I, S, tv, nv, tyT, RawV.tv, R1.row, rowsGet, rowsLen, row4, Vk, Vn, Vs, Vl]; with_reducible rfl); (· exact HK); (· first | rfl | (simp only [moOk, nbeq, nble, List.length_nil, beq_self_eq_true, Bool.true_and, Bool.and_true, Bool.and_eq_true, decide_eq_true_eq]; omega)); (· simp only [vcA, Nat.reduceLT, Int.reduceEq, Int.reduceAdd, Int.reduceSub, Nat.reduceBEq, Nat.reduceEqDiff, reduceCtorEq, Nat.reduceAdd, Nat.reduceSub, Nat.reduceMul, Nat.reduceLeDiff, Int.reduceToNat, Int.reduceLT, Int.reduceLE, Int.reduceNeg, reduceIte, I, S, tv, nv, tyT, RawV.tv, R1.row, rowsGet, rowsLen, row4, Vk, Vn, Vs, Vl]; with_reducible rfl)
        simp only [vcA, Nat.reduceLT, Int.reduceEq, Int.reduceAdd, Int.reduceSub, Nat.reduceBEq, Nat.reduceEqDiff, reduceCtorEq, Nat.reduceAdd, Nat.reduceSub, Nat.reduceMul, Nat.reduceLeDiff, Int.reduceToNat, Int.reduceLT, Int.reduceLE, Int.reduceNeg, reduceIte, I, S, tv, nv, tyT, RawV.tv, R1.row, rowsGet, rowsLen, row4, Vk, Vn, Vs, Vl]
        (with_reducible apply v_call); (· simp only [vcA, Nat.reduceLT, Int.reduceEq, Int.reduceAdd, Int.reduceSub, Nat.reduceBEq, Nat.reduceEqDiff, reduceCtorEq, Nat.reduceAdd, Nat.reduceSub, Nat.reduceMul, Nat.reduceLeDiff, Int.reduceToNat, Int.reduceLT, Int.reduceLE, Int.reduceNeg, reduceIte, I, S, tv, nv, tyT, RawV.tv, R1.row, rowsGet, rowsLen, row4, Vk, Vn, Vs, Vl]; with_reducible rfl); (· exact HI); (· first | rfl | (simp only [moOk, nbeq, nble, List.length_nil, beq_self_eq_true, Bool.true_and, Bool.and_true, Bool.and_eq_true, decide_eq_true_eq]; omega)); (· simp only [vcA, Nat.reduceLT, Int.reduceEq, Int.reduceAdd, Int.reduceSub, Nat.reduceBEq, Nat.reduceEqDiff, reduceCtorEq, Nat.reduceAdd, Nat.reduceSub, Nat.reduceMul, Nat.reduceLeDiff, Int.reduceToNat, Int.reduceLT, Int.reduceLE, Int.reduceNeg, reduceIte, I, S, tv, nv, tyT, RawV.tv, R1.row, rowsGet, rowsLen, row4, Vk, Vn, Vs, Vl]; with_reducible rfl)
        simp only [vcA, Nat.reduceLT, Int.reduceEq, Int.reduceAdd, Int.reduceSub, Nat.reduceBEq, Nat.reduceEqDiff, reduceCtorEq, Nat.reduceAdd, Nat.reduceSub, Nat.reduceMul, Nat.reduceLeDiff, Int.reduceToNat, Int.reduceLT, Int.reduceLE, Int.reduceNeg, reduceIte, I, S, tv, nv, tyT, RawV.tv, R1.row, rowsGet, rowsLen, row4, Vk, Vn, Vs, Vl]
        rfl
    · rw [if_neg h5] at h
      exact (value1_ok a0 a1 m s a 5 hs ha hk h5 h).out (wk_tuple2 (nv_tv (dRest_l h)))
theorem val5_err (a0 a1 : Addr) (m : Nat) (s : List UInt8) (a : Int) (hs : SmallS s) (ha : I64 a) {e : Int} (h : dVal s a = .error e) :
    (∃ c, SCalls Tryd.prog (gl a0 a1 m) 60 [.ptr 1000 0, I 5] [dec s a] (.tuple [nv V.nil, I e]) [dec s c]) ∧ e ≠ 0 := by
  unfold dVal at h
  cases hk : dNum s a 0 5 with
  | error e =>
    rw [hk] at h; cases h
    have := value_err0 a0 a1 m s a 5 hs ha hk
    exact ⟨⟨a, this.1⟩, this.2⟩
  | ok q =>
    obtain ⟨k, b⟩ := q
    rw [hk] at h
    simp only [] at h
    by_cases h5 : k = 5
    · rw [if_pos h5] at h
      subst h5
      cases hi : dItems s b with
      | ok q => rw [hi] at h; cases h
      | error e =>
        rw [hi] at h; cases h
        have HK := number_ok a0 a1 m s a 0 5 hs ha hk
        obtain ⟨⟨c, HI⟩, he⟩ := items_err a0 a1 m s b hs (dNum_pos hs hk).1 hi
        refine ⟨⟨c, call_of hmix tf___val_decoder__value rfl rfl rfl ?_⟩, he⟩
        unfold dec at HK HI ⊢
        simp only [vcA, Nat.reduceLT, Int.reduceEq, Int.reduceAdd, Int.reduceSub, Nat.reduceBEq, Nat.reduceEqDiff, reduceCtorEq, Nat.reduceAdd, Nat.reduceSub, Nat.reduceMul, Nat.reduceLeDiff, Int.reduceToNat, Int.reduceLT, Int.reduceLE, Int.reduceNeg, reduceIte, I, S, tv, nv, tyT, RawV.tv, R1.row, rowsGet, rowsLen, row4, Vk, Vn, Vs, Vl]
        (with_reducible apply v_call); (· simp only [vcA, Nat.reduceLT, Int.reduceEq, Int.reduceAdd, Int.reduceSub, Nat.reduceBEq, Nat.reduceEqDiff, reduceCtorEq, Nat.reduceAdd, Nat.reduceSub, Nat.reduceMul, Nat.reduceLeDiff, Int.reduceToNat, Int.reduceLT, Int.reduceLE, Int.reduceNeg, reduceIte, I, S, tv, nv, tyT, RawV.tv, R1.row, rowsGet, rowsLen, row4, Vk, Vn, Vs, Vl]; with_reducible rfl); (· exact HK); (· first | rfl | (simp only [moOk, nbeq, nble, List.length_nil, beq_self_eq_true, Bool.true_and, Bool.and_true, Bool.and_eq_true, decide_eq_true_eq]; omega)); (· simp only [vcA, Nat.reduceLT, Int.reduceEq, Int.reduceAdd, Int.reduceSub, Nat.reduceBEq, Nat.reduceEqDiff, reduceCtorEq, Nat.reduceAdd, Nat.reduceSub, Nat.reduceMul, Nat.reduceLeDiff, Int.reduceToNat, Int.reduceLT, Int.reduceLE, Int.reduceNeg, reduceIte, I, S, tv, nv, tyT, RawV.tv, R1.row, rowsGet, rowsLen, row4, Vk, Vn, Vs, Vl]; with_reducible rfl)
        simp only [vcA, Nat.reduceLT, Int.reduceEq, Int.reduceAdd, Int.reduceSub, Nat.reduceBEq, Nat.reduceEqDiff, reduceCtorEq, Nat.reduceAdd, Nat.reduceSub, Nat.reduceMul, Nat.reduceLeDiff, Int.reduceToNat, Int.reduceLT, Int.reduceLE, Int.reduceNeg, reduceIte, I, S, tv, nv, tyT, RawV.tv, R1.row, rowsGet, rowsLen, row4, Vk, Vn, Vs, Vl]
        (with_reducible apply v_call); (· simp only [vcA, Nat.reduceLT, Int.reduceEq, Int.reduceAdd, Int.reduceSub, Nat.reduceBEq, Nat.reduceEqDiff, reduceCtorEq, Nat.reduceAdd, Nat.reduceSub, Nat.reduceMul, Nat.reduceLeDiff, Int.reduceToNat, Int.reduceLT, Int.reduceLE, Int.reduceNeg, reduceIte, I, S, tv, nv, tyT, RawV.tv, R1.row, rowsGet, rowsLen, row4, Vk, Vn, Vs, Vl, nilT]; with_reducible rfl); (· exact HI); (· first | rfl | (simp only [moOk, nbeq, nble, List.length_nil, beq_self_eq_true, Bool.true_and, Bool.and_true, Bool.and_eq_true, decide_eq_true_eq]; omega)); (· simp only [vcA, Nat.reduceLT, Int.reduceEq, Int.reduceAdd, Int.reduceSub, Nat.reduceBEq, Nat.reduceEqDiff, reduceCtorEq, Nat.reduceAdd, Nat.reduceSub, Nat.reduceMul, Nat.reduceLeDiff, Int.reduceToNat, Int.reduceLT, Int.reduceLE, Int.reduceNeg, reduceIte, I, S, tv, nv, tyT, RawV.tv, R1.row, rowsGet, rowsLen, row4, Vk, Vn, Vs, Vl, nilT]; with_reducible rfl)
        simp only [vcA, Nat.reduceLT, Int.reduceEq, Int.reduceAdd, Int.reduceSub, Nat.reduceBEq, Nat.reduceEqDiff, reduceCtorEq, Nat.reduceAdd, Nat.reduceSub, Nat.reduceMul, Nat.reduceLeDiff, Int.reduceToNat, Int.reduceLT, Int.reduceLE, Int.reduceNeg, reduceIte, I, S, tv, nv, tyT, RawV.tv, R1.row, rowsGet, rowsLen, row4, Vk, Vn, Vs, Vl, he]
        rfl
    · rw [if_neg h5] at h
      exact value1_err a0 a1 m s a 5 hs ha hk h5 h
theorem decode_ok (a0 a1 : Addr) (m : Nat) (s : List UInt8) (a : Int) (hs : SmallS s) (ha : 0 ≤ a) (hb : a ≤ s.length) {v : V} {c : Int} (h : dVal s a = .ok (v, c)) :
    SCalls Tryd.prog (gl a0 a1 m) 29 [S (str s), I a] [] (.tuple [tv v, I c, I 0]) [] := by
  have hs' : s.length < 1125899906842624 := hs
  have HV := val5_ok a0 a1 m s a hs (by unfold I64; omega) h
  refine call_of0 hmix tf_val_Decode rfl ?_
  have l1 : ¬ a < 0 := by omega
  have l2 : ¬ (s.length : Int) < a := by omega
  unfold dec at HV
  simp only [vcA, Nat.reduceLT, Int.reduceEq, Int.reduceAdd, Int.reduceSub, Nat.reduceBEq, Nat.reduceEqDiff, reduceCtorEq, Nat.reduceAdd, Nat.reduceSub, Nat.reduceMul, Nat.reduceLeDiff, Int.reduceToNat, Int.reduceLT, Int.reduceLE, Int.reduceNeg, reduceIte, I, S, tv, nv, tyT, RawV.tv, R1.row, rowsGet, rowsLen, row4, Vk, Vn, Vs, Vl, l1, l2]
  (with_reducible apply v_call); (· simp only [vcA, Nat.reduceLT, Int.reduceEq, Int.reduceAdd, Int.reduceSub, Nat.reduceBEq, Nat.reduceEqDiff, reduceCtorEq, Nat.reduceAdd, Nat.reduceSub, Nat.reduceMul, Nat.reduceLeDiff, Int.reduceToNat, Int.reduceLT, Int.reduceLE, Int.reduceNeg, reduceIte, I, S, tv, nv, tyT, RawV.tv, R1.row, rowsGet, rowsLen, row4, Vk, Vn, Vs, Vl]; with_reducible rfl); (· exact HV); (· first | rfl | (simp only [moOk, nbeq, nble, List.length_nil, beq_self_eq_true, Bool.true_and, Bool.and_true, Bool.and_eq_true, decide_eq_true_eq]; omega)); (· simp only [vcA, Nat.reduceLT, Int.reduceEq, Int.reduceAdd, Int.reduceSub, Nat.reduceBEq, Nat.reduceEqDiff, reduceCtorEq, Nat.reduceAdd, Nat.reduceSub, Nat.reduceMul, Nat.reduceLeDiff, Int.reduceToNat, Int.reduceLT, Int.reduceLE, Int.reduceNeg, reduceIte, I, S, tv, nv, tyT, RawV.tv, R1.row, rowsGet, rowsLen, row4, Vk, Vn, Vs, Vl]; with_reducible rfl)
  simp only [vcA, Nat.reduceLT, Int.reduceEq, Int.reduceAdd, Int.reduceSub, Nat.reduceBEq, Nat.reduceEqDiff, reduceCtorEq, Nat.reduceAdd, Nat.reduceSub, Nat.reduceMul, Nat.reduceLeDiff, Int.reduceToNat, Int.reduceLT, Int.reduceLE, Int.reduceNeg, reduceIte, I, S, tv, nv, tyT, RawV.tv, R1.row, rowsGet, rowsLen, row4, Vk, Vn, Vs, Vl]
theorem decode_err (a0 a1 : Addr) (m : Nat) (s : List UInt8) (a : Int) (hs : SmallS s) (ha : 0 ≤ a) (hb : a ≤ s.length) {e : Int} (h : dVal s a = .error e) :
    SCalls Tryd.prog (gl a0 a1 m) 29 [S (str s), I a] [] (.tuple [nv V.nil, I 0, I e]) [] := by
  have hs' : s.length < 1125899906842624 := hs
  obtain ⟨⟨c, HV⟩, he⟩ := val5_err a0 a1 m s a hs (by unfold I64; omega) h
  refine call_of0 hmix tf_val_Decode rfl ?_
  have l1 : ¬ a < 0 := by omega
  have l2 : ¬ (s.length : Int) < a := by omega
  unfold dec at HV
  simp only [vcA, Nat.reduceLT, Int.reduceEq, Int.reduceAdd, Int.reduceSub, Nat.reduceBEq, Nat.reduceEqDiff, reduceCtorEq, Nat.reduceAdd, Nat.reduceSub, Nat.reduceMul, Nat.reduceLeDiff, Int.reduceToNat, Int.reduceLT, Int.reduceLE, Int.reduceNeg, reduceIte, I, S, tv, nv, tyT, RawV.tv, R1.row, rowsGet, rowsLen, row4, Vk, Vn, Vs, Vl, l1, l2]
  (with_reducible apply v_call); (· simp only [vcA, Nat.reduceLT, Int.reduceEq, Int.reduceAdd, Int.reduceSub, Nat.reduceBEq, Nat.reduceEqDiff, reduceCtorEq, Nat.reduceAdd, Nat.reduceSub, Nat.reduceMul, Nat.reduceLeDiff, Int.reduceToNat, Int.reduceLT, Int.reduceLE, Int.reduceNeg, reduceIte, I, S, tv, nv, tyT, RawV.tv, R1.row, rowsGet, rowsLen, row4, Vk, Vn, Vs, Vl]; with_reducible rfl); (· exact HV); (· first | rfl | (simp only [moOk, nbeq, nble, List.length_nil, beq_self_eq_true, Bool.true_and, Bool.and_true, Bool.and_eq_true, decide_eq_true_eq]; omega)); (· simp only [vcA, Nat.reduceLT, Int.reduceEq, Int.reduceAdd, Int.reduceSub, Nat.reduceBEq, Nat.reduceEqDiff, reduceCtorEq, Nat.reduceAdd, Nat.reduceSub, Nat.reduceMul, Nat.reduceLeDiff, Int.reduceToNat, Int.reduceLT, Int.reduceLE, Int.reduceNeg, reduceIte, I, S, tv, nv, tyT, RawV.tv, R1.row, rowsGet, rowsLen, row4, Vk, Vn, Vs, Vl]; with_reducible rfl)
  simp only [vcA, Nat.reduceLT, Int.reduceEq, Int.reduceAdd, Int.reduceSub, Nat.reduceBEq, Nat.reduceEqDiff, reduceCtorEq, Nat.reduceAdd, Nat.reduceSub, Nat.reduceMul, Nat.reduceLeDiff, Int.reduceToNat, Int.reduceLT, Int.reduceLE, Int.reduceNeg, reduceIte, I, S, tv, nv, tyT, RawV.tv, R1.row, rowsGet, rowsLen, row4, Vk, Vn, Vs, Vl, he]
  rfl
end Go.Proofs.YtdlolkogifigpaaDoor
end

section
/- The order of values is one order. No statement of the program is proved here. -/
namespace Go.Proofs.YtdlolkogifigpaaDoor
open Go Go.Mor
/-- Three answers that fit each other. -/
structure Tri (p q r : Int) : Prop where
  a : -1 ≤ p ∧ p ≤ 1
  b : -1 ≤ q ∧ q ≤ 1
  c : -1 ≤ r ∧ r ≤ 1
  d : p = 0 → r = q
  e : q = 0 → r = p
  f : p = -1 → q = -1 → r = -1
  g : p = 1 → q = 1 → r = 1
theorem Tri.lex {p q r p' q' r' : Int} (h : Tri p q r) (h' : Tri p' q' r') : Tri (thenI p p') (thenI q q') (thenI r r') := by
  obtain ⟨a, b, c, d, e, f, g⟩ := h
  obtain ⟨a', b', c', d', e', f', g'⟩ := h'
  unfold thenI
  constructor <;> (repeat' split) <;> omega
theorem ordI_tri (a b c : Int) : Tri (ordI a b) (ordI b c) (ordI a c) := by
  unfold ordI
  constructor <;> (repeat' split) <;> omega
theorem ordI_anti (a b : Int) : ordI b a = -ordI a b := by
  unfold ordI; (repeat' split) <;> omega
/-- The order of texts, byte by byte. -/
def lexB : List UInt8 → List UInt8 → Int
  | [], [] => 0
  | [], _ :: _ => -1
  | _ :: _, [] => 1
  | a :: x, b :: y => thenI (ordI a.toNat b.toNat) (lexB x y)
theorem ordS_lex : ∀ (x y : List UInt8), ordS x y = lexB x y
  | [], [] => by simp [ordS, lexB, Op.bytesLess]
  | [], b :: y => by simp [ordS, lexB, Op.bytesLess]
  | a :: x, [] => by simp [ordS, lexB, Op.bytesLess]
  | a :: x, b :: y => by
    have ih := ordS_lex x y
    simp only [lexB, ← ih]
    unfold ordS ordI thenI
    simp only [Op.bytesLess]
    have hlt : (a < b) ↔ a.toNat < b.toNat := UInt8.lt_iff_toNat_lt
    have heq : (a = b) ↔ a.toNat = b.toNat := ⟨fun h => by rw [h], fun h => UInt8.toNat_inj.1 h⟩
    by_cases h1 : a.toNat < b.toNat
    · have : a < b := hlt.2 h1
      simp [this]; omega
    · have n1 : ¬ a < b := fun h => h1 (hlt.1 h)
      by_cases h2 : a = b
      · subst h2; simp
      · have n2 : ¬ a.toNat = b.toNat := fun h => h2 (heq.2 h)
        have h3 : b.toNat < a.toNat := by omega
        simp [n1, h2]; omega
def Rng (p : Int) : Prop := -1 ≤ p ∧ p ≤ 1
theorem Rng.lex {p q : Int} (h : Rng p) (h' : Rng q) : Rng (thenI p q) := by unfold thenI; split <;> assumption
theorem ordI_rng (a b : Int) : Rng (ordI a b) := (ordI_tri a a b).c
theorem tri_nxx {q : Int} (h : Rng q) : Tri (-1) q (-1) := by obtain ⟨h1, h2⟩ := h; constructor <;> omega
theorem tri_pnx {r : Int} (h : Rng r) : Tri 1 (-1) r := by obtain ⟨h1, h2⟩ := h; constructor <;> omega
theorem tri_xpp {p : Int} (h : Rng p) : Tri p 1 1 := by obtain ⟨h1, h2⟩ := h; constructor <;> omega
theorem lexB_rng : ∀ (x y : List UInt8), Rng (lexB x y)
  | [], [] => by simp [lexB, Rng]
  | [], b :: y => by simp [lexB, Rng]
  | a :: x, [] => by simp [lexB, Rng]
  | a :: x, b :: y => by simp only [lexB]; exact (ordI_rng _ _).lex (lexB_rng x y)
theorem lexB_tri : ∀ (x y z : List UInt8), Tri (lexB x y) (lexB y z) (lexB x z)
  | [], [], [] => by constructor <;> simp [lexB]
  | [], [], c :: z => by constructor <;> simp [lexB]
  | [], b :: y, [] => by constructor <;> simp [lexB]
  | a :: x, [], [] => by constructor <;> simp [lexB]
  | a :: x, [], c :: z => by have := lexB_rng (a :: x) (c :: z); exact tri_pnx this
  | [], b :: y, c :: z => by have := lexB_rng (b :: y) (c :: z); exact tri_nxx this
  | a :: x, b :: y, [] => by have := lexB_rng (a :: x) (b :: y); exact tri_xpp this
  | a :: x, b :: y, c :: z => by
    simp only [lexB]; exact (ordI_tri _ _ _).lex (lexB_tri x y z)
theorem thenI_anti {a b c d : Int} (h : b = -a) (h' : d = -c) : thenI b d = -thenI a c := by
  unfold thenI; (repeat' split) <;> omega
theorem lexB_anti : ∀ (x y : List UInt8), lexB y x = -lexB x y
  | [], [] => by simp [lexB]
  | [], b :: y => by simp [lexB]
  | a :: x, [] => by simp [lexB]
  | a :: x, b :: y => by simp only [lexB]; exact thenI_anti (ordI_anti _ _) (lexB_anti x y)
theorem ordS_tri (a b c : List UInt8) : Tri (ordS a b) (ordS b c) (ordS a c) := by rw [ordS_lex, ordS_lex, ordS_lex]; exact lexB_tri a b c
theorem ordS_anti (a b : List UInt8) : ordS b a = -ordS a b := by rw [ordS_lex, ordS_lex]; exact lexB_anti a b
theorem ordS_rng (a b : List UInt8) : Rng (ordS a b) := by rw [ordS_lex]; exact lexB_rng a b
theorem cmpL_rng : ∀ (x y : List V), (∀ a ∈ x, ∀ b, Rng (cmpV a b)) → Rng (cmpL x y)
  | [], [], _ => by simp [cmpL, Rng]
  | [], b :: y, _ => by simp [cmpL, Rng]
  | a :: x, [], _ => by simp [cmpL, Rng]
  | a :: x, b :: y, h => by simp only [cmpL]; exact (h a (by simp) b).lex (cmpL_rng x y fun c hc => h c (by simp [hc]))
theorem cmpV_rngN (n : Nat) : ∀ x y : V, SizeOf.sizeOf x ≤ n → Rng (cmpV x y) := by
  induction n with
  | zero => intro x y h; cases x; simp at h
  | succ n ih =>
    intro x y h
    rw [cmpV_eq]
    refine (ordI_rng _ _).lex ((ordI_rng _ _).lex ((ordS_rng _ _).lex (cmpL_rng _ _ fun a ha b => ih a b ?_)))
    have := List.sizeOf_lt_of_mem ha
    cases x; simp [V.l] at h this ⊢; omega
theorem cmpV_rng (x y : V) : Rng (cmpV x y) := cmpV_rngN _ x y (Nat.le_refl _)
theorem cmpL_rng' (x y : List V) : Rng (cmpL x y) := cmpL_rng x y fun a _ b => cmpV_rng a b
theorem cmpL_tri : ∀ (x y z : List V), (∀ a ∈ x, ∀ b c, Tri (cmpV a b) (cmpV b c) (cmpV a c)) → Tri (cmpL x y) (cmpL y z) (cmpL x z)
  | [], [], [], _ => by constructor <;> simp [cmpL]
  | [], [], c :: z, _ => by constructor <;> simp [cmpL]
  | [], b :: y, [], _ => by constructor <;> simp [cmpL]
  | a :: x, [], [], _ => by constructor <;> simp [cmpL]
  | a :: x, [], c :: z, _ => by have := cmpL_rng' (a :: x) (c :: z); rw [show cmpL (a :: x) [] = 1 by simp [cmpL], show cmpL [] (c :: z) = -1 by simp [cmpL]]; exact tri_pnx this
  | [], b :: y, c :: z, _ => by have := cmpL_rng' (b :: y) (c :: z); rw [show cmpL [] (b :: y) = -1 by simp [cmpL], show cmpL [] (c :: z) = -1 by simp [cmpL]]; exact tri_nxx this
  | a :: x, b :: y, [], _ => by have := cmpL_rng' (a :: x) (b :: y); rw [show cmpL (b :: y) [] = 1 by simp [cmpL], show cmpL (a :: x) [] = 1 by simp [cmpL]]; exact tri_xpp this
  | a :: x, b :: y, c :: z, h => by
    simp only [cmpL]; exact (h a (by simp) b c).lex (cmpL_tri x y z fun d hd => h d (by simp [hd]))
theorem cmpV_triN (n : Nat) : ∀ x y z : V, SizeOf.sizeOf x ≤ n → Tri (cmpV x y) (cmpV y z) (cmpV x z) := by
  induction n with
  | zero => intro x y z h; cases x; simp at h
  | succ n ih =>
    intro x y z h
    rw [cmpV_eq x y, cmpV_eq y z, cmpV_eq x z]
    refine (ordI_tri _ _ _).lex ((ordI_tri _ _ _).lex ((ordS_tri _ _ _).lex (cmpL_tri _ _ _ fun a ha b c => ih a b c ?_)))
    have := List.sizeOf_lt_of_mem ha
    cases x; simp [V.l] at h this ⊢; omega
theorem cmpV_tri (x y z : V) : Tri (cmpV x y) (cmpV y z) (cmpV x z) := cmpV_triN _ x y z (Nat.le_refl _)
theorem cmpL_anti : ∀ (x y : List V), (∀ a ∈ x, ∀ b, cmpV b a = -cmpV a b) → cmpL y x = -cmpL x y
  | [], [], _ => by simp [cmpL]
  | [], b :: y, _ => by simp [cmpL]
  | a :: x, [], _ => by simp [cmpL]
  | a :: x, b :: y, h => by simp only [cmpL]; exact thenI_anti (h a (by simp) b) (cmpL_anti x y fun c hc => h c (by simp [hc]))
theorem cmpV_antiN (n : Nat) : ∀ x y : V, SizeOf.sizeOf x ≤ n → cmpV y x = -cmpV x y := by
  induction n with
  | zero => intro x y h; cases x; simp at h
  | succ n ih =>
    intro x y h
    rw [cmpV_eq x y, cmpV_eq y x]
    refine thenI_anti (ordI_anti _ _) (thenI_anti (ordI_anti _ _) (thenI_anti (ordS_anti _ _) (cmpL_anti _ _ fun a ha b => ih a b ?_)))
    have := List.sizeOf_lt_of_mem ha
    cases x; simp [V.l] at h this ⊢; omega
theorem cmpV_anti (x y : V) : cmpV y x = -cmpV x y := cmpV_antiN _ x y (Nat.le_refl _)
theorem cmpV_self (x : V) : cmpV x x = 0 := by have := cmpV_anti x x; omega
theorem thenI_zero {a b : Int} (h : thenI a b = 0) : a = 0 ∧ b = 0 := by
  unfold thenI at h
  by_cases ha : a = 0
  · rw [if_pos ha] at h; exact ⟨ha, h⟩
  · rw [if_neg ha] at h; exact absurd h ha
theorem ordI_zero {a b : Int} (h : ordI a b = 0) : a = b := by
  unfold ordI at h
  by_cases h1 : a < b
  · rw [if_pos h1] at h; cases h
  · rw [if_neg h1] at h
    by_cases h2 : b < a
    · rw [if_pos h2] at h; cases h
    · omega
theorem lexB_zero : ∀ {x y : List UInt8}, lexB x y = 0 → x = y
  | [], [], _ => rfl
  | [], b :: y, h => by simp [lexB] at h
  | a :: x, [], h => by simp [lexB] at h
  | a :: x, b :: y, h => by
    simp only [lexB] at h
    obtain ⟨h1, h2⟩ := thenI_zero h
    have := ordI_zero h1
    rw [lexB_zero h2, UInt8.toNat_inj.1 (by omega : a.toNat = b.toNat)]
theorem cmpL_zero : ∀ {x y : List V}, (∀ a ∈ x, ∀ b, cmpV a b = 0 → a = b) → cmpL x y = 0 → x = y
  | [], [], _, _ => rfl
  | [], b :: y, _, h => by simp [cmpL] at h
  | a :: x, [], _, h => by simp [cmpL] at h
  | a :: x, b :: y, H, h => by
    simp only [cmpL] at h
    obtain ⟨h1, h2⟩ := thenI_zero h
    rw [H a (by simp) b h1, cmpL_zero (fun c hc => H c (by simp [hc])) h2]
theorem cmpV_zeroN (n : Nat) : ∀ x y : V, SizeOf.sizeOf x ≤ n → cmpV x y = 0 → x = y := by
  induction n with
  | zero => intro x y h; cases x; simp at h
  | succ n ih =>
    intro x y h h0
    rw [cmpV_eq] at h0
    obtain ⟨h1, h0⟩ := thenI_zero h0
    obtain ⟨h2, h0⟩ := thenI_zero h0
    obtain ⟨h3, h4⟩ := thenI_zero h0
    rw [ordS_lex] at h3
    have hl := cmpL_zero (fun a ha b => ih a b (by
      have := List.sizeOf_lt_of_mem ha
      cases x; simp [V.l] at h this ⊢; omega)) h4
    rw [← V.eta x, ← V.eta y, ordI_zero h1, ordI_zero h2, lexB_zero h3, hl]
theorem cmpV_zero {x y : V} : cmpV x y = 0 ↔ x = y := ⟨cmpV_zeroN _ x y (Nat.le_refl _), fun h => h ▸ cmpV_self x⟩
end Go.Proofs.YtdlolkogifigpaaDoor
end

section
/- Readers of bytes in plain words: what is laid is read back; what is cut off is none. -/
namespace Go.Mor
open Go Go.RowKit
set_option maxHeartbeats 1000000

/-- A reader: of a text and a place, what stands there and the place behind it. -/
abbrev Rd (α : Type) : Type := List UInt8 → Int → Option (α × Int)
def Rd.bind {α β : Type} (r : Rd α) (f : α → Rd β) : Rd β := fun s a => match r s a with | none => none | some (v, b) => f v s b
def Rd.ret {α : Type} (v : α) : Rd α := fun _ a => some (v, a)
def Rd.fail {α : Type} : Rd α := fun _ _ => none
/-- e is read as v, whatever stands around it. -/
def Enc {α : Type} (r : Rd α) (e : List UInt8) (v : α) : Prop := ∀ pre post : List UInt8, r (pre ++ e ++ post) pre.length = some (v, ((pre.length + e.length : Nat) : Int))
/-- What is cut off is none; what is not is as it was. -/
def Cuts {α : Type} (r : Rd α) : Prop := ∀ (s : List UInt8) (a : Int) (v : α) (b : Int) (k : Nat), r s a = some (v, b) → a ≤ k → a ≤ b ∧ (b ≤ k → r (s.take k) a = some (v, b)) ∧ (k < b → r (s.take k) a = none)
theorem Enc.bind {α β : Type} {r : Rd α} {f : α → Rd β} {e1 e2 : List UInt8} {v1 : α} {v2 : β} (h1 : Enc r e1 v1) (h2 : Enc (f v1) e2 v2) : Enc (r.bind f) (e1 ++ e2) v2 := by
  intro pre post
  have a := h1 pre (e2 ++ post)
  have b := h2 (pre ++ e1) post
  rw [show pre ++ (e1 ++ e2) ++ post = pre ++ e1 ++ (e2 ++ post) by simp, Rd.bind, a]
  simp only [List.append_assoc, List.length_append] at b ⊢
  rw [b]
  congr 3; omega
theorem Enc.ret {α : Type} (v : α) : Enc (Rd.ret v) [] v := fun pre post => by simp [Rd.ret]
theorem Cuts.bind {α β : Type} {r : Rd α} {f : α → Rd β} (h1 : Cuts r) (h2 : ∀ v, Cuts (f v)) : Cuts (r.bind f) := by
  intro s a v b k h hk
  unfold Rd.bind at h ⊢
  cases hr : r s a with
  | none => rw [hr] at h; cases h
  | some p =>
    obtain ⟨v1, b1⟩ := p
    rw [hr] at h
    dsimp only at h
    obtain ⟨g1, g2, g3⟩ := h1 s a v1 b1 k hr hk
    by_cases hb : b1 ≤ k
    · obtain ⟨j1, j2, j3⟩ := h2 v1 s b1 v b k h hb
      rw [g2 hb]
      exact ⟨by omega, j2, j3⟩
    · obtain ⟨j1, _, _⟩ := h2 v1 s b1 v b b1.toNat h (by omega)
      rw [g3 (by omega)]
      exact ⟨by omega, fun h => by omega, fun _ => rfl⟩
theorem Cuts.ret {α : Type} (v : α) : Cuts (Rd.ret v) := by
  intro s a v' b k h hk
  simp only [Rd.ret, Option.some.injEq, Prod.mk.injEq] at h ⊢
  obtain ⟨rfl, rfl⟩ := h
  exact ⟨by omega, fun _ => ⟨rfl, rfl⟩, fun h => by omega⟩
theorem Cuts.fail {α : Type} : Cuts (Rd.fail (α := α)) := fun s a v b k h => by cases h
theorem Cuts.ite {α : Type} {c : Bool} {r q : Rd α} (h1 : Cuts r) (h2 : Cuts q) : Cuts (if c = true then r else q) := by cases c <;> simpa
/-- Bytes that begin others tell what those tell. -/
theorem Enc.begins {α : Type} {r : Rd α} {e e' : List UInt8} {v v' : α} (h : Enc r e v) (h' : Enc r e' v') (hp : e <+: e') : v = v' := by
  obtain ⟨t, rfl⟩ := hp
  have a := h [] t
  have b := h' [] []
  simp at a b
  rw [a] at b
  simp at b
  exact b.1
theorem Enc.cut {α : Type} {r : Rd α} {e : List UInt8} {v : α} (h : Enc r e v) (hc : Cuts r) (k : Nat) (hk : k < e.length) : r (e.take k) 0 = none := by
  have a := h [] []
  simp at a
  exact (hc e 0 v _ k a (by omega)).2.2 (by omega)

/-! Numbers. -/
def cont : List UInt8 → List UInt8
  | [] => []
  | [g] => [g]
  | g :: r => (g + 128) :: cont r
theorem cont_snoc (l : List UInt8) (g : UInt8) : cont (l ++ [g]) = l.map (· + 128) ++ [g] := by
  induction l with
  | nil => rfl
  | cons a r ih =>
    cases r with
    | nil => rfl
    | cons b q => simp only [List.cons_append, cont, List.map_cons] at ih ⊢; rw [ih]
theorem pack_cont (l : List UInt8) : pack l = cont l := by
  rcases List.eq_nil_or_concat l with rfl | ⟨q, g, rfl⟩
  · rfl
  · rw [List.concat_eq_append, cont_snoc]
    have : ∀ (n : Nat) (q : List UInt8) (g : UInt8), q.length = n → pack (q ++ [g]) = q.map (· + 128) ++ [g] := by
      intro n
      induction n with
      | zero => intro q g hq; obtain rfl := List.eq_nil_of_length_eq_zero hq; rfl
      | succ n ih =>
        intro q g hq
        rcases List.eq_nil_or_concat q with rfl | ⟨p, a, rfl⟩
        · simp at hq
        · rw [List.concat_eq_append] at hq ⊢
          rw [pack_snoc, ih p a (by simp at hq; omega), bump_snoc]
          simp
    exact this q.length q g rfl
theorem cont_length (l : List UInt8) : (cont l).length = l.length := by rw [← pack_cont, pack_length]
theorem u8_lt (b : UInt8) : b.toNat < 256 := b.toNat_lt
theorem rdGo_last {k : Nat} {b : UInt8} (st : Nat × Nat) (r : List UInt8) (hk : k ≠ 0) (h0 : b.toNat ≠ 0) (h9 : k = 9 → b.toNat ≤ 1) (hb : b.toNat < 128) : rdGo k st (b :: r) = .ok (st.1 + b.toNat * 2 ^ (7 * k - 1), st.2, k + 1) := by
  rw [rdGo, if_neg (by rintro ⟨_, h | ⟨h, h'⟩⟩ <;> omega)]
  simp only [hk, if_false, hb, if_true, Nat.mod_eq_of_lt hb]
theorem rdGo_more {k : Nat} {b : UInt8} (st : Nat × Nat) (r : List UInt8) (hk : k ≠ 0) (h9 : k ≠ 9) (hb : 128 ≤ b.toNat) : rdGo k st (b :: r) = rdGo (k + 1) (st.1 + b.toNat % 128 * 2 ^ (7 * k - 1), st.2) r := by
  rw [rdGo, if_neg (by rintro ⟨_, h | ⟨h, h'⟩⟩ <;> omega)]
  have : ¬ b.toNat < 128 := by omega
  simp only [hk, if_false, this]
theorem rdGo_last0 {b : UInt8} (st : Nat × Nat) (r : List UInt8) (hb : b.toNat < 128) : rdGo 0 st (b :: r) = .ok (b.toNat / 2, b.toNat % 2, 1) := by
  rw [rdGo, if_neg (by simp)]
  simp only [if_true, hb, Nat.mod_eq_of_lt hb]
theorem rdGo_more0 {b : UInt8} (st : Nat × Nat) (r : List UInt8) (hb : 128 ≤ b.toNat) : rdGo 0 st (b :: r) = rdGo 1 (b.toNat % 128 / 2, b.toNat % 128 % 2) r := by
  rw [rdGo, if_neg (by simp)]
  have : ¬ b.toNat < 128 := by omega
  simp only [if_true, this, if_false]
theorem rdGo_tail : ∀ (f k : Nat) (st : Nat × Nat) (m : Nat) (rest : List UInt8), m ≠ 0 → 1 ≤ k → k + f = 10 → m < 2 ^ (64 - 7 * k) →
    rdGo k st (cont (tailN f m) ++ rest) = .ok (st.1 + m * 2 ^ (7 * k - 1), st.2, k + (tailN f m).length) := by
  intro f
  induction f with
  | zero => intro k st m rest hm h1 h2 h3; obtain rfl : k = 10 := by omega
            simp at h3; omega
  | succ f ih =>
    intro k st m rest hm h1 h2 h3
    have hb : (UInt8.ofNat (m % 128)).toNat = m % 128 := by rw [UInt8.toNat_ofNat']; omega
    rw [tailN, if_neg hm]
    by_cases hd : m / 128 = 0
    · rw [hd, tailN_zero]
      simp only [cont, List.cons_append, List.nil_append]
      have hm' : m % 128 = m := by omega
      rw [rdGo_last st rest (by omega) (by rw [hb]; omega) (by rintro rfl; rw [hb]; simp at h3; omega) (by rw [hb]; omega), hb, hm']
      simp
    · have hk9 : k ≠ 9 := by rintro rfl; simp at h3; omega
      obtain ⟨x, r, hx⟩ : ∃ x r, tailN f (m / 128) = x :: r := by
        obtain ⟨f', rfl⟩ : ∃ f', f = f' + 1 := ⟨f - 1, by omega⟩
        rw [tailN, if_neg hd]; exact ⟨_, _, rfl⟩
      have hcn : cont (UInt8.ofNat (m % 128) :: tailN f (m / 128)) = (UInt8.ofNat (m % 128) + 128) :: cont (tailN f (m / 128)) := by rw [hx]; rfl
      rw [hcn, List.cons_append]
      have hbb : (UInt8.ofNat (m % 128) + 128).toNat = m % 128 + 128 := by
        rw [UInt8.toNat_add, hb]; show (m % 128 + 128) % 256 = _; omega
      rw [rdGo_more st _ (by omega) hk9 (by rw [hbb]; omega), hbb]
      have hp : (2 : Nat) ^ (64 - 7 * k) = 2 ^ (64 - 7 * (k + 1)) * 128 := by
        rw [show 64 - 7 * k = (64 - 7 * (k + 1)) + 7 by omega, Nat.pow_add]
      rw [ih (k + 1) _ (m / 128) rest hd (by omega) (by omega) (by rw [hp] at h3; omega)]
      have hq : (2 : Nat) ^ (7 * (k + 1) - 1) = 128 * 2 ^ (7 * k - 1) := by
        rw [show 7 * (k + 1) - 1 = 7 + (7 * k - 1) by omega, Nat.pow_add]
      simp only [List.length_cons]
      congr 2
      · rw [hq, show (m % 128 + 128) % 128 = m % 128 by omega]
        generalize 2 ^ (7 * k - 1) = Q
        have : m * Q = (m % 128) * Q + (m / 128) * (128 * Q) := by
          conv => lhs; rw [show m = m % 128 + 128 * (m / 128) by omega]
          rw [Nat.add_mul, Nat.mul_comm 128 (m / 128), Nat.mul_assoc]
        omega
      · congr 1; omega
theorem rd_num (x : Int) (h0 : -9223372036854775808 ≤ x) (h1 : x ≤ 9223372036854775807) (pre post : List UInt8) : rd (pre ++ num x ++ post) pre.length = .ok (x, (num x).length) := by
  have hm := mag_lt x h0 h1
  have hpos := num_pos x
  unfold rd
  rw [if_pos (by simp; omega)]
  have hd : List.drop (pre.length : Int).toNat (pre ++ num x ++ post) = num x ++ post := by
    rw [show (pre.length : Int).toNat = pre.length by omega, List.append_assoc, List.drop_left]
  have hnl : (num x).length = 1 + (tailN 9 (mag x / 64)).length := by rw [num, pack_length]; simp [groups]; omega
  rw [hd, hnl, num, pack_cont, groups]
  have hs : sgn x ≤ 1 := by unfold sgn; split <;> omega
  have hb : (UInt8.ofNat (mag x % 64 * 2 + sgn x)).toNat = mag x % 64 * 2 + sgn x := by rw [UInt8.toNat_ofNat']; omega
  have key : rdGo 0 (0, 0) (cont (UInt8.ofNat (mag x % 64 * 2 + sgn x) :: tailN 9 (mag x / 64)) ++ post) = .ok (mag x, sgn x, 1 + (tailN 9 (mag x / 64)).length) := by
    by_cases hz : mag x / 64 = 0
    · rw [hz, tailN_zero]
      simp only [cont, List.cons_append, List.nil_append]
      rw [rdGo_last0 _ _ (by rw [hb]; omega), hb]
      congr 2
      · omega
      · congr 1; omega
    · obtain ⟨y, r, hx⟩ : ∃ y r, tailN 9 (mag x / 64) = y :: r := by
        rw [show (9 : Nat) = 8 + 1 from rfl, tailN, if_neg hz]; exact ⟨_, _, rfl⟩
      have hcn : cont (UInt8.ofNat (mag x % 64 * 2 + sgn x) :: tailN 9 (mag x / 64)) = (UInt8.ofNat (mag x % 64 * 2 + sgn x) + 128) :: cont (tailN 9 (mag x / 64)) := by rw [hx]; rfl
      have hbb : (UInt8.ofNat (mag x % 64 * 2 + sgn x) + 128).toNat = mag x % 64 * 2 + sgn x + 128 := by
        rw [UInt8.toNat_add, hb]; show (_ + 128) % 256 = _; omega
      rw [hcn, List.cons_append, rdGo_more0 _ _ (by rw [hbb]; omega), hbb]
      rw [rdGo_tail 9 1 _ _ post hz (by omega) (by omega) (by show mag x / 64 < 144115188075855872; omega)]
      congr 2
      · show (mag x % 64 * 2 + sgn x + 128) % 128 / 2 + mag x / 64 * 64 = mag x; omega
      · congr 1; show (mag x % 64 * 2 + sgn x + 128) % 128 % 2 = sgn x; omega
  rw [key]
  dsimp only
  congr 2
  · unfold sgn mag; split <;> simp <;> omega
theorem enc_num (x : Int) (h0 : -9223372036854775808 ≤ x) (h1 : x ≤ 9223372036854775807) : Enc readNum (num x) x := by
  intro pre post
  rw [readNum, rd_num x h0 h1]
  simp
theorem enc_text (t : List UInt8) (ht : t.length ≤ 10000) : Enc readText (text t) t := by
  intro pre post
  have h := rd_num t.length (by omega) (by omega) pre (t ++ post)
  rw [show pre ++ text t ++ post = pre ++ num t.length ++ (t ++ post) by simp [text], readText, rdW, h]
  dsimp only
  rw [if_neg (by omega), if_neg (by simp; omega)]
  dsimp only
  rw [show ((pre.length : Int) + ((num t.length).length : Nat)).toNat = (pre ++ num t.length).length by simp; omega, List.drop_left, show ((t.length : Int)).toNat = t.length by omega, List.take_left]
  simp [text]; omega
theorem rdGo_take : ∀ (l : List UInt8) (k : Nat) (st : Nat × Nat) (m sg z j : Nat), rdGo k st l = .ok (m, sg, z) → k < z ∧ (z ≤ k + j → rdGo k st (l.take j) = .ok (m, sg, z)) ∧ (k + j < z → rdGo k st (l.take j) = .error false) := by
  intro l
  induction l with
  | nil => intro k st m sg z j h; cases h
  | cons b r ih =>
    intro k st m sg z j h
    rw [rdGo] at h
    split at h
    · cases h
    · rename_i hc
      dsimp only at h
      split at h
      · rename_i hb
        injection h with h
        simp only [Prod.mk.injEq] at h
        obtain ⟨h1, h2, h3⟩ := h
        refine ⟨by omega, fun hz => ?_, fun hz => ?_⟩
        · obtain ⟨j', rfl⟩ : ∃ j', j = j' + 1 := ⟨j - 1, by omega⟩
          rw [List.take_succ_cons, rdGo, if_neg hc]
          dsimp only
          rw [if_pos hb, h1, h2, h3]
        · obtain rfl : j = 0 := by omega
          rfl
      · rename_i hb
        cases j with
        | zero =>
          obtain ⟨h1, _, _⟩ := ih _ _ _ _ _ 0 h
          exact ⟨by omega, fun hz => by omega, fun _ => rfl⟩
        | succ j' =>
          obtain ⟨h1, h2, h3⟩ := ih _ _ _ _ _ j' h
          refine ⟨by omega, fun hz => ?_, fun hz => ?_⟩
          all_goals
            rw [List.take_succ_cons, rdGo, if_neg hc]
            dsimp only
            rw [if_neg hb]
          · exact h2 (by omega)
          · exact h3 (by omega)
theorem rd_take {s : List UInt8} {a n : Int} {z : Nat} (h : rd s a = .ok (n, z)) (k : Nat) (hk : a ≤ k) : 0 ≤ a ∧ (a + z ≤ k → rd (s.take k) a = .ok (n, z)) ∧ (k < a + z → rd (s.take k) a = .error false) := by
  have hbd := rd_bound h
  unfold rd at h
  split at h
  · rename_i hin
    cases hr : rdGo 0 (0, 0) (s.drop a.toNat) with
    | error e => rw [hr] at h; cases h
    | ok p =>
      obtain ⟨m, sg, z'⟩ := p
      rw [hr] at h
      dsimp only at h
      injection h with h
      simp only [Prod.mk.injEq] at h
      obtain ⟨h1, rfl⟩ := h
      obtain ⟨g1, g2, g3⟩ := rdGo_take _ _ _ _ _ _ (k - a.toNat) hr
      have hd : (s.take k).drop a.toNat = (s.drop a.toNat).take (k - a.toNat) := List.drop_take
      refine ⟨hin.1, fun hz => ?_, fun hz => ?_⟩
      · unfold rd
        rw [if_pos (by simp; omega), hd, g2 (by omega)]
        dsimp only
        rw [h1]
      · unfold rd
        split
        · rw [hd, g3 (by omega)]
        · rfl
  · cases h
theorem cuts_num : Cuts readNum := by
  intro s a v b k h hk
  unfold readNum at h ⊢
  cases hr : rd s a with
  | error e => rw [hr] at h; cases h
  | ok p =>
    obtain ⟨n, z⟩ := p
    rw [hr] at h
    simp only [Option.some.injEq, Prod.mk.injEq] at h
    obtain ⟨rfl, rfl⟩ := h
    obtain ⟨_, g1, g2⟩ := rd_take hr k hk
    exact ⟨by omega, fun h => by rw [g1 h], fun h => by rw [g2 h]⟩
theorem cuts_text : Cuts readText := by
  intro s a v b k h hk
  unfold readText rdW at h ⊢
  cases hr : rd s a with
  | error e => rw [hr] at h; cases h
  | ok p =>
    obtain ⟨n, z⟩ := p
    rw [hr] at h
    dsimp only at h
    obtain ⟨g0, g1, g2⟩ := rd_take hr k hk
    by_cases hn : n < 0 ∨ 10000 < n
    · rw [if_pos hn] at h; cases h
    rw [if_neg hn] at h
    by_cases hl : (s.length : Int) - (a + z) < n
    · rw [if_pos hl] at h; cases h
    rw [if_neg hl] at h
    simp only [Option.some.injEq, Prod.mk.injEq] at h
    obtain ⟨rfl, rfl⟩ := h
    have hbd := rd_bound hr
    refine ⟨by omega, fun hb => ?_, fun hb => ?_⟩
    · rw [g1 (by omega)]
      dsimp only
      rw [if_neg hn, if_neg (by simp; omega)]
      dsimp only
      rw [List.drop_take, List.take_take, show min n.toNat (k - (a + ↑z).toNat) = n.toNat by omega]
    · by_cases hz : a + z ≤ k
      · rw [g1 hz]
        dsimp only
        rw [if_neg hn, if_pos (by simp; omega)]
      · rw [g2 (by omega)]
end Go.Mor
end

section
/- The code of Cd1 is the program's; the examples run. No statement of the program is proved here. -/
namespace Go.Proofs.YtdlolkogifigpaaDoor
open Go Go.RowKit Go.Mor Go.Sh Go.Sh.Cd1
set_option maxRecDepth 100000
set_option maxHeartbeats 8000000

theorem funcs_ok : FuncsOk Tryd.prog funcs := by
  intro f G h
  unfold funcs at h
  split at h
  · cases h; exact ⟨_, _, _, _, tf_morainelaw03_ValBack⟩
  · cases h; exact ⟨_, _, _, _, tf_morainelaw03_ValOrder⟩
  · cases h; exact ⟨_, _, _, _, tf_morainelaw03_ValCut⟩
  · cases h; exact ⟨_, _, _, _, tf_morainelaw03_ValKinds⟩
  · cases h; exact ⟨_, _, _, _, tf_morainelaw03_ValFits⟩
  · cases h; exact ⟨_, _, _, _, tf_val_Zero⟩
  · cases h; exact ⟨_, _, _, _, tf_morainelaw03_awake⟩
  · cases h; exact ⟨_, _, _, _, tf_morainelaw03_ValOf⟩
  · cases h; exact ⟨_, _, _, _, tf_val_Encode⟩
  · cases h; exact ⟨_, _, _, _, tf_val_Decode⟩
  · cases h; exact ⟨_, _, _, _, tf_moraineref03_Same⟩
  · cases h; exact ⟨_, _, _, _, tf_morainelaw03_odd⟩
  · cases h; exact ⟨_, _, _, _, tf_val_Compare⟩
  · cases h; exact ⟨_, _, _, _, tf_val_Same⟩
  · cases h; exact ⟨_, _, _, _, tf_morainelaw03_pick⟩
  · cases h; exact ⟨_, _, _, _, tf_morainelaw03_ValType⟩
  · cases h; exact ⟨_, _, _, _, tf_morainelaw03_ValFit⟩
  · cases h; exact ⟨_, _, _, _, tf_val_Fits⟩
  · cases h; exact ⟨_, _, _, _, tf_val_rightType⟩
  · cases h; exact ⟨_, _, _, _, tf_val_Read⟩
  · cases h; exact ⟨_, _, _, _, tf_val_Right⟩
  · cases h; exact ⟨_, _, _, _, tf_morainelaw03_ValOne⟩
  · cases h; exact ⟨_, _, _, _, tf_val_lay⟩
  · cases h; exact ⟨_, _, _, _, tf___val_decoder__value⟩
  · cases h; exact ⟨_, _, _, _, tf_moraineref03_Compare⟩
  · cases h; exact ⟨_, _, _, _, tf_cmp_Compare_int_⟩
  · cases h; exact ⟨_, _, _, _, tf_cmp_Compare_string_⟩
  · cases h; exact ⟨_, _, _, _, tf_val_byItems_api_Val_⟩
  · cases h; exact ⟨_, _, _, _, tf_morainelaw03_fit⟩
  · cases h; exact ⟨_, _, _, _, tf_val_ofKind⟩
  · cases h; exact ⟨_, _, _, _, tf_slices_ContainsFunc___api_Val_api_Val_⟩
  · cases h; exact ⟨_, _, _, _, tf_val_Fits_1⟩
  · cases h; exact ⟨_, _, _, _, tf_moraineref03_IsText⟩
  · cases h; exact ⟨_, _, _, _, tf_val_reader⟩
  · cases h; exact ⟨_, _, _, _, tf_val_value⟩
  · cases h; exact ⟨_, _, _, _, tf_val_items⟩
  · cases h; exact ⟨_, _, _, _, tf_val_bare⟩
  · cases h; exact ⟨_, _, _, _, tf_val_rightText⟩
  · cases h; exact ⟨_, _, _, _, tf_val_rightID⟩
  · cases h; exact ⟨_, _, _, _, tf_val_noItem⟩
  · cases h; exact ⟨_, _, _, _, tf_morainelaw03_ValText⟩
  · cases h; exact ⟨_, _, _, _, tf___val_decoder__number⟩
  · cases h; exact ⟨_, _, _, _, tf___val_decoder__text⟩
  · cases h; exact ⟨_, _, _, _, tf___val_decoder__items⟩
  · cases h; exact ⟨_, _, _, _, tf_moraineref03_Order⟩
  · cases h; exact ⟨_, _, _, _, tf_cmp_isNaN_int_⟩
  · cases h; exact ⟨_, _, _, _, tf_cmp_isNaN_string_⟩
  · cases h; exact ⟨_, _, _, _, tf_slices_IndexFunc___api_Val_api_Val_⟩
  · cases h; exact ⟨_, _, _, _, tf_moraineref03_Sign⟩
  · cases h; exact ⟨_, _, _, _, tf_val_reader_1⟩
  · cases h; exact ⟨_, _, _, _, tf_val_first⟩
  · cases h; exact ⟨_, _, _, _, tf_val_quoted⟩
  · cases h; exact ⟨_, _, _, _, tf_val_reference⟩
  · cases h; exact ⟨_, _, _, _, tf_val_number⟩
  · cases h; exact ⟨_, _, _, _, tf_val_sign⟩
  · cases h; exact ⟨_, _, _, _, tf_val_plain⟩
  · cases h; exact ⟨_, _, _, _, tf_val_sign_1⟩
  · cases h
theorem hmix0 : Tryd.prog.follows .mixedOrders = true := by kernel_rfl
theorem awake_run : callF Tryd.prog funcs prim1 100 14 26 [] [] = some (.pv (.v (.bool true)), []) := by kernel_rfl
theorem awake_ok (a0 a1 : Addr) (n : Nat) : SCalls Tryd.prog (gl a0 a1 n) 26 [] [] (.pv (.v (.bool true))) [] :=
  callF_sound hmix0 funcs_ok (prim1_sound a0 a1 n) 14 _ _ _ _ _ awake_run
end Go.Proofs.YtdlolkogifigpaaDoor
end

section
/- The law ValKinds, walked. No statement of the program is proved here. -/
namespace Go.Proofs.YtdlolkogifigpaaDoor
open Go Go.RowKit Go.Mor Go.Sh Go.Sh.Cd1
set_option maxRecDepth 100000
set_option maxHeartbeats 4000000
theorem valOne_right' (k n : Int) (s : List UInt8) (hn : I64 n) : right1 (valOne k n s) = true ∧ (valOne k n s).k ≠ 5 := by
  have h := valOne_right k n s hn
  exact ⟨h, (right1_ok h).2.1⟩
theorem valOf_right (x : RawV) (hx : x.ok) : rightV (valOf x) = true := by
  obtain ⟨hk, hn, hs, hl, hlen⟩ := hx
  unfold valOf
  by_cases h : pickI x.k 7 < 5
  · rw [if_pos h]
    obtain ⟨h1, h2⟩ := valOne_right' (pickI x.k 7) x.n x.s hn
    by_cases h3 : 3 ≤ (valOne (pickI x.k 7) x.n x.s).k ∧ pickI (x.k.tdiv 7) 4 = 0
    · rw [if_pos h3]
      rcases right1_inv h1 with e | ⟨n, _, _, e⟩ | ⟨s, _, e⟩ | ⟨k, n, hkk, hi, e⟩
      · rw [e] at h3; simp [V.k] at h3
      · rw [e] at h3; simp [V.k] at h3
      · rw [e] at h3; simp [V.k] at h3
      · rw [e]
        have hp := pickI_lt (n := 20) (by decide) hn
        have hi : rightID (-1 - pickI x.n 20) = true := by unfold rightID; simp; omega
        have hk5 : ¬ k = 5 := by omega
        have hk0 : ¬ k = 0 := by omega
        have hk1 : ¬ k = 1 := by omega
        have hk2 : ¬ k = 2 := by omega
        simp [rightV, right1, bare, V.k, V.n, V.s, V.l, hk5, hk0, hk1, hk2, hkk, hi]
    · rw [if_neg h3]
      unfold rightV; rw [if_neg h2]; exact h1
  · rw [if_neg h]
    have hall : ∀ y ∈ oneL x.l, noItem y = false := by
      intro y hy
      simp only [oneL, List.mem_map] at hy
      obtain ⟨r, hr, rfl⟩ := hy
      obtain ⟨h1, h2⟩ := valOne_right' (pickI r.k 5) r.n r.s (hl r (List.mem_of_mem_take hr)).2.1
      simp [noItem, h1, h2]
    have hlen : (oneL x.l).length ≤ 12 := by simp [oneL]; omega
    have hany : (oneL x.l).any noItem = false := by rw [List.any_eq_false]; intro y hy; rw [hall y hy]; decide
    simp [rightV, V.k, V.n, V.s, V.l, hlen, hany]
theorem encV_len {x : V} (h : rightV x = true) : (encV x).length ≤ 980 ∧ 0 < (encV x).length := by
  by_cases h5 : x.k = 5
  · obtain ⟨h1, h2, h3, h4⟩ := rightL_inv h h5
    have := encTo_len (l := x.l) (fun y hy => (right1_ok (h4 y hy).2).1.2.2) x.l.length
    rw [encTo_all x h5] at this
    refine ⟨by omega, ?_⟩
    have := num_pos 5
    unfold encV; rw [if_pos h5]; simp; omega
  · have := enc1_len (right1_ok (rightV_one h h5)).1.2.2
    unfold encV; rw [if_neg h5]
    refine ⟨by omega, ?_⟩
    have := num_pos x.k
    unfold enc1; simp; omega
theorem rightV_I64 {x : V} (h : rightV x = true) : I64 x.k ∧ I64 x.n := by
  by_cases h5 : x.k = 5
  · obtain ⟨h1, _⟩ := rightL_inv h h5
    rw [h5, h1]; unfold I64; decide
  · have := (right1_ok (rightV_one h h5)).1
    exact ⟨this.1, this.2.1⟩
theorem encV_head (x : V) : ∃ r, encV x = num x.k ++ r := by
  by_cases h5 : x.k = 5
  · exact ⟨num x.l.length ++ x.l.flatMap enc1, by unfold encV; rw [if_pos h5, h5, List.append_assoc]⟩
  · exact ⟨_, by unfold encV; rw [if_neg h5]; rfl⟩
theorem read_kind {x : V} (h : rightV x = true) : readNum (encV x) 0 = some (x.k, ((num x.k).length : Int)) := by
  obtain ⟨r, hr⟩ := encV_head x
  have hk := (rightV_I64 h).1
  have := enc_num x.k hk.1 hk.2 [] r
  simp at this
  rw [hr]; exact this
theorem read_n {x : V} (h : rightV x = true) (hk : x.k = 1 ∨ x.k = 3 ∨ x.k = 4) : readNum (encV x) ((num x.k).length : Int) = some (x.n, ((encV x).length : Int)) := by
  have he : encV x = num x.k ++ num x.n := by unfold encV; rw [if_neg (by omega)]; unfold enc1; rw [if_pos hk]
  have hn := (rightV_I64 h).2
  have := enc_num x.n hn.1 hn.2 (num x.k) []
  simp at this
  rw [he, this]; simp
theorem valKinds_ok (a0 a1 : Addr) (m : Nat) (x : RawV) (hx : x.ok) : SCalls Tryd.prog (gl a0 a1 m) 10 [x.tv] [] (.pv (.v (.bool true))) [] := by
  refine call_of0 hmix tf_morainelaw03_ValKinds rfl ?_
  have HA := awake_ok a0 a1 m
  have HX := valOf_ok (gl a0 a1 m) x hx
  have hr := valOf_right x hx
  unfold RawV.tv at HX ⊢
  generalize valOf x = v at HX hr
  have HE := encode_ok a0 a1 m v (rightV_vok hr).1
  unfold encTV at HE
  rw [if_pos hr] at HE
  have hl := encV_len hr
  have HK := readNum_ok a0 a1 m (encV v) 0 (by omega) (by unfold I64; decide)
  rw [read_kind hr] at HK
  have hnl := num_length v.k
  simp only [vcA, Nat.reduceLT, Int.reduceEq, Int.reduceAdd, Int.reduceSub, Nat.reduceBEq, Nat.reduceEqDiff, reduceCtorEq, Nat.reduceAdd, Nat.reduceSub, Nat.reduceMul, Nat.reduceLeDiff, Int.reduceToNat, Int.reduceLT, Int.reduceLE, Int.reduceNeg, reduceIte, I, S, tv, nv, tyT, RawV.tv, R1.row, rowsGet, rowsLen, row4, Vk, Vn, Vs, Vl]
  (with_reducible apply v_call); (· simp only [vcA, Nat.reduceLT, Int.reduceEq, Int.reduceAdd, Int.reduceSub, Nat.reduceBEq, Nat.reduceEqDiff, reduceCtorEq, Nat.reduceAdd, Nat.reduceSub, Nat.reduceMul, Nat.reduceLeDiff, Int.reduceToNat, Int.reduceLT, Int.reduceLE, Int.reduceNeg, reduceIte, I, S, tv, nv, tyT, RawV.tv, R1.row, rowsGet, rowsLen, row4, Vk, Vn, Vs, Vl]; with_reducible rfl); (· exact HA); (· first | rfl | (simp only [moOk, nbeq, nble, List.length_nil, beq_self_eq_true, Bool.true_and, Bool.and_true, Bool.and_eq_true, decide_eq_true_eq]; omega)); (· simp only [vcA, Nat.reduceLT, Int.reduceEq, Int.reduceAdd, Int.reduceSub, Nat.reduceBEq, Nat.reduceEqDiff, reduceCtorEq, Nat.reduceAdd, Nat.reduceSub, Nat.reduceMul, Nat.reduceLeDiff, Int.reduceToNat, Int.reduceLT, Int.reduceLE, Int.reduceNeg, reduceIte, I, S, tv, nv, tyT, RawV.tv, R1.row, rowsGet, rowsLen, row4, Vk, Vn, Vs, Vl]; with_reducible rfl)
  simp only [vcA, Nat.reduceLT, Int.reduceEq, Int.reduceAdd, Int.reduceSub, Nat.reduceBEq, Nat.reduceEqDiff, reduceCtorEq, Nat.reduceAdd, Nat.reduceSub, Nat.reduceMul, Nat.reduceLeDiff, Int.reduceToNat, Int.reduceLT, Int.reduceLE, Int.reduceNeg, reduceIte, I, S, tv, nv, tyT, RawV.tv, R1.row, rowsGet, rowsLen, row4, Vk, Vn, Vs, Vl]
  (with_reducible apply v_call); (· simp only [vcA, Nat.reduceLT, Int.reduceEq, Int.reduceAdd, Int.reduceSub, Nat.reduceBEq, Nat.reduceEqDiff, reduceCtorEq, Nat.reduceAdd, Nat.reduceSub, Nat.reduceMul, Nat.reduceLeDiff, Int.reduceToNat, Int.reduceLT, Int.reduceLE, Int.reduceNeg, reduceIte, I, S, tv, nv, tyT, RawV.tv, R1.row, rowsGet, rowsLen, row4, Vk, Vn, Vs, Vl]; with_reducible rfl); (· exact HX); (· first | rfl | (simp only [moOk, nbeq, nble, List.length_nil, beq_self_eq_true, Bool.true_and, Bool.and_true, Bool.and_eq_true, decide_eq_true_eq]; omega)); (· simp only [vcA, Nat.reduceLT, Int.reduceEq, Int.reduceAdd, Int.reduceSub, Nat.reduceBEq, Nat.reduceEqDiff, reduceCtorEq, Nat.reduceAdd, Nat.reduceSub, Nat.reduceMul, Nat.reduceLeDiff, Int.reduceToNat, Int.reduceLT, Int.reduceLE, Int.reduceNeg, reduceIte, I, S, tv, nv, tyT, RawV.tv, R1.row, rowsGet, rowsLen, row4, Vk, Vn, Vs, Vl]; with_reducible rfl)
  simp only [vcA, Nat.reduceLT, Int.reduceEq, Int.reduceAdd, Int.reduceSub, Nat.reduceBEq, Nat.reduceEqDiff, reduceCtorEq, Nat.reduceAdd, Nat.reduceSub, Nat.reduceMul, Nat.reduceLeDiff, Int.reduceToNat, Int.reduceLT, Int.reduceLE, Int.reduceNeg, reduceIte, I, S, tv, nv, tyT, RawV.tv, R1.row, rowsGet, rowsLen, row4, Vk, Vn, Vs, Vl]
  (with_reducible apply v_call); (· simp only [vcA, Nat.reduceLT, Int.reduceEq, Int.reduceAdd, Int.reduceSub, Nat.reduceBEq, Nat.reduceEqDiff, reduceCtorEq, Nat.reduceAdd, Nat.reduceSub, Nat.reduceMul, Nat.reduceLeDiff, Int.reduceToNat, Int.reduceLT, Int.reduceLE, Int.reduceNeg, reduceIte, I, S, tv, nv, tyT, RawV.tv, R1.row, rowsGet, rowsLen, row4, Vk, Vn, Vs, Vl]; with_reducible rfl); (· exact HE); (· first | rfl | (simp only [moOk, nbeq, nble, List.length_nil, beq_self_eq_true, Bool.true_and, Bool.and_true, Bool.and_eq_true, decide_eq_true_eq]; omega)); (· simp only [vcA, Nat.reduceLT, Int.reduceEq, Int.reduceAdd, Int.reduceSub, Nat.reduceBEq, Nat.reduceEqDiff, reduceCtorEq, Nat.reduceAdd, Nat.reduceSub, Nat.reduceMul, Nat.reduceLeDiff, Int.reduceToNat, Int.reduceLT, Int.reduceLE, Int.reduceNeg, reduceIte, I, S, tv, nv, tyT, RawV.tv, R1.row, rowsGet, rowsLen, row4, Vk, Vn, Vs, Vl]; with_reducible rfl)
  simp only [vcA, Nat.reduceLT, Int.reduceEq, Int.reduceAdd, Int.reduceSub, Nat.reduceBEq, Nat.reduceEqDiff, reduceCtorEq, Nat.reduceAdd, Nat.reduceSub, Nat.reduceMul, Nat.reduceLeDiff, Int.reduceToNat, Int.reduceLT, Int.reduceLE, Int.reduceNeg, reduceIte, I, S, tv, nv, tyT, RawV.tv, R1.row, rowsGet, rowsLen, row4, Vk, Vn, Vs, Vl]
  (with_reducible apply v_call); (· simp only [vcA, Nat.reduceLT, Int.reduceEq, Int.reduceAdd, Int.reduceSub, Nat.reduceBEq, Nat.reduceEqDiff, reduceCtorEq, Nat.reduceAdd, Nat.reduceSub, Nat.reduceMul, Nat.reduceLeDiff, Int.reduceToNat, Int.reduceLT, Int.reduceLE, Int.reduceNeg, reduceIte, I, S, tv, nv, tyT, RawV.tv, R1.row, rowsGet, rowsLen, row4, Vk, Vn, Vs, Vl, numTV]; with_reducible rfl); (· exact HK); (· first | rfl | (simp only [moOk, nbeq, nble, List.length_nil, beq_self_eq_true, Bool.true_and, Bool.and_true, Bool.and_eq_true, decide_eq_true_eq]; omega)); (· simp only [vcA, Nat.reduceLT, Int.reduceEq, Int.reduceAdd, Int.reduceSub, Nat.reduceBEq, Nat.reduceEqDiff, reduceCtorEq, Nat.reduceAdd, Nat.reduceSub, Nat.reduceMul, Nat.reduceLeDiff, Int.reduceToNat, Int.reduceLT, Int.reduceLE, Int.reduceNeg, reduceIte, I, S, tv, nv, tyT, RawV.tv, R1.row, rowsGet, rowsLen, row4, Vk, Vn, Vs, Vl, numTV]; with_reducible rfl)
  simp only [vcA, Nat.reduceLT, Int.reduceEq, Int.reduceAdd, Int.reduceSub, Nat.reduceBEq, Nat.reduceEqDiff, reduceCtorEq, Nat.reduceAdd, Nat.reduceSub, Nat.reduceMul, Nat.reduceLeDiff, Int.reduceToNat, Int.reduceLT, Int.reduceLE, Int.reduceNeg, reduceIte, I, S, tv, nv, tyT, RawV.tv, R1.row, rowsGet, rowsLen, row4, Vk, Vn, Vs, Vl]
  have HN : (v.k = 1 ∨ v.k = 3 ∨ v.k = 4) → SCalls Tryd.prog (gl a0 a1 m) 35 [S (str (encV v)), I ((num v.k).length : Int)] [] (numTV (some (v.n, ((encV v).length : Int)))) [] := fun hk => by
    have h := readNum_ok a0 a1 m (encV v) ((num v.k).length : Int) (by omega) (by unfold I64; omega)
    rw [read_n hr hk] at h; exact h
  repeat' (first | (apply And.intro) | (intro _))
  all_goals first
    | ((with_reducible apply v_call); (· simp only [vcA, Nat.reduceLT, Int.reduceEq, Int.reduceAdd, Int.reduceSub, Nat.reduceBEq, Nat.reduceEqDiff, reduceCtorEq, Nat.reduceAdd, Nat.reduceSub, Nat.reduceMul, Nat.reduceLeDiff, Int.reduceToNat, Int.reduceLT, Int.reduceLE, Int.reduceNeg, reduceIte, I, S, tv, nv, tyT, RawV.tv, R1.row, rowsGet, rowsLen, row4, Vk, Vn, Vs, Vl, numTV]; with_reducible rfl); (· exact HN (by omega)); (· first | rfl | (simp only [moOk, nbeq, nble, List.length_nil, beq_self_eq_true, Bool.true_and, Bool.and_true, Bool.and_eq_true, decide_eq_true_eq]; omega)); (· simp only [vcA, Nat.reduceLT, Int.reduceEq, Int.reduceAdd, Int.reduceSub, Nat.reduceBEq, Nat.reduceEqDiff, reduceCtorEq, Nat.reduceAdd, Nat.reduceSub, Nat.reduceMul, Nat.reduceLeDiff, Int.reduceToNat, Int.reduceLT, Int.reduceLE, Int.reduceNeg, reduceIte, I, S, tv, nv, tyT, RawV.tv, R1.row, rowsGet, rowsLen, row4, Vk, Vn, Vs, Vl, numTV]; with_reducible rfl); simp only [vcA, Nat.reduceLT, Int.reduceEq, Int.reduceAdd, Int.reduceSub, Nat.reduceBEq, Nat.reduceEqDiff, reduceCtorEq, Nat.reduceAdd, Nat.reduceSub, Nat.reduceMul, Nat.reduceLeDiff, Int.reduceToNat, Int.reduceLT, Int.reduceLE, Int.reduceNeg, reduceIte, I, S, tv, nv, tyT, RawV.tv, R1.row, rowsGet, rowsLen, row4, Vk, Vn, Vs, Vl]; done)
    | trivial
end Go.Proofs.YtdlolkogifigpaaDoor
end

section
/- What is laid as bytes is read back; what is cut off is none. No statement of the program is proved here. -/
namespace Go.Proofs.YtdlolkogifigpaaDoor
open Go Go.Mor
abbrev Rx (α : Type) := List UInt8 → Int → Except Int (α × Int)
def bindE {α β : Type} (r : Rx α) (f : α → Rx β) : Rx β := fun s a => match r s a with | .ok (x, b) => f x s b | .error e => .error e
def EncE {α : Type} (r : Rx α) (e : List UInt8) (v : α) : Prop := ∀ pre post : List UInt8, r (pre ++ e ++ post) pre.length = .ok (v, ((pre.length + e.length : Nat) : Int))
def CutE {α : Type} (r : Rx α) : Prop := ∀ (s : List UInt8) (a : Int) (v : α) (b : Int) (k : Nat), r s a = .ok (v, b) → a ≤ k → a ≤ b ∧ (b ≤ k → r (s.take k) a = .ok (v, b)) ∧ (k < b → r (s.take k) a = .error 10)
theorem EncE.bind {α β : Type} {r : Rx α} {f : α → Rx β} {e1 e2 : List UInt8} {v1 : α} {v2 : β} (h1 : EncE r e1 v1) (h2 : EncE (f v1) e2 v2) : EncE (bindE r f) (e1 ++ e2) v2 := by
  intro pre post
  unfold bindE
  have a1 := h1 pre (e2 ++ post)
  have a2 := h2 (pre ++ e1) post
  rw [show pre ++ (e1 ++ e2) ++ post = pre ++ e1 ++ (e2 ++ post) by simp, a1]
  simp only []
  rw [show pre ++ e1 ++ (e2 ++ post) = pre ++ e1 ++ e2 ++ post by simp, show pre.length + e1.length = (pre ++ e1).length by simp, a2]
  simp [Nat.add_assoc]
theorem CutE.bind {α β : Type} {r : Rx α} {f : α → Rx β} (h1 : CutE r) (h2 : ∀ v, CutE (f v)) : CutE (bindE r f) := by
  intro s a v b k h hk
  unfold bindE at h ⊢
  cases hr : r s a with
  | error e => rw [hr] at h; cases h
  | ok q =>
    obtain ⟨x, c⟩ := q
    rw [hr] at h
    simp only [] at h
    obtain ⟨p1, p2, p3⟩ := h1 s a x c k hr hk
    have hc : c ≤ b := (h2 x s c v b c.toNat h (by omega)).1
    refine ⟨by omega, fun hb => ?_, fun hb => ?_⟩
    · rw [p2 (by omega)]
      exact (h2 x s c v b k h (by omega)).2.1 hb
    · by_cases hck : c ≤ k
      · rw [p2 hck]; exact (h2 x s c v b k h hck).2.2 hb
      · rw [p3 (by omega)]
theorem CutE.ret {α : Type} (v : α) : CutE (fun _ a => .ok (v, a)) := by
  intro s a w b k h hk
  cases h
  exact ⟨Int.le_refl _, fun _ => rfl, fun h => by omega⟩
theorem CutE.fail {α : Type} (e : Int) : CutE (fun _ _ => (.error e : Except Int (α × Int))) := fun s a v b k h => by cases h
theorem cutE_num (lo hi : Int) : CutE (fun s a => dNum s a lo hi) := by
  intro s a n b k h hk
  obtain ⟨hr, h1, h2⟩ := dNum_inv h
  obtain ⟨p1, p2, p3⟩ := cuts_num s a n b k hr hk
  refine ⟨p1, fun hb => ?_, fun hb => ?_⟩
  · show dNum (s.take k) a lo hi = _
    unfold dNum; rw [p2 hb]; simp only []; rw [if_neg (by omega)]
  · show dNum (s.take k) a lo hi = _
    unfold dNum; rw [p3 hb]
theorem dText_inv {s : List UInt8} {a : Int} {t : List UInt8} {b : Int} (h : dText s a = .ok (t, b)) : readText s a = some (t, b) ∧ rightText t = true := by
  unfold dText at h
  cases hr : readText s a with
  | none => rw [hr] at h; cases h
  | some q =>
    obtain ⟨t', b'⟩ := q
    rw [hr] at h
    simp only [] at h
    by_cases hh : rightText t' = true
    · rw [if_pos hh] at h; cases h; exact ⟨rfl, hh⟩
    · rw [if_neg hh] at h; cases h
theorem cutE_text : CutE dText := by
  intro s a t b k h hk
  obtain ⟨hr, h1⟩ := dText_inv h
  obtain ⟨p1, p2, p3⟩ := cuts_text s a t b k hr hk
  refine ⟨p1, fun hb => ?_, fun hb => ?_⟩
  · unfold dText; rw [p2 hb]; simp only []; rw [if_pos h1]
  · unfold dText; rw [p3 hb]
theorem encE_num {x lo hi : Int} (hx : I64 x) (h1 : lo ≤ x) (h2 : x ≤ hi) : EncE (fun s a => dNum s a lo hi) (num x) x := by
  intro pre post
  show dNum _ _ _ _ = _
  unfold dNum; rw [enc_num x hx.1 hx.2 pre post]; simp only []; rw [if_neg (by omega)]
theorem encE_text {t : List UInt8} (h : rightText t = true) : EncE dText (text t) t := by
  intro pre post
  unfold dText; rw [enc_text t (by have := rightText_len h; omega) pre post]; simp only []; rw [if_pos h]
theorem EncE.ret {α : Type} (v : α) : EncE (fun _ a => .ok (v, a)) [] v := fun pre post => by simp
theorem dRest_eq (k : Int) : (fun s b => dRest s k b) = (if k = 1 then bindE (fun s b => dNum s b (-1000000000000000) 1000000000000000) (fun n => fun _ c => .ok (.mk 1 n [] [], c))
    else if k = 2 then bindE dText (fun t => fun _ c => .ok (.mk 2 0 t [], c))
    else if k = 3 ∨ k = 4 then bindE (fun s b => dNum s b (-20) 100000) (fun n => if n = 0 then (fun _ _ => .error 30) else (fun _ c => .ok (.mk k n [] [], c)))
    else (fun _ b => .ok (.mk k 0 [] [], b))) := by
  funext s b
  unfold dRest
  by_cases e1 : k = 1
  · simp only [e1, if_true, bindE]
    cases dNum s b (-1000000000000000) 1000000000000000 <;> rfl
  by_cases e2 : k = 2
  · rw [if_neg e1, if_neg e1, if_pos e2, if_pos e2]
    unfold bindE
    cases dText s b <;> rfl
  by_cases e3 : k = 3 ∨ k = 4
  · simp only [e1, e2, e3, if_true, if_false, bindE]
    cases dNum s b (-20) 100000 with
    | error e => rfl
    | ok q => obtain ⟨n, c⟩ := q; simp only []; split <;> rfl
  · simp only [e1, e2, e3, if_false]
theorem cutE_rest (k : Int) : CutE (fun s b => dRest s k b) := by
  rw [dRest_eq]
  split
  · exact (cutE_num _ _).bind fun n => CutE.ret _
  split
  · exact cutE_text.bind fun t => CutE.ret _
  split
  · refine (cutE_num _ _).bind fun n => ?_
    split
    · exact CutE.fail 30
    · exact CutE.ret _
  · exact CutE.ret _
theorem dVal1_eq : dVal1 = bindE (fun s a => dNum s a 0 4) (fun k => fun s b => dRest s k b) := by
  funext s a; simp only [dVal1, bindE]; cases dNum s a 0 4 <;> rfl
theorem cutE_val1 : CutE dVal1 := by rw [dVal1_eq]; exact (cutE_num _ _).bind cutE_rest
theorem dLoop_eq (n : Nat) (l : List V) : (fun s a => dLoop s (n + 1) a l) = bindE dVal1 (fun v => fun s b => dLoop s n b (l ++ [v])) := by
  funext s a; simp only [dLoop, bindE]; cases dVal1 s a <;> rfl
theorem cutE_loop : ∀ (n : Nat) (l : List V), CutE (fun s a => dLoop s n a l)
  | 0, l => by simp only [dLoop]; exact CutE.ret _
  | n + 1, l => by rw [dLoop_eq]; exact cutE_val1.bind fun v => cutE_loop n _
theorem dItems_eq : dItems = bindE (fun s a => dNum s a 0 12) (fun n => fun s b => dLoop s n.toNat b []) := by
  funext s a; simp only [dItems, bindE]; cases dNum s a 0 12 <;> rfl
theorem dVal_eq : dVal = bindE (fun s a => dNum s a 0 5) (fun k => if k = 5 then bindE dItems (fun l => fun _ c => .ok (.mk 5 0 [] l, c)) else fun s b => dRest s k b) := by
  funext s a; simp only [dVal, bindE]
  cases dNum s a 0 5 with
  | error e => rfl
  | ok q =>
    obtain ⟨k, b⟩ := q
    simp only []
    by_cases h5 : k = 5
    · rw [if_pos h5, if_pos h5]; simp only [bindE]; cases dItems s b <;> rfl
    · rw [if_neg h5, if_neg h5]
theorem cutE_val : CutE dVal := by
  rw [dVal_eq]
  refine (cutE_num _ _).bind fun k => ?_
  split
  · rw [dItems_eq]; exact ((cutE_num _ _).bind fun n => cutE_loop _ _).bind fun l => CutE.ret _
  · exact cutE_rest k
theorem encE_one {x : V} (h : right1 x = true) (hi : Int) (hh : 4 ≤ hi) : EncE (bindE (fun s a => dNum s a 0 hi) (fun k => fun s b => dRest s k b)) (enc1 x) x := by
  have hok := (right1_ok h).1
  rcases right1_inv h with rfl | ⟨n, h1, h2, rfl⟩ | ⟨s, h1, rfl⟩ | ⟨k, n, hk, h1, rfl⟩
  · have he : enc1 (.mk 0 0 [] []) = num 0 ++ [] := rfl
    rw [he]
    refine (encE_num (by unfold I64; decide) (by decide) (by omega)).bind ?_
    rw [dRest_eq]; exact EncE.ret _
  · have he : enc1 (.mk 1 n [] []) = num 1 ++ (num n ++ []) := by rw [List.append_nil]; rfl
    rw [he]
    refine (encE_num (by unfold I64; decide) (by decide) (by omega)).bind ?_
    rw [dRest_eq, if_pos rfl]
    exact (encE_num hok.2.1 h1 h2).bind (EncE.ret _)
  · have he : enc1 (.mk 2 0 s []) = num 2 ++ (text s ++ []) := by rw [List.append_nil]; rfl
    rw [he]
    refine (encE_num (by unfold I64; decide) (by decide) (by omega)).bind ?_
    rw [dRest_eq, if_neg (by decide), if_pos rfl]
    exact (encE_text h1).bind (EncE.ret _)
  · have hid := rightID_inv h1
    have he : enc1 (.mk k n [] []) = num k ++ (num n ++ []) := by
      unfold enc1; rw [Vk, Vn, if_pos (by omega), List.append_nil]
    rw [he]
    refine (encE_num (x := k) hok.1 (by omega) (by omega)).bind ?_
    rw [dRest_eq, if_neg (by omega), if_neg (by omega), if_pos hk]
    refine (encE_num (x := n) hok.2.1 (by omega) (by omega)).bind ?_
    rw [if_neg (by omega)]
    exact EncE.ret _
theorem encE_val1 {x : V} (h : right1 x = true) : EncE dVal1 (enc1 x) x := by rw [dVal1_eq]; exact encE_one h 4 (by decide)
theorem encE_loop : ∀ (l acc : List V), (∀ y ∈ l, right1 y = true) → EncE (fun s a => dLoop s l.length a acc) (l.flatMap enc1) (acc ++ l)
  | [], acc, _ => by simp only [List.length_nil, dLoop, List.flatMap_nil, List.append_nil]; exact EncE.ret _
  | y :: l, acc, h => by
    rw [List.length_cons, dLoop_eq, List.flatMap_cons]
    refine (encE_val1 (h y (by simp))).bind ?_
    have := encE_loop l (acc ++ [y]) (fun z hz => h z (by simp [hz]))
    rw [List.append_assoc] at this
    exact this
theorem encE_val {x : V} (h : rightV x = true) : EncE dVal (encV x) x := by
  by_cases h5 : x.k = 5
  · obtain ⟨h1, h2, h3, h4⟩ := rightL_inv h h5
    have he : encV x = num 5 ++ ((num x.l.length ++ x.l.flatMap enc1) ++ []) := by unfold encV; rw [if_pos h5]; simp
    have hx : x = .mk 5 0 [] x.l := by conv => lhs; rw [← V.eta x, h5, h1, h2]
    rw [he, dVal_eq]
    refine (encE_num (by unfold I64; decide) (by decide) (by decide)).bind ?_
    rw [if_pos rfl]
    have hI : EncE dItems (num x.l.length ++ x.l.flatMap enc1) x.l := by
      rw [dItems_eq]
      refine (encE_num (by unfold I64; omega) (by omega) (by omega)).bind ?_
      have := encE_loop x.l [] (fun y hy => (h4 y hy).2)
      rw [Int.toNat_natCast]
      simpa using this
    have := hI.bind (β := V) (f := fun l => fun _ c => .ok (V.mk 5 0 [] l, c)) (EncE.ret (V.mk 5 0 [] x.l))
    rw [← hx] at this
    exact this
  · have hr := rightV_one h h5
    have he : encV x = enc1 x := by unfold encV; rw [if_neg h5]
    rw [he]
    have h0 := encE_one hr 5 (by decide)
    intro pre post
    have := h0 pre post
    rw [dVal_eq]
    simp only [bindE] at this ⊢
    cases hn : dNum (pre ++ enc1 x ++ post) pre.length 0 5 with
    | error e => rw [hn] at this; cases this
    | ok q =>
      obtain ⟨k, b⟩ := q
      rw [hn] at this
      simp only [] at this ⊢
      have hk5 : k ≠ 5 := by
        intro hk
        have hd := (dNum_inv hn).1
        have hhd : ∃ r, enc1 x = num x.k ++ r := ⟨_, rfl⟩
        obtain ⟨r, hr'⟩ := hhd
        have hok := (right1_ok hr).1.1
        have := enc_num x.k hok.1 hok.2 pre (r ++ post)
        rw [show pre ++ num x.k ++ (r ++ post) = pre ++ enc1 x ++ post by rw [hr']; simp, hd] at this
        cases this
        exact h5 hk
      rw [if_neg hk5]
      exact this
theorem EncE.cut {α : Type} {r : Rx α} {e : List UInt8} {v : α} (h : EncE r e v) (hc : CutE r) (k : Nat) (hk : k < e.length) : r (e.take k) 0 = .error 10 := by
  have h0 := h [] []
  simp at h0
  exact (hc e 0 v _ k h0 (by omega)).2.2 (by omega)
theorem EncE.begins {α : Type} {r : Rx α} {e e' : List UInt8} {v v' : α} (h : EncE r e v) (h' : EncE r e' v') (hp : e <+: e') : v = v' := by
  obtain ⟨t, rfl⟩ := hp
  have a := h [] t
  have b := h' [] []
  simp at a b
  rw [a] at b
  simp only [Except.ok.injEq, Prod.mk.injEq] at b
  exact b.1
end Go.Proofs.YtdlolkogifigpaaDoor
end

section
/- The law ValBack, walked. No statement of the program is proved here. -/
namespace Go.Proofs.YtdlolkogifigpaaDoor
open Go Go.RowKit Go.Mor Go.Sh Go.Sh.Cd1
set_option maxRecDepth 100000
set_option maxHeartbeats 4000000
theorem bbEq (p q : Bool) : scal Tryd.prog (do eqGuard .eql 4 (.const (.bool p)) (.const (.bool q)) (.bool p) (.bool q); binOp .eql 4 (.bool p) (.bool q)) = some (.pv (.v (.bool (p == q))), .no) := by
  cases p <;> cases q <;> kernel_rfl
theorem take20 (s : List UInt8) : s.take (min (s.length : Int) 20).toNat = s.take 20 := by
  rcases Nat.le_total s.length 20 with h | h
  · rw [List.take_of_length_le (by omega), List.take_of_length_le h]
  · congr 1; omega
theorem begins_law {v w : V} (hv : rightV v = true) (hw : rightV w = true) (hle : (encV v).length ≤ (encV w).length) : ((encV w).take (min ((encV v).length : Int) ((encV w).length : Int)).toNat == encV v) = decide (cmpV v w = 0) := by
  have hm : (min ((encV v).length : Int) ((encV w).length : Int)).toNat = (encV v).length := by omega
  rw [hm, Bool.eq_iff_iff, beq_iff_eq, decide_eq_true_eq, cmpV_zero]
  constructor
  · intro h
    exact (encE_val hv).begins (encE_val hw) ⟨(encV w).drop (encV v).length, by conv => rhs; rw [← List.take_append_drop (encV v).length (encV w), h]⟩
  · rintro rfl; exact List.take_length
theorem begins_not {v w : V} (hle : ¬ (encV v).length ≤ (encV w).length) : decide (cmpV v w = 0) = false := by
  rw [decide_eq_false_iff_not, cmpV_zero]
  rintro rfl; exact hle (Nat.le_refl _)
theorem valBack_ok (a0 a1 : Addr) (m : Nat) (x y : RawV) (ah be : List UInt8) (hx : x.ok) (hy : y.ok) (hah : ah.length ≤ 9223372036854775807) (hbe : be.length ≤ 9223372036854775807) :
    SCalls Tryd.prog (gl a0 a1 m) 7 [x.tv, y.tv, S (str ah), S (str be)] [] (.pv (.v (.bool true))) [] := by
  refine call_of0 hmix tf_morainelaw03_ValBack rfl ?_
  have HA := awake_ok a0 a1 m
  have HX := valOf_ok (gl a0 a1 m) x hx
  have HY := valOf_ok (gl a0 a1 m) y hy
  have rx := valOf_right x hx
  have ry := valOf_right y hy
  unfold RawV.tv at HX HY ⊢
  generalize valOf x = v at HX rx
  generalize valOf y = w at HY ry
  obtain ⟨o1, s1, _, _⟩ := rightV_vok rx
  obtain ⟨o2, s2, _, _⟩ := rightV_vok ry
  have HE := encode_ok a0 a1 m v o1
  have HF := encode_ok a0 a1 m w o2
  unfold encTV at HE HF
  rw [if_pos rx] at HE
  rw [if_pos ry] at HF
  have l1 := encV_len rx
  have l2 := encV_len ry
  have t1 := take20 ah
  have t2 := take20 be
  have n1 : (ah.take 20).length ≤ 20 := by simp; omega
  have n2 : (be.take 20).length ≤ 20 := by simp; omega
  have HD := decode_ok a0 a1 m (ah.take 20 ++ encV v ++ be.take 20) ((ah.take 20).length : Int) (by unfold SmallS; simp only [List.length_append]; omega) (by omega) (by simp only [List.length_append]; omega) (encE_val rx (ah.take 20) (be.take 20))
  have HS := refSame_ok (gl a0 a1 m) v v s1
  have HT := refSame_ok (gl a0 a1 m) v w s1
  rw [cmpV_self] at HS
  have hbl := fun h => begins_law rx ry h
  have hbn := fun h => begins_not (v := v) (w := w) h
  have hbb := bbEq
  simp only [vcA, Nat.reduceLT, Int.reduceEq, Int.reduceAdd, Int.reduceSub, Nat.reduceBEq, Nat.reduceEqDiff, reduceCtorEq, Nat.reduceAdd, Nat.reduceSub, Nat.reduceMul, Nat.reduceLeDiff, Int.reduceToNat, Int.reduceLT, Int.reduceLE, Int.reduceNeg, reduceIte, I, S, tv, nv, tyT, RawV.tv, R1.row, rowsGet, rowsLen, row4, Vk, Vn, Vs, Vl]
  (with_reducible apply v_call); (· simp only [vcA, Nat.reduceLT, Int.reduceEq, Int.reduceAdd, Int.reduceSub, Nat.reduceBEq, Nat.reduceEqDiff, reduceCtorEq, Nat.reduceAdd, Nat.reduceSub, Nat.reduceMul, Nat.reduceLeDiff, Int.reduceToNat, Int.reduceLT, Int.reduceLE, Int.reduceNeg, reduceIte, I, S, tv, nv, tyT, RawV.tv, R1.row, rowsGet, rowsLen, row4, Vk, Vn, Vs, Vl]; with_reducible rfl); (· exact HA); (· first | rfl | (simp only [moOk, nbeq, nble, List.length_nil, beq_self_eq_true, Bool.true_and, Bool.and_true, Bool.and_eq_true, decide_eq_true_eq]; omega)); (· simp only [vcA, Nat.reduceLT, Int.reduceEq, Int.reduceAdd, Int.reduceSub, Nat.reduceBEq, Nat.reduceEqDiff, reduceCtorEq, Nat.reduceAdd, Nat.reduceSub, Nat.reduceMul, Nat.reduceLeDiff, Int.reduceToNat, Int.reduceLT, Int.reduceLE, Int.reduceNeg, reduceIte, I, S, tv, nv, tyT, RawV.tv, R1.row, rowsGet, rowsLen, row4, Vk, Vn, Vs, Vl]; with_reducible rfl)
  simp only [vcA, Nat.reduceLT, Int.reduceEq, Int.reduceAdd, Int.reduceSub, Nat.reduceBEq, Nat.reduceEqDiff, reduceCtorEq, Nat.reduceAdd, Nat.reduceSub, Nat.reduceMul, Nat.reduceLeDiff, Int.reduceToNat, Int.reduceLT, Int.reduceLE, Int.reduceNeg, reduceIte, I, S, tv, nv, tyT, RawV.tv, R1.row, rowsGet, rowsLen, row4, Vk, Vn, Vs, Vl]
  (with_reducible apply v_call); (· simp only [vcA, Nat.reduceLT, Int.reduceEq, Int.reduceAdd, Int.reduceSub, Nat.reduceBEq, Nat.reduceEqDiff, reduceCtorEq, Nat.reduceAdd, Nat.reduceSub, Nat.reduceMul, Nat.reduceLeDiff, Int.reduceToNat, Int.reduceLT, Int.reduceLE, Int.reduceNeg, reduceIte, I, S, tv, nv, tyT, RawV.tv, R1.row, rowsGet, rowsLen, row4, Vk, Vn, Vs, Vl]; with_reducible rfl); (· exact HX); (· first | rfl | (simp only [moOk, nbeq, nble, List.length_nil, beq_self_eq_true, Bool.true_and, Bool.and_true, Bool.and_eq_true, decide_eq_true_eq]; omega)); (· simp only [vcA, Nat.reduceLT, Int.reduceEq, Int.reduceAdd, Int.reduceSub, Nat.reduceBEq, Nat.reduceEqDiff, reduceCtorEq, Nat.reduceAdd, Nat.reduceSub, Nat.reduceMul, Nat.reduceLeDiff, Int.reduceToNat, Int.reduceLT, Int.reduceLE, Int.reduceNeg, reduceIte, I, S, tv, nv, tyT, RawV.tv, R1.row, rowsGet, rowsLen, row4, Vk, Vn, Vs, Vl]; with_reducible rfl)
  simp only [vcA, Nat.reduceLT, Int.reduceEq, Int.reduceAdd, Int.reduceSub, Nat.reduceBEq, Nat.reduceEqDiff, reduceCtorEq, Nat.reduceAdd, Nat.reduceSub, Nat.reduceMul, Nat.reduceLeDiff, Int.reduceToNat, Int.reduceLT, Int.reduceLE, Int.reduceNeg, reduceIte, I, S, tv, nv, tyT, RawV.tv, R1.row, rowsGet, rowsLen, row4, Vk, Vn, Vs, Vl]
  (with_reducible apply v_call); (· simp only [vcA, Nat.reduceLT, Int.reduceEq, Int.reduceAdd, Int.reduceSub, Nat.reduceBEq, Nat.reduceEqDiff, reduceCtorEq, Nat.reduceAdd, Nat.reduceSub, Nat.reduceMul, Nat.reduceLeDiff, Int.reduceToNat, Int.reduceLT, Int.reduceLE, Int.reduceNeg, reduceIte, I, S, tv, nv, tyT, RawV.tv, R1.row, rowsGet, rowsLen, row4, Vk, Vn, Vs, Vl]; with_reducible rfl); (· exact HY); (· first | rfl | (simp only [moOk, nbeq, nble, List.length_nil, beq_self_eq_true, Bool.true_and, Bool.and_true, Bool.and_eq_true, decide_eq_true_eq]; omega)); (· simp only [vcA, Nat.reduceLT, Int.reduceEq, Int.reduceAdd, Int.reduceSub, Nat.reduceBEq, Nat.reduceEqDiff, reduceCtorEq, Nat.reduceAdd, Nat.reduceSub, Nat.reduceMul, Nat.reduceLeDiff, Int.reduceToNat, Int.reduceLT, Int.reduceLE, Int.reduceNeg, reduceIte, I, S, tv, nv, tyT, RawV.tv, R1.row, rowsGet, rowsLen, row4, Vk, Vn, Vs, Vl]; with_reducible rfl)
  simp only [vcA, Nat.reduceLT, Int.reduceEq, Int.reduceAdd, Int.reduceSub, Nat.reduceBEq, Nat.reduceEqDiff, reduceCtorEq, Nat.reduceAdd, Nat.reduceSub, Nat.reduceMul, Nat.reduceLeDiff, Int.reduceToNat, Int.reduceLT, Int.reduceLE, Int.reduceNeg, reduceIte, I, S, tv, nv, tyT, RawV.tv, R1.row, rowsGet, rowsLen, row4, Vk, Vn, Vs, Vl]
  (with_reducible apply v_call); (· simp only [vcA, Nat.reduceLT, Int.reduceEq, Int.reduceAdd, Int.reduceSub, Nat.reduceBEq, Nat.reduceEqDiff, reduceCtorEq, Nat.reduceAdd, Nat.reduceSub, Nat.reduceMul, Nat.reduceLeDiff, Int.reduceToNat, Int.reduceLT, Int.reduceLE, Int.reduceNeg, reduceIte, I, S, tv, nv, tyT, RawV.tv, R1.row, rowsGet, rowsLen, row4, Vk, Vn, Vs, Vl]; with_reducible rfl); (· exact HE); (· first | rfl | (simp only [moOk, nbeq, nble, List.length_nil, beq_self_eq_true, Bool.true_and, Bool.and_true, Bool.and_eq_true, decide_eq_true_eq]; omega)); (· simp only [vcA, Nat.reduceLT, Int.reduceEq, Int.reduceAdd, Int.reduceSub, Nat.reduceBEq, Nat.reduceEqDiff, reduceCtorEq, Nat.reduceAdd, Nat.reduceSub, Nat.reduceMul, Nat.reduceLeDiff, Int.reduceToNat, Int.reduceLT, Int.reduceLE, Int.reduceNeg, reduceIte, I, S, tv, nv, tyT, RawV.tv, R1.row, rowsGet, rowsLen, row4, Vk, Vn, Vs, Vl]; with_reducible rfl)
  simp only [vcA, Nat.reduceLT, Int.reduceEq, Int.reduceAdd, Int.reduceSub, Nat.reduceBEq, Nat.reduceEqDiff, reduceCtorEq, Nat.reduceAdd, Nat.reduceSub, Nat.reduceMul, Nat.reduceLeDiff, Int.reduceToNat, Int.reduceLT, Int.reduceLE, Int.reduceNeg, reduceIte, I, S, tv, nv, tyT, RawV.tv, R1.row, rowsGet, rowsLen, row4, Vk, Vn, Vs, Vl]
  (with_reducible apply v_call); (· simp only [vcA, Nat.reduceLT, Int.reduceEq, Int.reduceAdd, Int.reduceSub, Nat.reduceBEq, Nat.reduceEqDiff, reduceCtorEq, Nat.reduceAdd, Nat.reduceSub, Nat.reduceMul, Nat.reduceLeDiff, Int.reduceToNat, Int.reduceLT, Int.reduceLE, Int.reduceNeg, reduceIte, I, S, tv, nv, tyT, RawV.tv, R1.row, rowsGet, rowsLen, row4, Vk, Vn, Vs, Vl]; with_reducible rfl); (· exact HF); (· first | rfl | (simp only [moOk, nbeq, nble, List.length_nil, beq_self_eq_true, Bool.true_and, Bool.and_true, Bool.and_eq_true, decide_eq_true_eq]; omega)); (· simp only [vcA, Nat.reduceLT, Int.reduceEq, Int.reduceAdd, Int.reduceSub, Nat.reduceBEq, Nat.reduceEqDiff, reduceCtorEq, Nat.reduceAdd, Nat.reduceSub, Nat.reduceMul, Nat.reduceLeDiff, Int.reduceToNat, Int.reduceLT, Int.reduceLE, Int.reduceNeg, reduceIte, I, S, tv, nv, tyT, RawV.tv, R1.row, rowsGet, rowsLen, row4, Vk, Vn, Vs, Vl]; with_reducible rfl)
  simp only [vcA, Nat.reduceLT, Int.reduceEq, Int.reduceAdd, Int.reduceSub, Nat.reduceBEq, Nat.reduceEqDiff, reduceCtorEq, Nat.reduceAdd, Nat.reduceSub, Nat.reduceMul, Nat.reduceLeDiff, Int.reduceToNat, Int.reduceLT, Int.reduceLE, Int.reduceNeg, reduceIte, I, S, tv, nv, tyT, RawV.tv, R1.row, rowsGet, rowsLen, row4, Vk, Vn, Vs, Vl]
  refine ⟨by omega, by omega, ?_⟩
  generalize ah.take 20 = H at t1 n1 HD
  generalize be.take 20 = B at t2 n2 HD
  generalize encV v = p at *
  generalize encV w = q at *
  simp only [vcA, Nat.reduceLT, Int.reduceEq, Int.reduceAdd, Int.reduceSub, Nat.reduceBEq, Nat.reduceEqDiff, reduceCtorEq, Nat.reduceAdd, Nat.reduceSub, Nat.reduceMul, Nat.reduceLeDiff, Int.reduceToNat, Int.reduceLT, Int.reduceLE, Int.reduceNeg, reduceIte, I, S, tv, nv, tyT, RawV.tv, R1.row, rowsGet, rowsLen, row4, Vk, Vn, Vs, Vl, t1, t2]
  refine ⟨by omega, by omega, ⟨by omega, by omega⟩, by omega, ?_⟩
  (with_reducible apply v_call); (· simp only [vcA, Nat.reduceLT, Int.reduceEq, Int.reduceAdd, Int.reduceSub, Nat.reduceBEq, Nat.reduceEqDiff, reduceCtorEq, Nat.reduceAdd, Nat.reduceSub, Nat.reduceMul, Nat.reduceLeDiff, Int.reduceToNat, Int.reduceLT, Int.reduceLE, Int.reduceNeg, reduceIte, I, S, tv, nv, tyT, RawV.tv, R1.row, rowsGet, rowsLen, row4, Vk, Vn, Vs, Vl]; with_reducible rfl); (· exact HD); (· first | rfl | (simp only [moOk, nbeq, nble, List.length_nil, beq_self_eq_true, Bool.true_and, Bool.and_true, Bool.and_eq_true, decide_eq_true_eq]; omega)); (· simp only [vcA, Nat.reduceLT, Int.reduceEq, Int.reduceAdd, Int.reduceSub, Nat.reduceBEq, Nat.reduceEqDiff, reduceCtorEq, Nat.reduceAdd, Nat.reduceSub, Nat.reduceMul, Nat.reduceLeDiff, Int.reduceToNat, Int.reduceLT, Int.reduceLE, Int.reduceNeg, reduceIte, I, S, tv, nv, tyT, RawV.tv, R1.row, rowsGet, rowsLen, row4, Vk, Vn, Vs, Vl]; with_reducible rfl)
  have w1 : IntKind.i64.wrap ((H.length : Int) + (p.length : Int)) = ((H.length + p.length : Nat) : Int) := by rw [wrap64 (by omega) (by omega)]; omega
  by_cases hle : p.length ≤ q.length
  · have d1 : (p.length : Int) ≤ (q.length : Int) := by omega
    have hb := hbl hle
    simp only [vcA, Nat.reduceLT, Int.reduceEq, Int.reduceAdd, Int.reduceSub, Nat.reduceBEq, Nat.reduceEqDiff, reduceCtorEq, Nat.reduceAdd, Nat.reduceSub, Nat.reduceMul, Nat.reduceLeDiff, Int.reduceToNat, Int.reduceLT, Int.reduceLE, Int.reduceNeg, reduceIte, I, S, tv, nv, tyT, RawV.tv, R1.row, rowsGet, rowsLen, row4, Vk, Vn, Vs, Vl, d1]
    refine ⟨by omega, ⟨by omega, by omega⟩, ?_⟩
    (with_reducible apply v_call); (· simp only [vcA, Nat.reduceLT, Int.reduceEq, Int.reduceAdd, Int.reduceSub, Nat.reduceBEq, Nat.reduceEqDiff, reduceCtorEq, Nat.reduceAdd, Nat.reduceSub, Nat.reduceMul, Nat.reduceLeDiff, Int.reduceToNat, Int.reduceLT, Int.reduceLE, Int.reduceNeg, reduceIte, I, S, tv, nv, tyT, RawV.tv, R1.row, rowsGet, rowsLen, row4, Vk, Vn, Vs, Vl]; with_reducible rfl); (· exact HT); (· first | rfl | (simp only [moOk, nbeq, nble, List.length_nil, beq_self_eq_true, Bool.true_and, Bool.and_true, Bool.and_eq_true, decide_eq_true_eq]; omega)); (· simp only [vcA, Nat.reduceLT, Int.reduceEq, Int.reduceAdd, Int.reduceSub, Nat.reduceBEq, Nat.reduceEqDiff, reduceCtorEq, Nat.reduceAdd, Nat.reduceSub, Nat.reduceMul, Nat.reduceLeDiff, Int.reduceToNat, Int.reduceLT, Int.reduceLE, Int.reduceNeg, reduceIte, I, S, tv, nv, tyT, RawV.tv, R1.row, rowsGet, rowsLen, row4, Vk, Vn, Vs, Vl]; with_reducible rfl)
    simp only [vcA, Nat.reduceLT, Int.reduceEq, Int.reduceAdd, Int.reduceSub, Nat.reduceBEq, Nat.reduceEqDiff, reduceCtorEq, Nat.reduceAdd, Nat.reduceSub, Nat.reduceMul, Nat.reduceLeDiff, Int.reduceToNat, Int.reduceLT, Int.reduceLE, Int.reduceNeg, reduceIte, I, S, tv, nv, tyT, RawV.tv, R1.row, rowsGet, rowsLen, row4, Vk, Vn, Vs, Vl, hb, w1]
    (with_reducible apply v_call); (· simp only [vcA, Nat.reduceLT, Int.reduceEq, Int.reduceAdd, Int.reduceSub, Nat.reduceBEq, Nat.reduceEqDiff, reduceCtorEq, Nat.reduceAdd, Nat.reduceSub, Nat.reduceMul, Nat.reduceLeDiff, Int.reduceToNat, Int.reduceLT, Int.reduceLE, Int.reduceNeg, reduceIte, I, S, tv, nv, tyT, RawV.tv, R1.row, rowsGet, rowsLen, row4, Vk, Vn, Vs, Vl]; with_reducible rfl); (· exact HS); (· first | rfl | (simp only [moOk, nbeq, nble, List.length_nil, beq_self_eq_true, Bool.true_and, Bool.and_true, Bool.and_eq_true, decide_eq_true_eq]; omega)); (· simp only [vcA, Nat.reduceLT, Int.reduceEq, Int.reduceAdd, Int.reduceSub, Nat.reduceBEq, Nat.reduceEqDiff, reduceCtorEq, Nat.reduceAdd, Nat.reduceSub, Nat.reduceMul, Nat.reduceLeDiff, Int.reduceToNat, Int.reduceLT, Int.reduceLE, Int.reduceNeg, reduceIte, I, S, tv, nv, tyT, RawV.tv, R1.row, rowsGet, rowsLen, row4, Vk, Vn, Vs, Vl]; with_reducible rfl)
    simp only [vcA, Nat.reduceLT, Int.reduceEq, Int.reduceAdd, Int.reduceSub, Nat.reduceBEq, Nat.reduceEqDiff, reduceCtorEq, Nat.reduceAdd, Nat.reduceSub, Nat.reduceMul, Nat.reduceLeDiff, Int.reduceToNat, Int.reduceLT, Int.reduceLE, Int.reduceNeg, reduceIte, I, S, tv, nv, tyT, RawV.tv, R1.row, rowsGet, rowsLen, row4, Vk, Vn, Vs, Vl, hbb]
  · have d1 : ¬ (p.length : Int) ≤ (q.length : Int) := by omega
    have hb := hbn hle
    rw [hb] at HT
    simp only [vcA, Nat.reduceLT, Int.reduceEq, Int.reduceAdd, Int.reduceSub, Nat.reduceBEq, Nat.reduceEqDiff, reduceCtorEq, Nat.reduceAdd, Nat.reduceSub, Nat.reduceMul, Nat.reduceLeDiff, Int.reduceToNat, Int.reduceLT, Int.reduceLE, Int.reduceNeg, reduceIte, I, S, tv, nv, tyT, RawV.tv, R1.row, rowsGet, rowsLen, row4, Vk, Vn, Vs, Vl, d1]
    (with_reducible apply v_call); (· simp only [vcA, Nat.reduceLT, Int.reduceEq, Int.reduceAdd, Int.reduceSub, Nat.reduceBEq, Nat.reduceEqDiff, reduceCtorEq, Nat.reduceAdd, Nat.reduceSub, Nat.reduceMul, Nat.reduceLeDiff, Int.reduceToNat, Int.reduceLT, Int.reduceLE, Int.reduceNeg, reduceIte, I, S, tv, nv, tyT, RawV.tv, R1.row, rowsGet, rowsLen, row4, Vk, Vn, Vs, Vl]; with_reducible rfl); (· exact HT); (· first | rfl | (simp only [moOk, nbeq, nble, List.length_nil, beq_self_eq_true, Bool.true_and, Bool.and_true, Bool.and_eq_true, decide_eq_true_eq]; omega)); (· simp only [vcA, Nat.reduceLT, Int.reduceEq, Int.reduceAdd, Int.reduceSub, Nat.reduceBEq, Nat.reduceEqDiff, reduceCtorEq, Nat.reduceAdd, Nat.reduceSub, Nat.reduceMul, Nat.reduceLeDiff, Int.reduceToNat, Int.reduceLT, Int.reduceLE, Int.reduceNeg, reduceIte, I, S, tv, nv, tyT, RawV.tv, R1.row, rowsGet, rowsLen, row4, Vk, Vn, Vs, Vl]; with_reducible rfl)
    simp only [vcA, Nat.reduceLT, Int.reduceEq, Int.reduceAdd, Int.reduceSub, Nat.reduceBEq, Nat.reduceEqDiff, reduceCtorEq, Nat.reduceAdd, Nat.reduceSub, Nat.reduceMul, Nat.reduceLeDiff, Int.reduceToNat, Int.reduceLT, Int.reduceLE, Int.reduceNeg, reduceIte, I, S, tv, nv, tyT, RawV.tv, R1.row, rowsGet, rowsLen, row4, Vk, Vn, Vs, Vl, w1]
    (with_reducible apply v_call); (· simp only [vcA, Nat.reduceLT, Int.reduceEq, Int.reduceAdd, Int.reduceSub, Nat.reduceBEq, Nat.reduceEqDiff, reduceCtorEq, Nat.reduceAdd, Nat.reduceSub, Nat.reduceMul, Nat.reduceLeDiff, Int.reduceToNat, Int.reduceLT, Int.reduceLE, Int.reduceNeg, reduceIte, I, S, tv, nv, tyT, RawV.tv, R1.row, rowsGet, rowsLen, row4, Vk, Vn, Vs, Vl]; with_reducible rfl); (· exact HS); (· first | rfl | (simp only [moOk, nbeq, nble, List.length_nil, beq_self_eq_true, Bool.true_and, Bool.and_true, Bool.and_eq_true, decide_eq_true_eq]; omega)); (· simp only [vcA, Nat.reduceLT, Int.reduceEq, Int.reduceAdd, Int.reduceSub, Nat.reduceBEq, Nat.reduceEqDiff, reduceCtorEq, Nat.reduceAdd, Nat.reduceSub, Nat.reduceMul, Nat.reduceLeDiff, Int.reduceToNat, Int.reduceLT, Int.reduceLE, Int.reduceNeg, reduceIte, I, S, tv, nv, tyT, RawV.tv, R1.row, rowsGet, rowsLen, row4, Vk, Vn, Vs, Vl]; with_reducible rfl)
    simp only [vcA, Nat.reduceLT, Int.reduceEq, Int.reduceAdd, Int.reduceSub, Nat.reduceBEq, Nat.reduceEqDiff, reduceCtorEq, Nat.reduceAdd, Nat.reduceSub, Nat.reduceMul, Nat.reduceLeDiff, Int.reduceToNat, Int.reduceLT, Int.reduceLE, Int.reduceNeg, reduceIte, I, S, tv, nv, tyT, RawV.tv, R1.row, rowsGet, rowsLen, row4, Vk, Vn, Vs, Vl, hbb]
end Go.Proofs.YtdlolkogifigpaaDoor
end
