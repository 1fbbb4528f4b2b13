/- The statements' ValFit. No statement of the program is proved here. -/
import Derived.Test.YtdlolkogifigpaaDoorSy8
set_option linter.unusedSimpArgs false
set_option linter.unusedVariables false
namespace Go.Proofs.YtdlolkogifigpaaDoor
open Go Go.RowKit Go.Mor Go.Sh Go.Sh.Cd1
set_option maxRecDepth 100000
set_option maxHeartbeats 8000000
mutual
/-- A value's cells. -/
def V.row : V → List PV
  | .mk k n s l => [.v (.int .i64 k), .v (.int .i64 n), .v (.string (str s)), .sl 4 (V.rows l)]
def V.rows : List V → List (List PV)
  | [] => []
  | x :: l => V.row x :: V.rows l
end
theorem rows_eq : ∀ l, V.rows l = l.map V.row
  | [] => rfl
  | x :: l => by simp only [V.rows, List.map_cons, rows_eq l]
/-- A value. -/
def tv (x : V) : TV := .agg [I x.k, I x.n, S (str x.s), .pv (.sl 4 (V.rows x.l))]
theorem wk4 {a b c x y : TV} (h : Wk x y) : Wk (.agg [a, b, c, x]) (.agg [a, b, c, y]) :=
  wk_agg rfl (fun j p q hp hq => by
    match j with
    | 0 => simp at hp hq; subst hp; subst hq; exact .refl _
    | 1 => simp at hp hq; subst hp; subst hq; exact .refl _
    | 2 => simp at hp hq; subst hp; subst hq; exact .refl _
    | 3 => simp at hp hq; subst hp; subst hq; exact h
    | j + 4 => simp at hp)
theorem nv_tv {x : V} (h : x.l = []) : Wk (nv x) (tv x) := by
  unfold nv tv; rw [h]; exact wk4 (wk_nil 4)
/-- Raw numbers of a value. -/
structure R1 where
  k : Int
  n : Int
  s : List UInt8
structure RawV where
  k : Int
  n : Int
  s : List UInt8
  l : List R1
def R1.ok (x : R1) : Prop := I64 x.k ∧ I64 x.n ∧ x.s.length ≤ 9223372036854775807
def RawV.ok (x : RawV) : Prop := I64 x.k ∧ I64 x.n ∧ x.s.length ≤ 9223372036854775807 ∧ (∀ y ∈ x.l, y.ok) ∧ x.l.length ≤ 9223372036854775807
def R1.row (x : R1) : List PV := [.v (.int .i64 x.k), .v (.int .i64 x.n), .v (.string (str x.s))]
def RawV.tv (x : RawV) : TV := .agg [I x.k, I x.n, S (str x.s), .pv (.sl 3 (x.l.map R1.row))]
theorem valOne_l (k n : Int) (s : List UInt8) : (valOne k n s).l = [] := by unfold valOne; (repeat' split) <;> rfl
theorem fitV_l (k j n : Int) (s : List UInt8) (m : Int) : (fitV k j n s m).l = [] := by
  unfold fitV; (repeat' split) <;> first | rfl | exact valOne_l _ _ _
def fitL (o most : Int) (l : List R1) : List V := (l.take 12).map fun r => fitV o r.k r.n r.s most
def valFit (t : Ty) (x : RawV) (most : Int) : V :=
  if t.k = 5 then .mk 5 0 [] (fitL t.o most x.l) else fitV t.k x.k x.n x.s most
def fitRows (o most : Int) (l : List R1) (i : Nat) : List (List PV) := (l.take i).map fun r => V.row (fitV o r.k r.n r.s most)
theorem fitRows_succ {o most : Int} {l : List R1} {i : Nat} {r : R1} (h : l[i]? = some r) : fitRows o most l (i + 1) = fitRows o most l i ++ [V.row (fitV o r.k r.n r.s most)] := by
  unfold fitRows
  rw [List.take_add_one, h]; simp
theorem row_of_nil {x : V} (h : x.l = []) : V.row x = [.v (.int .i64 x.k), .v (.int .i64 x.n), .v (.string (str x.s)), .sl 4 []] := by
  cases x with
  | mk k n s l => simp only [V.l] at h; subst h; simp [V.row, V.rows, V.k, V.n, V.s]
/-- The state at the loop's head. -/
def fitSt (t : Ty) (x : RawV) (most : Int) (v : V) (i : Nat) : ES :=
  if i = 0 then ⟨[(2, I most), (3, .ptr 3 0), (4, .ptr 4 0), (6, .ptr 6 0), (7, .ptr 7 0), (8, I 0)],
    [(3, [I t.k, I t.o]), (4, [I x.k, I x.n, S (str x.s), .pv (.sl 3 (x.l.map R1.row))]), (6, [I 0, I 0, S ⟨#[]⟩, .pv (.v (.slice none 0 0))]), (7, [I v.k, I v.n, S (str v.s), .pv (.v (.slice none 0 0))])], [], []⟩
  else ⟨[(2, I most), (3, .ptr 3 0), (4, .ptr 4 0), (6, .ptr 6 0), (7, .ptr 7 0), (8, I (i : Int))],
    [(3, [I t.k, I t.o]), (4, [I x.k, I x.n, S (str x.s), .pv (.sl 3 (x.l.map R1.row))]), (6, [I 0, I 0, S ⟨#[]⟩, .pv (.v (.slice none 0 0))]), (7, [I v.k, I v.n, S (str v.s), .own 48 4 (fitRows t.o most x.l i)])], [(48, (31, 4, i))], []⟩
def fitN (t : Ty) (x : RawV) : Nat := if t.k = 5 then min x.l.length 12 else 0
theorem fitRows_len {o most : Int} {l : List R1} {i : Nat} (h : i ≤ l.length) : (fitRows o most l i).length = i := by simp [fitRows]; omega
/-- What is answered, just so. -/
def fitAns (t : Ty) (x : RawV) (most : Int) (v : V) (n : Nat) : TV :=
  if n = 0 then nv v else .agg [I v.k, I v.n, S (str v.s), .pv (.sl 4 (fitRows t.o most x.l n))]
theorem fitSt_0 (t : Ty) (x : RawV) (most : Int) (v : V) : fitSt t x most v 0 = ⟨[(2, I most), (3, .ptr 3 0), (4, .ptr 4 0), (6, .ptr 6 0), (7, .ptr 7 0), (8, I 0)],
    [(3, [I t.k, I t.o]), (4, [I x.k, I x.n, S (str x.s), .pv (.sl 3 (x.l.map R1.row))]), (6, [I 0, I 0, S ⟨#[]⟩, .pv (.v (.slice none 0 0))]), (7, [I v.k, I v.n, S (str v.s), .pv (.v (.slice none 0 0))])], [], []⟩ := rfl
theorem fitSt_1 (t : Ty) (x : RawV) (most : Int) (v : V) {i : Nat} (h : i ≠ 0) : fitSt t x most v i = ⟨[(2, I most), (3, .ptr 3 0), (4, .ptr 4 0), (6, .ptr 6 0), (7, .ptr 7 0), (8, I (i : Int))],
    [(3, [I t.k, I t.o]), (4, [I x.k, I x.n, S (str x.s), .pv (.sl 3 (x.l.map R1.row))]), (6, [I 0, I 0, S ⟨#[]⟩, .pv (.v (.slice none 0 0))]), (7, [I v.k, I v.n, S (str v.s), .own 48 4 (fitRows t.o most x.l i)])], [(48, (31, 4, i))], []⟩ := by unfold fitSt; rw [if_neg h]
theorem valFit_ans (g : Sh.Glob) (t : Ty) (x : RawV) (most : Int) (hx : x.ok) (hm : 1 ≤ most) (hm2 : most ≤ 9223372036854775807) : SCalls Tryd.prog g 37 [tyT t, x.tv, I most] [] (fitAns t x most (fitV t.k x.k x.n x.s most) (fitN t x)) [] := by
  refine call_of1 hmix tf_morainelaw03_ValFit rfl rfl ?_
  obtain ⟨hk, hn, hs, hl, hlen⟩ := hx
  have hF := fit_ok g t.k x.k x.n x.s most hn hk hs hm
  unfold tyT RawV.tv
  obtain ⟨v, hv⟩ : ∃ v, v = fitV t.k x.k x.n x.s most := ⟨_, rfl⟩
  rw [← hv] at hF ⊢
  unfold nv at hF
  repeat (first | (with_reducible apply w_unr) | (with_reducible apply w_assoc) | (with_reducible apply w_skip) | (with_reducible apply w_ret) | (with_reducible apply w_retE) | (with_reducible apply w_skipE) | (with_reducible apply w_exit) | (with_reducible apply w_exitE) | (with_reducible apply w_block) | (with_reducible apply w_blockE) | ((with_reducible apply w_reg); · simp only [seval]; with_reducible rfl) | ((with_reducible apply w_regE); · simp only [seval]; with_reducible rfl) | ((with_reducible apply w_condT); · simp only [seval]) | ((with_reducible apply w_condF); · simp only [seval]) | ((with_reducible apply w_condTE); · simp only [seval]) | ((with_reducible apply w_condFE); · simp only [seval]) | (with_reducible apply q_then) | (with_reducible apply q_blockN) | (with_reducible apply q_blockR) | (with_reducible apply q_thenR) | (with_reducible apply q_thenX) | (with_reducible apply q_blockX) | ((with_reducible apply q_blockY); · rfl))
  (first | (with_reducible apply w_ops) | (with_reducible apply w_opsE))
  repeat ((with_reducible apply w_op); (· rfl); (· simp only [seval]; with_reducible rfl); (· simp only [seval]; with_reducible rfl))
  (with_reducible apply w_call); (· simp only [seval]; with_reducible rfl); (· simp only [seval]; with_reducible rfl); (· simp only [seval]; with_reducible rfl); (· simp only [seval]; with_reducible rfl); (· exact hF); (· rfl); (· simp only [seval]; with_reducible rfl); (· simp only [seval]; with_reducible rfl); (· simp only [seval]; with_reducible rfl)
  repeat ((with_reducible apply w_op); (· rfl); (· simp only [seval]; with_reducible rfl); (· simp only [seval]; with_reducible rfl))
  apply w_done
  repeat (first | (with_reducible apply w_unr) | (with_reducible apply w_assoc) | (with_reducible apply w_skip) | (with_reducible apply w_ret) | (with_reducible apply w_retE) | (with_reducible apply w_skipE) | (with_reducible apply w_exit) | (with_reducible apply w_exitE) | (with_reducible apply w_block) | (with_reducible apply w_blockE) | ((with_reducible apply w_reg); · simp only [seval]; with_reducible rfl) | ((with_reducible apply w_regE); · simp only [seval]; with_reducible rfl) | ((with_reducible apply w_condT); · simp only [seval]) | ((with_reducible apply w_condF); · simp only [seval]) | ((with_reducible apply w_condTE); · simp only [seval]) | ((with_reducible apply w_condFE); · simp only [seval]) | (with_reducible apply q_then) | (with_reducible apply q_blockN) | (with_reducible apply q_blockR) | (with_reducible apply q_thenR) | (with_reducible apply q_thenX) | (with_reducible apply q_blockX) | ((with_reducible apply q_blockY); · rfl))
  have hN : fitN t x ≤ x.l.length ∧ fitN t x ≤ 12 ∧ (t.k ≠ 5 → fitN t x = 0) ∧ (t.k = 5 → fitN t x = min x.l.length 12) := by unfold fitN; split <;> refine ⟨by omega, by omega, fun _ => ?_, fun _ => ?_⟩ <;> first | rfl | contradiction
  generalize fitN t x = N at hN ⊢
  obtain ⟨hN1, hN2, hN3, hN4⟩ := hN
  refine w_loopE (σ := { i : Nat // i ≤ N }) (fun i => fitSt t x most v i.1) (fun i => N - i.1) ⟨0, Nat.zero_le _⟩ ?_ ?_
  · simp only [fitSt, if_true]
    apply le_of <;> simp [leL, lk, Nat.beq, I, S, ES.kill, has, drp]
  rintro ⟨i, hi⟩
  have hlm : (x.l.map R1.row).length = x.l.length := List.length_map _
  have c3 : 1 ≤ maxLen := by decide
  rcases Nat.lt_or_ge i N with hlt | hge
  · have h5 : t.k = 5 := Decidable.byContradiction fun h => by have := hN3 h; omega
    have h12 := hN4 h5
    have d5 := decide_T h5
    obtain ⟨r, hr⟩ : ∃ r, x.l[i]? = some r := ⟨_, List.getElem?_eq_getElem (show i < x.l.length by omega)⟩
    obtain ⟨o1, o2, o3⟩ := hl r (List.mem_of_getElem? hr)
    have er : (x.l.map R1.row)[i]? = some [.v (.int .i64 r.k), .v (.int .i64 r.n), .v (.string (str r.s))] := by rw [List.getElem?_map, hr]; rfl
    have hG := (fit_ok g t.o r.k r.n r.s most o2 o1 o3 hm).out (nv_tv (fitV_l _ _ _ _ _))
    unfold tv at hG
    rw [fitV_l, V.rows] at hG
    have hrow := row_of_nil (fitV_l t.o r.k r.n r.s most)
    have hsucc := fitRows_succ (o := t.o) (most := most) hr
    rw [hrow] at hsucc
    generalize fitV t.o r.k r.n r.s most = u at hG hsucc
    rcases Nat.eq_zero_or_pos i with hi0 | hi0
    · subst hi0
      have d1 := decide_T (p := ((0 : Int) < (x.l.length : Int))) (by omega)
      have hz : fitRows t.o most x.l 0 = [] := rfl
      rw [hz, List.nil_append] at hsucc
      have hsucc1 : fitRows t.o most x.l 1 = [[PV.v (Value.int IntKind.i64 u.k), PV.v (Value.int IntKind.i64 u.n), PV.v (Value.string (str u.s)), PV.sl 4 []]] := hsucc
      simp only [fitSt_0]
      repeat (first | (with_reducible apply w_unr) | (with_reducible apply w_assoc) | (with_reducible apply w_skip) | (with_reducible apply w_ret) | (with_reducible apply w_retE) | (with_reducible apply w_skipE) | (with_reducible apply w_exit) | (with_reducible apply w_exitE) | (with_reducible apply w_block) | (with_reducible apply w_blockE) | ((with_reducible apply w_reg); · simp only [seval, d1, d5, hlm]; with_reducible rfl) | ((with_reducible apply w_regE); · simp only [seval, d1, d5, hlm]; with_reducible rfl) | ((with_reducible apply w_condT); · simp only [seval, d1, d5, hlm]) | ((with_reducible apply w_condF); · simp only [seval, d1, d5, hlm]) | ((with_reducible apply w_condTE); · simp only [seval, d1, d5, hlm]) | ((with_reducible apply w_condFE); · simp only [seval, d1, d5, hlm]) | (with_reducible apply q_then) | (with_reducible apply q_blockN) | (with_reducible apply q_blockR) | (with_reducible apply q_thenR) | (with_reducible apply q_thenX) | (with_reducible apply q_blockX) | ((with_reducible apply q_blockY); · rfl))
      (first | (with_reducible apply w_ops2) | (with_reducible apply w_ops2E))
      repeat ((with_reducible apply w_op); (· rfl); (· simp only [seval, TV.elems, er]; with_reducible rfl); (· simp only [seval, TV.elems, er]; with_reducible rfl))
      (with_reducible apply w_call); (· simp only [seval]; with_reducible rfl); (· simp only [seval]; with_reducible rfl); (· simp only [seval]; with_reducible rfl); (· simp only [seval]; with_reducible rfl); (· exact hG); (· rfl); (· simp only [seval]; with_reducible rfl); (· simp only [seval]; with_reducible rfl); (· simp only [seval]; with_reducible rfl)
      repeat ((with_reducible apply w_op); (· rfl); (· simp only [seval, TV.elems, TV.isNil, c3, List.all_cons, List.all_nil, Bool.and_true, Bool.and_self]; with_reducible rfl); (· simp only [seval, TV.elems, TV.isNil, c3, List.all_cons, List.all_nil, Bool.and_true, Bool.and_self]; with_reducible rfl))
      apply w_done
      have w1 : IntKind.i64.wrap ((0 : Int) + 1) = 1 := by decide
      have w2 : IntKind.i64.wrap (1 : Int) = 1 := by decide
      repeat (first | (with_reducible apply w_unr) | (with_reducible apply w_assoc) | (with_reducible apply w_skip) | (with_reducible apply w_ret) | (with_reducible apply w_retE) | (with_reducible apply w_skipE) | (with_reducible apply w_exit) | (with_reducible apply w_exitE) | (with_reducible apply w_block) | (with_reducible apply w_blockE) | ((with_reducible apply w_reg); · simp only [seval, w1, w2]; with_reducible rfl) | ((with_reducible apply w_regE); · simp only [seval, w1, w2]; with_reducible rfl) | ((with_reducible apply w_condT); · simp only [seval, w1, w2]) | ((with_reducible apply w_condF); · simp only [seval, w1, w2]) | ((with_reducible apply w_condTE); · simp only [seval, w1, w2]) | ((with_reducible apply w_condFE); · simp only [seval, w1, w2]) | (with_reducible apply q_then) | (with_reducible apply q_blockN) | (with_reducible apply q_blockR) | (with_reducible apply q_thenR) | (with_reducible apply q_thenX) | (with_reducible apply q_blockX) | ((with_reducible apply q_blockY); · rfl))
      refine ⟨⟨1, by omega⟩, by show N - 1 < N - 0; omega, ?_⟩
      simp only [fitSt_1 t x most v (i := 1) (by decide), hsucc1]
      apply le_of <;> simp [leL, lk, Nat.beq, I, S, ES.kill, has, drp]
    · have d1 := decide_T (p := ((i : Int) < (x.l.length : Int))) (by omega)
      have d2 := decide_T (p := ((i : Int) < 12)) (by omega)
      have hfl := fitRows_len (o := t.o) (most := most) (l := x.l) (i := i) (by omega)
      have c1 : (i + 1) * 56 ≤ 140737488355328 := by omega
      have c2 : i + 1 ≤ maxLen := by unfold maxLen; omega
      have w1 : IntKind.i64.wrap ((i : Int) + 1) = ((i + 1 : Nat) : Int) := by rw [wrap64 (by omega) (by omega)]; omega
      simp only [fitSt_1 t x most v (i := i) (by omega)]
      repeat (first | (with_reducible apply w_unr) | (with_reducible apply w_assoc) | (with_reducible apply w_skip) | (with_reducible apply w_ret) | (with_reducible apply w_retE) | (with_reducible apply w_skipE) | (with_reducible apply w_exit) | (with_reducible apply w_exitE) | (with_reducible apply w_block) | (with_reducible apply w_blockE) | ((with_reducible apply w_reg); · simp only [seval, d1, d2, d5, hlm]; with_reducible rfl) | ((with_reducible apply w_regE); · simp only [seval, d1, d2, d5, hlm]; with_reducible rfl) | ((with_reducible apply w_condT); · simp only [seval, d1, d2, d5, hlm]) | ((with_reducible apply w_condF); · simp only [seval, d1, d2, d5, hlm]) | ((with_reducible apply w_condTE); · simp only [seval, d1, d2, d5, hlm]) | ((with_reducible apply w_condFE); · simp only [seval, d1, d2, d5, hlm]) | (with_reducible apply q_then) | (with_reducible apply q_blockN) | (with_reducible apply q_blockR) | (with_reducible apply q_thenR) | (with_reducible apply q_thenX) | (with_reducible apply q_blockX) | ((with_reducible apply q_blockY); · rfl))
      (first | (with_reducible apply w_ops) | (with_reducible apply w_opsE))
      repeat ((with_reducible apply w_op); (· rfl); (· simp only [seval, TV.elems, er]; with_reducible rfl); (· simp only [seval, TV.elems, er]; with_reducible rfl))
      (with_reducible apply w_call); (· simp only [seval]; with_reducible rfl); (· simp only [seval]; with_reducible rfl); (· simp only [seval]; with_reducible rfl); (· simp only [seval]; with_reducible rfl); (· exact hG); (· rfl); (· simp only [seval]; with_reducible rfl); (· simp only [seval]; with_reducible rfl); (· simp only [seval]; with_reducible rfl)
      repeat ((with_reducible apply w_op); (· rfl); (· simp only [seval, TV.elems, c1, c2, hfl, List.all_cons, List.all_nil, Bool.and_true, Bool.and_self]; with_reducible rfl); (· simp only [seval, TV.elems, c1, c2, hfl, List.all_cons, List.all_nil, Bool.and_true, Bool.and_self]; with_reducible rfl))
      apply w_done
      repeat (first | (with_reducible apply w_unr) | (with_reducible apply w_assoc) | (with_reducible apply w_skip) | (with_reducible apply w_ret) | (with_reducible apply w_retE) | (with_reducible apply w_skipE) | (with_reducible apply w_exit) | (with_reducible apply w_exitE) | (with_reducible apply w_block) | (with_reducible apply w_blockE) | ((with_reducible apply w_reg); · simp only [seval, w1]; with_reducible rfl) | ((with_reducible apply w_regE); · simp only [seval, w1]; with_reducible rfl) | ((with_reducible apply w_condT); · simp only [seval, w1]) | ((with_reducible apply w_condF); · simp only [seval, w1]) | ((with_reducible apply w_condTE); · simp only [seval, w1]) | ((with_reducible apply w_condFE); · simp only [seval, w1]) | (with_reducible apply q_then) | (with_reducible apply q_blockN) | (with_reducible apply q_blockR) | (with_reducible apply q_thenR) | (with_reducible apply q_thenX) | (with_reducible apply q_blockX) | ((with_reducible apply q_blockY); · rfl))
      refine ⟨⟨i + 1, by omega⟩, by show N - (i + 1) < N - i; omega, ?_⟩
      simp only [fitSt_1 t x most v (i := i + 1) (by omega), hsucc]
      apply le_of <;> simp [leL, lk, Nat.beq, I, S, ES.kill, has, drp]
  · obtain rfl : i = N := by omega
    rcases Nat.eq_zero_or_pos i with hi0 | hi0
    · subst hi0
      simp only [fitSt_0, fitAns, if_true]
      by_cases h5 : t.k = 5
      · have := hN4 h5
        have d1 := decide_F (p := ((0 : Int) < (x.l.length : Int))) (by omega)
        repeat (first | (with_reducible apply w_unr) | (with_reducible apply w_assoc) | (with_reducible apply w_skip) | (with_reducible apply w_ret) | (with_reducible apply w_retE) | (with_reducible apply w_skipE) | (with_reducible apply w_exit) | (with_reducible apply w_exitE) | (with_reducible apply w_block) | (with_reducible apply w_blockE) | ((with_reducible apply w_reg); · simp only [seval, d1, hlm]; with_reducible rfl) | ((with_reducible apply w_regE); · simp only [seval, d1, hlm]; with_reducible rfl) | ((with_reducible apply w_condT); · simp only [seval, d1, hlm]) | ((with_reducible apply w_condF); · simp only [seval, d1, hlm]) | ((with_reducible apply w_condTE); · simp only [seval, d1, hlm]) | ((with_reducible apply w_condFE); · simp only [seval, d1, hlm]) | (with_reducible apply q_then) | (with_reducible apply q_blockN) | (with_reducible apply q_blockR) | (with_reducible apply q_thenR) | (with_reducible apply q_thenX) | (with_reducible apply q_blockX) | ((with_reducible apply q_blockY); · rfl))
        simp [Post1, ansW1, resT, SRes.get, ES.fs, ES.kill, has, drp, seqO, nbeq, lk, I, S, TV.ids3, TV.ids2, TV.ids1, TV.ids0, TV.ren3, TV.ren2, TV.ren1, TV.ren0, rhoIn, pos, F_morainelaw03_ValFit, nv]
      · have d5 := decide_F h5
        by_cases hz : 0 < x.l.length
        · have d1 := decide_T (p := ((0 : Int) < (x.l.length : Int))) (by omega)
          repeat (first | (with_reducible apply w_unr) | (with_reducible apply w_assoc) | (with_reducible apply w_skip) | (with_reducible apply w_ret) | (with_reducible apply w_retE) | (with_reducible apply w_skipE) | (with_reducible apply w_exit) | (with_reducible apply w_exitE) | (with_reducible apply w_block) | (with_reducible apply w_blockE) | ((with_reducible apply w_reg); · simp only [seval, d1, d5, hlm]; with_reducible rfl) | ((with_reducible apply w_regE); · simp only [seval, d1, d5, hlm]; with_reducible rfl) | ((with_reducible apply w_condT); · simp only [seval, d1, d5, hlm]) | ((with_reducible apply w_condF); · simp only [seval, d1, d5, hlm]) | ((with_reducible apply w_condTE); · simp only [seval, d1, d5, hlm]) | ((with_reducible apply w_condFE); · simp only [seval, d1, d5, hlm]) | (with_reducible apply q_then) | (with_reducible apply q_blockN) | (with_reducible apply q_blockR) | (with_reducible apply q_thenR) | (with_reducible apply q_thenX) | (with_reducible apply q_blockX) | ((with_reducible apply q_blockY); · rfl))
          simp [Post1, ansW1, resT, SRes.get, ES.fs, ES.kill, has, drp, seqO, nbeq, lk, I, S, TV.ids3, TV.ids2, TV.ids1, TV.ids0, TV.ren3, TV.ren2, TV.ren1, TV.ren0, rhoIn, pos, F_morainelaw03_ValFit, nv]
        · have d1 := decide_F (p := ((0 : Int) < (x.l.length : Int))) (by omega)
          repeat (first | (with_reducible apply w_unr) | (with_reducible apply w_assoc) | (with_reducible apply w_skip) | (with_reducible apply w_ret) | (with_reducible apply w_retE) | (with_reducible apply w_skipE) | (with_reducible apply w_exit) | (with_reducible apply w_exitE) | (with_reducible apply w_block) | (with_reducible apply w_blockE) | ((with_reducible apply w_reg); · simp only [seval, d1, d5, hlm]; with_reducible rfl) | ((with_reducible apply w_regE); · simp only [seval, d1, d5, hlm]; with_reducible rfl) | ((with_reducible apply w_condT); · simp only [seval, d1, d5, hlm]) | ((with_reducible apply w_condF); · simp only [seval, d1, d5, hlm]) | ((with_reducible apply w_condTE); · simp only [seval, d1, d5, hlm]) | ((with_reducible apply w_condFE); · simp only [seval, d1, d5, hlm]) | (with_reducible apply q_then) | (with_reducible apply q_blockN) | (with_reducible apply q_blockR) | (with_reducible apply q_thenR) | (with_reducible apply q_thenX) | (with_reducible apply q_blockX) | ((with_reducible apply q_blockY); · rfl))
          simp [Post1, ansW1, resT, SRes.get, ES.fs, ES.kill, has, drp, seqO, nbeq, lk, I, S, TV.ids3, TV.ids2, TV.ids1, TV.ids0, TV.ren3, TV.ren2, TV.ren1, TV.ren0, rhoIn, pos, F_morainelaw03_ValFit, nv]
    · have h5 : t.k = 5 := Decidable.byContradiction fun h => by have := hN3 h; omega
      have h12 := hN4 h5
      simp only [fitSt_1 t x most v (i := i) (by omega), fitAns, if_neg (show ¬ i = 0 by omega)]
      by_cases hz : i < x.l.length
      · have d1 := decide_T (p := ((i : Int) < (x.l.length : Int))) (by omega)
        have d2 := decide_F (p := ((i : Int) < 12)) (by omega)
        repeat (first | (with_reducible apply w_unr) | (with_reducible apply w_assoc) | (with_reducible apply w_skip) | (with_reducible apply w_ret) | (with_reducible apply w_retE) | (with_reducible apply w_skipE) | (with_reducible apply w_exit) | (with_reducible apply w_exitE) | (with_reducible apply w_block) | (with_reducible apply w_blockE) | ((with_reducible apply w_reg); · simp only [seval, d1, d2, hlm]; with_reducible rfl) | ((with_reducible apply w_regE); · simp only [seval, d1, d2, hlm]; with_reducible rfl) | ((with_reducible apply w_condT); · simp only [seval, d1, d2, hlm]) | ((with_reducible apply w_condF); · simp only [seval, d1, d2, hlm]) | ((with_reducible apply w_condTE); · simp only [seval, d1, d2, hlm]) | ((with_reducible apply w_condFE); · simp only [seval, d1, d2, hlm]) | (with_reducible apply q_then) | (with_reducible apply q_blockN) | (with_reducible apply q_blockR) | (with_reducible apply q_thenR) | (with_reducible apply q_thenX) | (with_reducible apply q_blockX) | ((with_reducible apply q_blockY); · rfl))
        simp [Post1, ansW1, resT, SRes.get, ES.fs, ES.kill, has, drp, seqO, nbeq, lk, I, S, TV.ids3, TV.ids2, TV.ids1, TV.ids0, TV.ren3, TV.ren2, TV.ren1, TV.ren0, rhoIn, pos, F_morainelaw03_ValFit, nv]
      · have d1 := decide_F (p := ((i : Int) < (x.l.length : Int))) (by omega)
        repeat (first | (with_reducible apply w_unr) | (with_reducible apply w_assoc) | (with_reducible apply w_skip) | (with_reducible apply w_ret) | (with_reducible apply w_retE) | (with_reducible apply w_skipE) | (with_reducible apply w_exit) | (with_reducible apply w_exitE) | (with_reducible apply w_block) | (with_reducible apply w_blockE) | ((with_reducible apply w_reg); · simp only [seval, d1, hlm]; with_reducible rfl) | ((with_reducible apply w_regE); · simp only [seval, d1, hlm]; with_reducible rfl) | ((with_reducible apply w_condT); · simp only [seval, d1, hlm]) | ((with_reducible apply w_condF); · simp only [seval, d1, hlm]) | ((with_reducible apply w_condTE); · simp only [seval, d1, hlm]) | ((with_reducible apply w_condFE); · simp only [seval, d1, hlm]) | (with_reducible apply q_then) | (with_reducible apply q_blockN) | (with_reducible apply q_blockR) | (with_reducible apply q_thenR) | (with_reducible apply q_thenX) | (with_reducible apply q_blockX) | ((with_reducible apply q_blockY); · rfl))
        simp [Post1, ansW1, resT, SRes.get, ES.fs, ES.kill, has, drp, seqO, nbeq, lk, I, S, TV.ids3, TV.ids2, TV.ids1, TV.ids0, TV.ren3, TV.ren2, TV.ren1, TV.ren0, rhoIn, pos, F_morainelaw03_ValFit, nv]
theorem valFit_ok (g : Sh.Glob) (t : Ty) (x : RawV) (most : Int) (hx : x.ok) (hm : 1 ≤ most) (hm2 : most ≤ 9223372036854775807) : SCalls Tryd.prog g 37 [tyT t, x.tv, I most] [] (tv (valFit t x most)) [] := by
  refine (valFit_ans g t x most hx hm hm2).out ?_
  unfold fitAns valFit fitN
  by_cases h5 : t.k = 5
  · rw [if_pos h5, if_pos h5]
    have hv : fitV t.k x.k x.n x.s most = .mk 5 0 [] [] := by unfold fitV; rw [if_pos h5]
    rw [hv]
    by_cases hz : min x.l.length 12 = 0
    · rw [if_pos hz]
      have : x.l = [] := List.eq_nil_of_length_eq_zero (by omega)
      have h2 : fitL t.o most x.l = [] := by rw [this]; rfl
      rw [h2]; exact nv_tv rfl
    · rw [if_neg hz]
      have : fitRows t.o most x.l (min x.l.length 12) = V.rows (fitL t.o most x.l) := by
        rw [rows_eq]
        unfold fitRows fitL
        rw [List.map_map, Nat.min_comm, List.take_eq_take_min (l := x.l) (i := 12)]
        rfl
      rw [this]; exact .refl _
  · rw [if_neg h5, if_neg h5, if_pos rfl]
    exact nv_tv (fitV_l _ _ _ _ _)
end Go.Proofs.YtdlolkogifigpaaDoor
