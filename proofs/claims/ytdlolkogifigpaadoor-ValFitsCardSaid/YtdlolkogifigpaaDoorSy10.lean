/- The law ValFits, walked. No statement of the program is proved here. -/
import Derived.Test.YtdlolkogifigpaaDoorSv1
import Derived.Test.YtdlolkogifigpaaDoorAw1
import Derived.Test.YtdlolkogifigpaaDoorPt1
set_option linter.unusedSimpArgs false
set_option linter.unusedVariables false
namespace Go.Proofs.YtdlolkogifigpaaDoor
open Go Go.RowKit Go.Mor Go.Sh Go.Sh.Cd1
set_option maxRecDepth 100000
set_option maxHeartbeats 16000000
theorem ty_equal (a b c d : Int) : pureRun Tryd.prog (Op.equalIn 10000 51 (.agg #[.int .i64 a, .int .i64 b]) (.agg #[.int .i64 c, .int .i64 d])) = some (a == c && b == d) := by
  rw [show (10000 : Nat) = 9999 + 1 from rfl, pr_equal_struct 9999 _ _ _ (by kernel_rfl) (by kernel_rfl)]
  have hf : ((Tryd.prog.fieldsOf 51).toList.map fun f => (f.name, f.type, f.offset)) = [("Kind", 3, 0), ("Of", 3, 1)] := by kernel_rfl
  generalize (Tryd.prog.fieldsOf 51).toList = fs at hf
  match fs, hf with
  | [], hf => simp at hf
  | [_], hf => simp at hf
  | _ :: _ :: _ :: _, hf => simp at hf
  | [f1, f2], hf =>
    simp only [List.map_cons, List.map_nil, List.cons.injEq, Prod.mk.injEq, and_true] at hf
    obtain ⟨⟨h1, h2, h3⟩, h4, h5, h6⟩ := hf
    simp only [Op.eqFields, h1, h2, h3, h4, h5, h6, pureRun_bind, pr_ite]
    have p0 : ∀ a b : Int, pureRun Tryd.prog (part 3 #[.int .i64 a, .int .i64 b] 0) = some (.int .i64 a) := fun a b => by kernel_rfl
    have p1 : ∀ a b : Int, pureRun Tryd.prog (part 3 #[.int .i64 a, .int .i64 b] 1) = some (.int .i64 b) := fun a b => by kernel_rfl
    have q : ∀ a b : Int, pureRun Tryd.prog (Op.equalIn 9999 3 (.int .i64 a) (.int .i64 b)) = some (a == b) := fun a b => by kernel_rfl
    simp only [p0, p1, q, Option.bind_some, pr_pure]
    cases (a == c) <;> cases (b == d) <;> simp
theorem ty_neq (a b c d : Int) : scal Tryd.prog (do eqGuard .neq 51 (.const (.agg [.int .i64 a, .int .i64 b].toArray)) (.const (.agg [.int .i64 c, .int .i64 d].toArray)) (.agg [.int .i64 a, .int .i64 b].toArray) (.agg [.int .i64 c, .int .i64 d].toArray); binOp .neq 51 (.agg [.int .i64 a, .int .i64 b].toArray) (.agg [.int .i64 c, .int .i64 d].toArray)) = some (.pv (.v (.bool (!(a == c && b == d)))), .no) := by
  have h1 : pureRun Tryd.prog (eqGuard .neq 51 (.const (.agg [.int .i64 a, .int .i64 b].toArray)) (.const (.agg [.int .i64 c, .int .i64 d].toArray)) (.agg [.int .i64 a, .int .i64 b].toArray) (.agg [.int .i64 c, .int .i64 d].toArray)) = some () := by kernel_rfl
  have h2 : pureRun Tryd.prog (binOp .neq 51 (.agg [.int .i64 a, .int .i64 b].toArray) (.agg [.int .i64 c, .int .i64 d].toArray)) = some (.bool (!(a == c && b == d))) := by
    show pureRun Tryd.prog (do pure (Value.bool (!(← Op.equalIn 10000 51 (.agg #[.int .i64 a, .int .i64 b]) (.agg #[.int .i64 c, .int .i64 d]))))) = _
    rw [pureRun_bind, ty_equal]; rfl
  unfold scal
  rw [pureRun_bind, h1]
  show Option.map _ (pureRun Tryd.prog (binOp _ _ _ _)) = _
  rw [h2]; rfl
theorem bb_eql (p q : Bool) : scal Tryd.prog (do eqGuard .eql 4 (.const (.bool p)) (.const (.bool q)) (.bool p) (.bool q); binOp .eql 4 (.bool p) (.bool q)) = some (.pv (.v (.bool (p == q))), .no) := by
  cases p <;> cases q <;> kernel_rfl
theorem row_eq (y : V) : V.row y = [.v (.int .i64 y.k), .v (.int .i64 y.n), .v (.string (str y.s)), .sl 4 (V.rows y.l)] := by cases y; rfl
theorem vok_small {v : V} (h1 : v.s.length ≤ 60) (h2 : ∀ y ∈ v.l, y.s.length ≤ 60) : VOk v := ⟨by unfold TextsOk; omega, fun y hy => by have := h2 y hy; unfold TextsOk; omega⟩
theorem valFit_vok (t : Ty) (x : RawV) (m : Int) : (valFit t x m).s.length ≤ 60 ∧ ∀ y ∈ (valFit t x m).l, y.s.length ≤ 60 ∧ y.l = [] := by
  unfold valFit
  split
  · refine ⟨by simp [V.s], fun y hy => ?_⟩
    obtain ⟨r, hr, rfl⟩ := fitL_mem hy
    exact ⟨fitV_text _ _ _ _ _, fitV_l _ _ _ _ _⟩
  · refine ⟨fitV_text _ _ _ _ _, fun y hy => ?_⟩
    rw [fitV_l] at hy; simp at hy
theorem valFit_len (t : Ty) (x : RawV) (m : Int) : (valFit t x m).l.length ≤ 12 := by
  unfold valFit
  split
  · simp [V.l, fitL]; omega
  · rw [fitV_l]; simp
theorem zero_l (t : Ty) : (zeroV t).l = [] ∧ (zeroV t).s = [] := by unfold zeroV; split <;> exact ⟨rfl, rfl⟩
theorem fits_nv (a0 a1 : Addr) (n : Nat) (x : V) (t : Ty) (hx : VOk x) (hl : x.l = []) : SCalls Tryd.prog (gl a0 a1 n) 38 [nv x, tyT t] [] (.pv (.v (.bool (fitsV x t)))) [] :=
  (fits_ok a0 a1 n x t hx).inp rfl (fun j c d hc hd => by
    match j with
    | 0 => simp at hc hd; subst hc; subst hd; exact nv_tv hl
    | 1 => simp at hc hd; subst hc; subst hd; exact .refl _
    | j + 2 => simp at hc)
def fitsSt (t u : Ty) (v : V) (o : Bool) (i : Nat) : ES :=
  ⟨[(11, .pv (.v (.bool true))), (12, .ptr 12 0), (13, .ptr 13 0), (14, .ptr 14 0), (15, .pv (.v (.bool o))), (16, .pv (.v (.bool true))), (17, I (i : Int))],
    [(12, [I t.k, I t.o]), (13, [I u.k, I u.o]), (14, [I v.k, I v.n, S (str v.s), .pv (.sl 4 (V.rows v.l))])], [], []⟩
theorem valFits_ok (a0 a1 : Addr) (n : Nat) (a b c d : Int) (x : RawV) (ha : I64 a) (hb : I64 b) (hc : I64 c) (hd : I64 d) (hx : x.ok) :
    SCalls Tryd.prog (gl a0 a1 n) 11 [I a, I b, I c, I d, x.tv] [] (.pv (.v (.bool true))) [] := by
  refine call_of0 hmix tf_morainelaw03_ValFits rfl ?_
  have HA := awake_ok a0 a1 n
  have HT := valType_ok (gl a0 a1 n) a b ha hb
  have HU := valType_ok (gl a0 a1 n) c d hc hd
  have ht := valType_right a b ha hb
  have hu := valType_right c d hc hd
  generalize valType a b = t at HT ht
  generalize valType c d = u at HU hu
  obtain ⟨L1, L2, L3, L4, L5, L6⟩ := law_fits ht hu x hx
  have HV := valFit_ok (gl a0 a1 n) t x 500 hx (by decide) (by decide)
  have hvk := valFit_vok t x 500
  have hvl := valFit_len t x 500
  generalize valFit t x 500 = v at HV L1 L2 L4 L5 hvk hvl
  have hvo := vok_small hvk.1 (fun y hy => (hvk.2 y hy).1)
  have HO := fits_ok a0 a1 n v u hvo
  generalize fitsV v u = o at HO L4 L5
  have HF := fits_ok a0 a1 n v t hvo
  rw [L1] at HF
  have HZ := zero_ok (gl a0 a1 n) t
  have hzl := zero_l t
  have HG := fits_nv a0 a1 n (zeroV t) t (vok_small (by rw [hzl.2]; simp) (by rw [hzl.1]; simp)) hzl.1
  rw [L3] at HG
  generalize zeroV t = z at HZ HG
  unfold tv at HV
  unfold tyT at HT HU HZ
  unfold nv at HZ
  unfold RawV.tv
  repeat (first | (with_reducible apply w_unr) | (with_reducible apply w_assoc) | (with_reducible apply w_skip) | (with_reducible apply w_ret) | (with_reducible apply w_retE) | (with_reducible apply w_skipE) | (with_reducible apply w_exit) | (with_reducible apply w_exitE) | (with_reducible apply w_block) | (with_reducible apply w_blockE) | ((with_reducible apply w_reg); · simp only [seval]; with_reducible rfl) | ((with_reducible apply w_regE); · simp only [seval]; with_reducible rfl) | ((with_reducible apply w_condT); · simp only [seval]) | ((with_reducible apply w_condF); · simp only [seval]) | ((with_reducible apply w_condTE); · simp only [seval]) | ((with_reducible apply w_condFE); · simp only [seval]) | (with_reducible apply q_then) | (with_reducible apply q_blockN) | (with_reducible apply q_blockR) | (with_reducible apply q_thenR) | (with_reducible apply q_thenX) | (with_reducible apply q_blockX) | ((with_reducible apply q_blockY); · rfl))
  (first | (with_reducible apply w_ops) | (with_reducible apply w_opsE))
  repeat ((with_reducible apply w_op); (· rfl); (· simp only [seval]; with_reducible rfl); (· simp only [seval]; with_reducible rfl))
  (with_reducible apply w_call); (· simp only [seval]; with_reducible rfl); (· simp only [seval]; with_reducible rfl); (· simp only [seval]; with_reducible rfl); (· simp only [seval]; with_reducible rfl); (· exact HA); (· rfl); (· simp only [seval]; with_reducible rfl); (· simp only [seval]; with_reducible rfl); (· simp only [seval]; with_reducible rfl)
  repeat ((with_reducible apply w_op); (· rfl); (· simp only [seval]; with_reducible rfl); (· simp only [seval]; with_reducible rfl))
  apply w_done
  (first | (with_reducible apply w_ops) | (with_reducible apply w_opsE))
  repeat ((with_reducible apply w_op); (· rfl); (· simp only [seval]; with_reducible rfl); (· simp only [seval]; with_reducible rfl))
  (with_reducible apply w_call); (· simp only [seval]; with_reducible rfl); (· simp only [seval]; with_reducible rfl); (· simp only [seval]; with_reducible rfl); (· simp only [seval]; with_reducible rfl); (· exact HT); (· rfl); (· simp only [seval]; with_reducible rfl); (· simp only [seval]; with_reducible rfl); (· simp only [seval]; with_reducible rfl)
  repeat ((with_reducible apply w_op); (· rfl); (· simp only [seval]; with_reducible rfl); (· simp only [seval]; with_reducible rfl))
  apply w_done
  (first | (with_reducible apply w_ops) | (with_reducible apply w_opsE))
  repeat ((with_reducible apply w_op); (· rfl); (· simp only [seval]; with_reducible rfl); (· simp only [seval]; with_reducible rfl))
  (with_reducible apply w_call); (· simp only [seval]; with_reducible rfl); (· simp only [seval]; with_reducible rfl); (· simp only [seval]; with_reducible rfl); (· simp only [seval]; with_reducible rfl); (· exact HU); (· rfl); (· simp only [seval]; with_reducible rfl); (· simp only [seval]; with_reducible rfl); (· simp only [seval]; with_reducible rfl)
  repeat ((with_reducible apply w_op); (· rfl); (· simp only [seval]; with_reducible rfl); (· simp only [seval]; with_reducible rfl))
  apply w_done
  (first | (with_reducible apply w_ops) | (with_reducible apply w_opsE))
  repeat ((with_reducible apply w_op); (· rfl); (· simp only [seval]; with_reducible rfl); (· simp only [seval]; with_reducible rfl))
  (with_reducible apply w_call); (· simp only [seval]; with_reducible rfl); (· simp only [seval]; with_reducible rfl); (· simp only [seval]; with_reducible rfl); (· simp only [seval]; with_reducible rfl); (· exact HV); (· rfl); (· simp only [seval]; with_reducible rfl); (· simp only [seval]; with_reducible rfl); (· simp only [seval]; with_reducible rfl)
  repeat ((with_reducible apply w_op); (· rfl); (· simp only [seval]; with_reducible rfl); (· simp only [seval]; with_reducible rfl))
  apply w_done
  (first | (with_reducible apply w_ops) | (with_reducible apply w_opsE))
  repeat ((with_reducible apply w_op); (· rfl); (· simp only [seval]; with_reducible rfl); (· simp only [seval]; with_reducible rfl))
  (with_reducible apply w_call); (· simp only [seval]; with_reducible rfl); (· simp only [seval]; with_reducible rfl); (· simp only [seval]; with_reducible rfl); (· simp only [seval]; with_reducible rfl); (· exact HO); (· rfl); (· simp only [seval]; with_reducible rfl); (· simp only [seval]; with_reducible rfl); (· simp only [seval]; with_reducible rfl)
  repeat ((with_reducible apply w_op); (· rfl); (· simp only [seval]; with_reducible rfl); (· simp only [seval]; with_reducible rfl))
  apply w_done
  repeat (first | (with_reducible apply w_unr) | (with_reducible apply w_assoc) | (with_reducible apply w_skip) | (with_reducible apply w_ret) | (with_reducible apply w_retE) | (with_reducible apply w_skipE) | (with_reducible apply w_exit) | (with_reducible apply w_exitE) | (with_reducible apply w_block) | (with_reducible apply w_blockE) | ((with_reducible apply w_reg); · simp only [seval]; with_reducible rfl) | ((with_reducible apply w_regE); · simp only [seval]; with_reducible rfl) | ((with_reducible apply w_condT); · simp only [seval]) | ((with_reducible apply w_condF); · simp only [seval]) | ((with_reducible apply w_condTE); · simp only [seval]) | ((with_reducible apply w_condFE); · simp only [seval]) | (with_reducible apply q_then) | (with_reducible apply q_blockN) | (with_reducible apply q_blockR) | (with_reducible apply q_thenR) | (with_reducible apply q_thenX) | (with_reducible apply q_blockX) | ((with_reducible apply q_blockY); · rfl))
  have hlm : (V.rows v.l).length = v.l.length := by rw [rows_eq]; simp
  refine w_loopE (σ := { i : Nat // i ≤ v.l.length }) (fun i => fitsSt t u v o i.1) (fun i => v.l.length - i.1) ⟨0, Nat.zero_le _⟩ ?_ ?_
  · unfold fitsSt
    apply le_of <;> simp [leL, lk, Nat.beq, I, S, ES.kill, has, drp]
  rintro ⟨i, hi⟩
  unfold fitsSt
  by_cases hlt : i < v.l.length
  · obtain ⟨y, hy⟩ : ∃ y, v.l[i]? = some y := ⟨_, List.getElem?_eq_getElem hlt⟩
    have hmem := List.mem_of_getElem? hy
    have er : (V.rows v.l)[i]? = some [.v (.int .i64 y.k), .v (.int .i64 y.n), .v (.string (str y.s)), .sl 4 (V.rows y.l)] := by rw [rows_get hy, row_eq]
    have HY := fits_ok a0 a1 n y ⟨t.o, 0⟩ (vok_small (hvk.2 y hmem).1 (by rw [(hvk.2 y hmem).2]; simp))
    rw [L2 y hmem] at HY
    have d1 := decide_T (p := ((i : Int) < (v.l.length : Int))) (by omega)
    have w1 : IntKind.i64.wrap ((i : Int) + 1) = ((i + 1 : Nat) : Int) := by rw [wrap64 (by omega) (by omega)]; omega
    repeat (first | (with_reducible apply w_unr) | (with_reducible apply w_assoc) | (with_reducible apply w_skip) | (with_reducible apply w_ret) | (with_reducible apply w_retE) | (with_reducible apply w_skipE) | (with_reducible apply w_exit) | (with_reducible apply w_exitE) | (with_reducible apply w_block) | (with_reducible apply w_blockE) | ((with_reducible apply w_reg); · simp only [seval, d1, hlm]; with_reducible rfl) | ((with_reducible apply w_regE); · simp only [seval, d1, hlm]; with_reducible rfl) | ((with_reducible apply w_condT); · simp only [seval, d1, hlm]) | ((with_reducible apply w_condF); · simp only [seval, d1, hlm]) | ((with_reducible apply w_condTE); · simp only [seval, d1, hlm]) | ((with_reducible apply w_condFE); · simp only [seval, d1, hlm]) | (with_reducible apply q_then) | (with_reducible apply q_blockN) | (with_reducible apply q_blockR) | (with_reducible apply q_thenR) | (with_reducible apply q_thenX) | (with_reducible apply q_blockX) | ((with_reducible apply q_blockY); · rfl))
    (first | (with_reducible apply w_ops) | (with_reducible apply w_opsE))
    repeat ((with_reducible apply w_op); (· rfl); (· simp only [seval, TV.elems, er]; with_reducible rfl); (· simp only [seval, TV.elems, er]; with_reducible rfl))
    (with_reducible apply w_callg); (· simp only [seval]); (· simp only [seval]; with_reducible rfl); (· simp only [seval]; with_reducible rfl); (· simp only [seval]; with_reducible rfl); (· simp only [seval]; with_reducible rfl); (· exact HY); (· rfl); (· simp only [seval]; with_reducible rfl); (· simp only [seval]; with_reducible rfl); (· simp only [seval]; with_reducible rfl)
    repeat ((with_reducible apply w_op); (· rfl); (· simp only [seval]; with_reducible rfl); (· simp only [seval]; with_reducible rfl))
    apply w_done
    repeat (first | (with_reducible apply w_unr) | (with_reducible apply w_assoc) | (with_reducible apply w_skip) | (with_reducible apply w_ret) | (with_reducible apply w_retE) | (with_reducible apply w_skipE) | (with_reducible apply w_exit) | (with_reducible apply w_exitE) | (with_reducible apply w_block) | (with_reducible apply w_blockE) | ((with_reducible apply w_reg); · simp only [seval, w1]; with_reducible rfl) | ((with_reducible apply w_regE); · simp only [seval, w1]; with_reducible rfl) | ((with_reducible apply w_condT); · simp only [seval, w1]) | ((with_reducible apply w_condF); · simp only [seval, w1]) | ((with_reducible apply w_condTE); · simp only [seval, w1]) | ((with_reducible apply w_condFE); · simp only [seval, w1]) | (with_reducible apply q_then) | (with_reducible apply q_blockN) | (with_reducible apply q_blockR) | (with_reducible apply q_thenR) | (with_reducible apply q_thenX) | (with_reducible apply q_blockX) | ((with_reducible apply q_blockY); · rfl))
    refine ⟨⟨i + 1, by omega⟩, by show v.l.length - (i + 1) < v.l.length - i; omega, ?_⟩
    apply le_of <;> simp [leL, lk, Nat.beq, I, S, ES.kill, has, drp]
  · have d1 := decide_F (p := ((i : Int) < (v.l.length : Int))) (by omega)
    repeat (first | (with_reducible apply w_unr) | (with_reducible apply w_assoc) | (with_reducible apply w_skip) | (with_reducible apply w_ret) | (with_reducible apply w_retE) | (with_reducible apply w_skipE) | (with_reducible apply w_exit) | (with_reducible apply w_exitE) | (with_reducible apply w_block) | (with_reducible apply w_blockE) | ((with_reducible apply w_reg); · simp only [seval, d1, hlm]; with_reducible rfl) | ((with_reducible apply w_regE); · simp only [seval, d1, hlm]; with_reducible rfl) | ((with_reducible apply w_condT); · simp only [seval, d1, hlm]) | ((with_reducible apply w_condF); · simp only [seval, d1, hlm]) | ((with_reducible apply w_condTE); · simp only [seval, d1, hlm]) | ((with_reducible apply w_condFE); · simp only [seval, d1, hlm]) | (with_reducible apply q_then) | (with_reducible apply q_blockN) | (with_reducible apply q_blockR) | (with_reducible apply q_thenR) | (with_reducible apply q_thenX) | (with_reducible apply q_blockX) | ((with_reducible apply q_blockY); · rfl))
    (first | (with_reducible apply w_ops) | (with_reducible apply w_opsE))
    repeat ((with_reducible apply w_op); (· rfl); (· simp only [seval]; with_reducible rfl); (· simp only [seval]; with_reducible rfl))
    (with_reducible apply w_call); (· simp only [seval]; with_reducible rfl); (· simp only [seval]; with_reducible rfl); (· simp only [seval]; with_reducible rfl); (· simp only [seval]; with_reducible rfl); (· exact HF); (· rfl); (· simp only [seval]; with_reducible rfl); (· simp only [seval]; with_reducible rfl); (· simp only [seval]; with_reducible rfl)
    repeat ((with_reducible apply w_op); (· rfl); (· simp only [seval]; with_reducible rfl); (· simp only [seval]; with_reducible rfl))
    (with_reducible apply w_callg); (· simp only [seval]); (· simp only [seval]; with_reducible rfl); (· simp only [seval]; with_reducible rfl); (· simp only [seval]; with_reducible rfl); (· simp only [seval]; with_reducible rfl); (· exact HZ); (· rfl); (· simp only [seval]; with_reducible rfl); (· simp only [seval]; with_reducible rfl); (· simp only [seval]; with_reducible rfl)
    repeat ((with_reducible apply w_op); (· rfl); (· simp only [seval]; with_reducible rfl); (· simp only [seval]; with_reducible rfl))
    (with_reducible apply w_callg); (· simp only [seval]); (· simp only [seval]; with_reducible rfl); (· simp only [seval]; with_reducible rfl); (· simp only [seval]; with_reducible rfl); (· simp only [seval]; with_reducible rfl); (· exact HG); (· rfl); (· simp only [seval]; with_reducible rfl); (· simp only [seval]; with_reducible rfl); (· simp only [seval]; with_reducible rfl)
    repeat ((with_reducible apply w_op); (· rfl); (· simp only [seval]; with_reducible rfl); (· simp only [seval]; with_reducible rfl))
    apply w_done
    have hneq := fun (a b c d : Int) => ty_neq a b c d
    have hbb := bb_eql
    obtain ⟨p3, d3⟩ : ∃ p, decide (t.k = 3) = p := ⟨_, rfl⟩
    obtain ⟨p4, d4⟩ : ∃ p, decide (t.k = 4) = p := ⟨_, rfl⟩
    obtain ⟨q3, e3⟩ : ∃ p, decide (u.k = 3) = p := ⟨_, rfl⟩
    obtain ⟨q4, e4⟩ : ∃ p, decide (u.k = 4) = p := ⟨_, rfl⟩
    obtain ⟨p5, d5⟩ : ∃ p, decide (t.k = u.k) = p := ⟨_, rfl⟩
    obtain ⟨p6, d6⟩ : ∃ p, decide (v.k = 0) = p := ⟨_, rfl⟩
    obtain ⟨p7, d7⟩ : ∃ p, (t.k == u.k && t.o == u.o) = p := ⟨_, rfl⟩
    obtain ⟨p8, d8⟩ : ∃ p, decide (t.k = 5) = p := ⟨_, rfl⟩
    have M4 : p5 = false → o = ((p3 || p4) && (q3 || q4) && p6) := by
      rintro rfl
      rw [L4 (of_decide_eq_false d5), ← d3, ← d4, ← e3, ← e4, ← d6]
      simp only [Bool.decide_or]
    have M7 : p7 = true → o = true := by
      rintro rfl
      refine L5 ?_
      simp only [Bool.and_eq_true, beq_iff_eq] at d7
      cases t; cases u; simp only at d7; rw [d7.1, d7.2]
    have M8 : p5 = true → p8 = false → p7 = true := by
      rintro rfl rfl
      have := L6 (of_decide_eq_true d5) (of_decide_eq_false d8)
      subst this
      rw [← d7]; simp
    clear HA HT HU HV HO HF HZ HG
    repeat (first | (with_reducible apply w_unr) | (with_reducible apply w_assoc) | (with_reducible apply w_skip) | (with_reducible apply w_ret) | (with_reducible apply w_retE) | (with_reducible apply w_skipE) | (with_reducible apply w_exit) | (with_reducible apply w_exitE) | (with_reducible apply w_block) | (with_reducible apply w_blockE) | ((with_reducible apply w_reg); · simp only [seval]; with_reducible rfl) | ((with_reducible apply w_regE); · simp only [seval]; with_reducible rfl) | ((with_reducible apply w_condT); · simp only [seval]) | ((with_reducible apply w_condF); · simp only [seval]) | ((with_reducible apply w_condTE); · simp only [seval]) | ((with_reducible apply w_condFE); · simp only [seval]) | (with_reducible apply q_then) | (with_reducible apply q_blockN) | (with_reducible apply q_blockR) | (with_reducible apply q_thenR) | (with_reducible apply q_thenX) | (with_reducible apply q_blockX) | ((with_reducible apply q_blockY); · rfl))
    with_reducible apply w_reg (s' := ⟨[(11, .pv (.v (.bool true))), (12, .ptr 12 0), (13, .ptr 13 0), (14, .ptr 14 0), (15, .pv (.v (.bool o))), (36, .pv (.v (.bool false))), (18, .pv (.v (.bool ((p3 || p4) && (q3 || q4)))))], [(12, [.pv (.v (.int .i64 t.k)), .pv (.v (.int .i64 t.o))]), (13, [.pv (.v (.int .i64 u.k)), .pv (.v (.int .i64 u.o))]), (14, [.pv (.v (.int .i64 v.k)), .pv (.v (.int .i64 v.n)), .pv (.v (.string (str v.s))), .pv (.sl 4 (V.rows v.l))])], [], []⟩)
    · clear M4 M7 M8 d5 d6 d7 d8
      cases p3 <;> cases p4 <;> cases q3 <;> cases q4 <;> (simp only [seval, d3, d4, e3, e4, undef, Bool.or_true, Bool.true_or, Bool.and_self, Bool.and_true, Bool.and_false, Bool.or_self])
    clear d3 d4 e3 e4
    generalize ((p3 || p4) && (q3 || q4)) = rf at M4 ⊢
    cases p5
    · have ho := M4 rfl
      clear M4 M7 M8 d7 d8 L4 L5 L6
      subst ho
      cases rf <;> cases p6
      all_goals (repeat (first | (with_reducible apply w_unr) | (with_reducible apply w_assoc) | (with_reducible apply w_skip) | (with_reducible apply w_ret) | (with_reducible apply w_retE) | (with_reducible apply w_skipE) | (with_reducible apply w_exit) | (with_reducible apply w_exitE) | (with_reducible apply w_block) | (with_reducible apply w_blockE) | ((with_reducible apply w_reg); · simp only [seval, d5, d6, hbb, undef, Bool.false_and, Bool.true_and, Bool.and_false, Bool.and_true]; with_reducible rfl) | ((with_reducible apply w_regE); · simp only [seval, d5, d6, hbb, undef, Bool.false_and, Bool.true_and, Bool.and_false, Bool.and_true]; with_reducible rfl) | ((with_reducible apply w_condT); · simp only [seval, d5, d6, hbb, undef, Bool.false_and, Bool.true_and, Bool.and_false, Bool.and_true]) | ((with_reducible apply w_condF); · simp only [seval, d5, d6, hbb, undef, Bool.false_and, Bool.true_and, Bool.and_false, Bool.and_true]) | ((with_reducible apply w_condTE); · simp only [seval, d5, d6, hbb, undef, Bool.false_and, Bool.true_and, Bool.and_false, Bool.and_true]) | ((with_reducible apply w_condFE); · simp only [seval, d5, d6, hbb, undef, Bool.false_and, Bool.true_and, Bool.and_false, Bool.and_true]) | (with_reducible apply q_then) | (with_reducible apply q_blockN) | (with_reducible apply q_blockR) | (with_reducible apply q_thenR) | (with_reducible apply q_thenX) | (with_reducible apply q_blockX) | ((with_reducible apply q_blockY); · rfl)))
      all_goals (simp [Post0, ansW, resT, SRes.get, ES.fs, ES.kill, has, drp, seqO, nbeq, lk, I, S, TV.ids3, TV.ids2, TV.ids1, TV.ids0, TV.ren3, TV.ren2, TV.ren1, TV.ren0, F_morainelaw03_ValFits])
    · cases p7
      · have h8 : p8 = true := by cases p8 <;> simp at M8 ⊢
        subst h8
        repeat (first | (with_reducible apply w_unr) | (with_reducible apply w_assoc) | (with_reducible apply w_skip) | (with_reducible apply w_ret) | (with_reducible apply w_retE) | (with_reducible apply w_skipE) | (with_reducible apply w_exit) | (with_reducible apply w_exitE) | (with_reducible apply w_block) | (with_reducible apply w_blockE) | ((with_reducible apply w_reg); · simp only [seval, d5, hneq, d7, d8, undef]; with_reducible rfl) | ((with_reducible apply w_regE); · simp only [seval, d5, hneq, d7, d8, undef]; with_reducible rfl) | ((with_reducible apply w_condT); · simp only [seval, d5, hneq, d7, d8, undef]) | ((with_reducible apply w_condF); · simp only [seval, d5, hneq, d7, d8, undef]) | ((with_reducible apply w_condTE); · simp only [seval, d5, hneq, d7, d8, undef]) | ((with_reducible apply w_condFE); · simp only [seval, d5, hneq, d7, d8, undef]) | (with_reducible apply q_then) | (with_reducible apply q_blockN) | (with_reducible apply q_blockR) | (with_reducible apply q_thenR) | (with_reducible apply q_thenX) | (with_reducible apply q_blockX) | ((with_reducible apply q_blockY); · rfl))
        simp [Post0, ansW, resT, SRes.get, ES.fs, ES.kill, has, drp, seqO, nbeq, lk, I, S, TV.ids3, TV.ids2, TV.ids1, TV.ids0, TV.ren3, TV.ren2, TV.ren1, TV.ren0, F_morainelaw03_ValFits]
      · have ho := M7 rfl
        subst ho
        cases p8
        · repeat (first | (with_reducible apply w_unr) | (with_reducible apply w_assoc) | (with_reducible apply w_skip) | (with_reducible apply w_ret) | (with_reducible apply w_retE) | (with_reducible apply w_skipE) | (with_reducible apply w_exit) | (with_reducible apply w_exitE) | (with_reducible apply w_block) | (with_reducible apply w_blockE) | ((with_reducible apply w_reg); · simp only [seval, d5, hneq, d7, d8, undef]; with_reducible rfl) | ((with_reducible apply w_regE); · simp only [seval, d5, hneq, d7, d8, undef]; with_reducible rfl) | ((with_reducible apply w_condT); · simp only [seval, d5, hneq, d7, d8, undef]) | ((with_reducible apply w_condF); · simp only [seval, d5, hneq, d7, d8, undef]) | ((with_reducible apply w_condTE); · simp only [seval, d5, hneq, d7, d8, undef]) | ((with_reducible apply w_condFE); · simp only [seval, d5, hneq, d7, d8, undef]) | (with_reducible apply q_then) | (with_reducible apply q_blockN) | (with_reducible apply q_blockR) | (with_reducible apply q_thenR) | (with_reducible apply q_thenX) | (with_reducible apply q_blockX) | ((with_reducible apply q_blockY); · rfl))
          simp [Post0, ansW, resT, SRes.get, ES.fs, ES.kill, has, drp, seqO, nbeq, lk, I, S, TV.ids3, TV.ids2, TV.ids1, TV.ids0, TV.ren3, TV.ren2, TV.ren1, TV.ren0, F_morainelaw03_ValFits]
        · repeat (first | (with_reducible apply w_unr) | (with_reducible apply w_assoc) | (with_reducible apply w_skip) | (with_reducible apply w_ret) | (with_reducible apply w_retE) | (with_reducible apply w_skipE) | (with_reducible apply w_exit) | (with_reducible apply w_exitE) | (with_reducible apply w_block) | (with_reducible apply w_blockE) | ((with_reducible apply w_reg); · simp only [seval, d5, hneq, d7, d8, undef]; with_reducible rfl) | ((with_reducible apply w_regE); · simp only [seval, d5, hneq, d7, d8, undef]; with_reducible rfl) | ((with_reducible apply w_condT); · simp only [seval, d5, hneq, d7, d8, undef]) | ((with_reducible apply w_condF); · simp only [seval, d5, hneq, d7, d8, undef]) | ((with_reducible apply w_condTE); · simp only [seval, d5, hneq, d7, d8, undef]) | ((with_reducible apply w_condFE); · simp only [seval, d5, hneq, d7, d8, undef]) | (with_reducible apply q_then) | (with_reducible apply q_blockN) | (with_reducible apply q_blockR) | (with_reducible apply q_thenR) | (with_reducible apply q_thenX) | (with_reducible apply q_blockX) | ((with_reducible apply q_blockY); · rfl))
          simp [Post0, ansW, resT, SRes.get, ES.fs, ES.kill, has, drp, seqO, nbeq, lk, I, S, TV.ids3, TV.ids2, TV.ids1, TV.ids0, TV.ren3, TV.ren2, TV.ren1, TV.ren0, F_morainelaw03_ValFits]
end Go.Proofs.YtdlolkogifigpaaDoor
