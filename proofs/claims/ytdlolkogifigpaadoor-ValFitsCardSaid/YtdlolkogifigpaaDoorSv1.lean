/- Calls of package val that are known, as Sh has them. No statement of the program is proved here. -/
import Derived.Test.YtdlolkogifigpaaDoorSy9
import Derived.Test.YtdlolkogifigpaaDoorVal4
set_option linter.unusedSimpArgs false
set_option linter.unusedVariables false
namespace Go.Proofs.YtdlolkogifigpaaDoor
open Go Go.RowKit Go.Mor Go.Sh Go.Sh.Cd1
theorem relV_val {w : World} {K : Nat → Nat → Prop} {x v : Value} (h : RelV w K (.v x) v) : v = x := by cases h; rfl
theorem rows_get {l : List V} {i : Nat} {x : V} (h : l[i]? = some x) : (V.rows l)[i]? = some (V.row x) := by rw [rows_eq, List.getElem?_map, h]; rfl
theorem isL_of (n : Nat) : ∀ (l : List V), SizeOf.sizeOf l ≤ n → ∀ {w : World} {K : Nat → Nat → Prop} {v : Value}, RelV w K (.sl 4 (V.rows l)) v → IsL (fun _ => True) w l v := by
  induction n with
  | zero => intro l hn; cases l <;> simp at hn
  | succ n ih =>
    intro l hn w K v h
    generalize hes : V.rows l = es at h
    cases h with
    | sl W es b off cap p f hp hcap hmax hW hc hs =>
      have hlen : es.length = l.length := by rw [← hes, rows_eq]; simp
      rw [hlen]
      have key : ∀ (i : Nat) (x : V), l[i]? = some x → es[i]? = some (V.row x) := fun i x hx => by rw [← hes]; exact rows_get hx
      refine .mk l b off cap p (fun i => f i 3) (by omega) hmax (fun hl => ⟨hp ?_, trivial⟩) (fun i x hx => ?_) (fun i x hx => ?_)
      · rintro rfl; exact hl (List.eq_nil_of_length_eq_zero (by simpa using hlen.symm))
      · have h1 := key i x hx
        obtain ⟨k, m, s, l'⟩ := x
        have q0 : (V.row (.mk k m s l'))[0]? = some (.v (.int .i64 k)) := by simp only [V.row, List.getElem?_cons_zero]
        have q1 : (V.row (.mk k m s l'))[1]? = some (.v (.int .i64 m)) := by simp only [V.row, List.getElem?_cons_succ, List.getElem?_cons_zero]
        have q2 : (V.row (.mk k m s l'))[2]? = some (.v (.string (str s))) := by simp only [V.row, List.getElem?_cons_succ, List.getElem?_cons_zero]
        have q3 : (V.row (.mk k m s l'))[3]? = some (.sl 4 (V.rows l')) := by simp only [V.row, List.getElem?_cons_succ, List.getElem?_cons_zero]
        have a0 := hc i 0 _ _ h1 q0
        have a1 := hc i 1 _ _ h1 q1
        have a2 := hc i 2 _ _ h1 q2
        have a3 := hc i 3 _ _ h1 q3
        have b0 := relV_val (hs i 0 _ _ h1 q0)
        have b1 := relV_val (hs i 1 _ _ h1 q1)
        have b2 := relV_val (hs i 2 _ _ h1 q2)
        exact ⟨by rw [show V.k (.mk k m s l') = k from rfl, ← b0]; exact a0.2.1, by rw [show V.n (.mk k m s l') = m from rfl, ← b1]; exact a1.2.1, by rw [show V.s (.mk k m s l') = s from rfl, ← b2]; exact a2.2.1, a3.2.1⟩
      · have h1 := key i x hx
        obtain ⟨k, m, s, l'⟩ := x
        have b3 := hs i 3 _ (.sl 4 (V.rows l')) h1 (by simp only [V.row, List.getElem?_cons_succ, List.getElem?_cons_zero])
        refine ih l' ?_ b3
        have := List.sizeOf_lt_of_mem (List.mem_of_getElem? hx)
        simp at this
        omega
theorem relV_isL {w : World} {K : Nat → Nat → Prop} {l : List V} {v : Value} (h : RelV w K (.sl 4 (V.rows l)) v) : IsL (fun _ => True) w l v := isL_of _ l (Nat.le_refl _) h
theorem rel_I {w : World} {E : Env} {r : Sh.Rows} {x : Int} {v : Value} (h : RelT w E r (I x) v) : v = .int .i64 x := val_rel h rfl
theorem rel_S {w : World} {E : Env} {r : Sh.Rows} {x : ByteArray} {v : Value} (h : RelT w E r (S x) v) : v = .string x := val_rel h rfl
theorem rel_tv {w : World} {E : Env} {r : Sh.Rows} {x : V} {v : Value} (h : RelT w E r (tv x) v) : ∃ c, v = .agg #[.int .i64 x.k, .int .i64 x.n, .string (str x.s), c] ∧ IsL (fun _ => True) w x.l c := by
  unfold tv at h
  cases h with
  | agg cs vs hl hr ho =>
    match vs, hl with
    | [v0, v1, v2, v3], _ =>
      obtain rfl := rel_I (hr 0 _ v0 rfl rfl)
      obtain rfl := rel_I (hr 1 _ v1 rfl rfl)
      obtain rfl := rel_S (hr 2 _ v2 rfl rfl)
      have h3 := hr 3 _ v3 rfl rfl
      cases h3 with
      | pv h => exact ⟨v3, rfl, relV_isL h⟩
theorem rel_ty {w : World} {E : Env} {r : Sh.Rows} {x : Ty} {v : Value} (h : RelT w E r (tyT x) v) : v = .agg #[.int .i64 x.k, .int .i64 x.o] := by
  unfold tyT at h
  cases h with
  | agg cs vs hl hr ho =>
    match vs, hl with
    | [v0, v1], _ =>
      obtain rfl := rel_I (hr 0 _ v0 rfl rfl)
      obtain rfl := rel_I (hr 1 _ v1 rfl rfl)
      rfl
/-- A call that answers a plain value, and leaves what was there. -/
theorem scalls_by {P : Program} {g : Sh.Glob} {f : Nat} {xs : List TV} {y : TV} {v : Value} (hb : hasBody P f) (hy : ∀ w E r, RelT w E r y v)
    (h : ∀ (w : World) (E : Env) (us : List Value), g.G w → xs.length = us.length → (∀ (j : Nat) x v, xs[j]? = some x → us[j]? = some v → RelT w E (objR []) x v) → Calls P f us.toArray w fun e w' => e = .returned v ∧ Below w.heap.size w w') : SCalls P g f xs [] y [] := by
  refine ⟨hb, fun w E us hG hm hX hl hr => ?_⟩
  refine (h w E us hG hl hr).mono ?_
  rintro e w' ⟨rfl, hb⟩
  refine ⟨v, E, rfl, ?_, hy _ _ _, ⟨fun _ _ _ => rfl, fun _ _ _ _ => rfl, fun d e W n hd => by obtain ⟨j, _, hj⟩ := objR_inv hd; simp at hj⟩⟩
  exact MSim.ext (s := ⟨fun _ => none, objB [], objR [], fun _ => none⟩) hm hb E (fun _ _ h => h) (fun _ _ h => .inl h) (fun _ _ => ⟨rfl, rfl⟩) (fun _ _ _ => rfl) (fun _ _ => ⟨rfl, rfl⟩)
/-- All texts of a value, and of those in it, may be. -/
def VOk (x : V) : Prop := TextsOk x ∧ ∀ y ∈ x.l, TextsOk y
theorem fits_ok (a0 a1 : Addr) (n : Nat) (x : V) (t : Ty) (hx : VOk x) : SCalls Tryd.prog (gl a0 a1 n) 38 [tv x, tyT t] [] (.pv (.v (.bool (fitsV x t)))) [] := by
  refine scalls_by (body_of (by kernel_rfl)) (fun w E r => .pv (.v _)) (fun w E us hG hl hr => ?_)
  match us, hl with
  | [u0, u1], _ =>
    obtain ⟨c, rfl, hL⟩ := rel_tv (hr 0 _ u0 rfl rfl)
    obtain rfl := rel_ty (hr 1 _ u1 rfl rfl)
    exact Fits_any x c t a0 a1 w hx.1 hx.2 hL hG.g
theorem rightV_ok (a0 a1 : Addr) (n : Nat) (x : V) (hx : VOk x) : SCalls Tryd.prog (gl a0 a1 n) 57 [tv x] [] (.pv (.v (.bool (rightV x)))) [] := by
  refine scalls_by (body_of (by kernel_rfl)) (fun w E r => .pv (.v _)) (fun w E us hG hl hr => ?_)
  match us, hl with
  | [u0], _ =>
    obtain ⟨c, rfl, hL⟩ := rel_tv (hr 0 _ u0 rfl rfl)
    exact Right_any x c a0 a1 w hx.1 hx.2 hL hG.g
theorem rightType_ok (g : Sh.Glob) (t : Ty) : SCalls Tryd.prog g 55 [tyT t] [] (.pv (.v (.bool (rightType t)))) [] := by
  refine scalls_by (body_of (by kernel_rfl)) (fun w E r => .pv (.v _)) (fun w E us hG hl hr => ?_)
  match us, hl with
  | [u0], _ =>
    obtain rfl := rel_ty (hr 0 _ u0 rfl rfl)
    exact rightType_any t w
set_option maxRecDepth 100000 in
theorem zero_ok (g : Sh.Glob) (t : Ty) : SCalls Tryd.prog g 25 [tyT t] [] (nv (zeroV t)) [] := by
  refine call_of0 hmix tf_val_Zero rfl ?_
  have HR := rightType_ok g t
  unfold tyT at HR ⊢
  unfold zeroV
  cases hr : rightType t
  · rw [hr] at HR
    repeat (first | (with_reducible apply w_unr) | (with_reducible apply w_assoc) | (with_reducible apply w_skip) | (with_reducible apply w_ret) | (with_reducible apply w_retE) | (with_reducible apply w_skipE) | (with_reducible apply w_exit) | (with_reducible apply w_exitE) | (with_reducible apply w_block) | (with_reducible apply w_blockE) | ((with_reducible apply w_reg); · simp only [seval]; with_reducible rfl) | ((with_reducible apply w_regE); · simp only [seval]; with_reducible rfl) | ((with_reducible apply w_condT); · simp only [seval]) | ((with_reducible apply w_condF); · simp only [seval]) | ((with_reducible apply w_condTE); · simp only [seval]) | ((with_reducible apply w_condFE); · simp only [seval]) | (with_reducible apply q_then) | (with_reducible apply q_blockN) | (with_reducible apply q_blockR) | (with_reducible apply q_thenR) | (with_reducible apply q_thenX) | (with_reducible apply q_blockX) | ((with_reducible apply q_blockY); · rfl))
    (first | (with_reducible apply w_ops) | (with_reducible apply w_opsE))
    repeat ((with_reducible apply w_op); (· rfl); (· simp only [seval]; with_reducible rfl); (· simp only [seval]; with_reducible rfl))
    (with_reducible apply w_call); (· simp only [seval]; with_reducible rfl); (· simp only [seval]; with_reducible rfl); (· simp only [seval]; with_reducible rfl); (· simp only [seval]; with_reducible rfl); (· exact HR); (· rfl); (· simp only [seval]; with_reducible rfl); (· simp only [seval]; with_reducible rfl); (· simp only [seval]; with_reducible rfl)
    repeat ((with_reducible apply w_op); (· rfl); (· simp only [seval, undef]; with_reducible rfl); (· simp only [seval, undef]; with_reducible rfl))
    apply w_done
    repeat (first | (with_reducible apply w_unr) | (with_reducible apply w_assoc) | (with_reducible apply w_skip) | (with_reducible apply w_ret) | (with_reducible apply w_retE) | (with_reducible apply w_skipE) | (with_reducible apply w_exit) | (with_reducible apply w_exitE) | (with_reducible apply w_block) | (with_reducible apply w_blockE) | ((with_reducible apply w_reg); · simp only [seval]; with_reducible rfl) | ((with_reducible apply w_regE); · simp only [seval]; with_reducible rfl) | ((with_reducible apply w_condT); · simp only [seval]) | ((with_reducible apply w_condF); · simp only [seval]) | ((with_reducible apply w_condTE); · simp only [seval]) | ((with_reducible apply w_condFE); · simp only [seval]) | (with_reducible apply q_then) | (with_reducible apply q_blockN) | (with_reducible apply q_blockR) | (with_reducible apply q_thenR) | (with_reducible apply q_thenX) | (with_reducible apply q_blockX) | ((with_reducible apply q_blockY); · rfl))
    simp [Post0, ansW, resT, SRes.get, ES.fs, ES.kill, has, drp, seqO, nbeq, lk, I, S, TV.ids3, TV.ids2, TV.ids1, TV.ids0, TV.ren3, TV.ren2, TV.ren1, TV.ren0, F_val_Zero, nv, V.nil, V.k, V.n, V.s, str0]
  · rw [hr] at HR
    by_cases k3 : t.k = 3
    · have d3 := decide_T k3
      repeat (first | (with_reducible apply w_unr) | (with_reducible apply w_assoc) | (with_reducible apply w_skip) | (with_reducible apply w_ret) | (with_reducible apply w_retE) | (with_reducible apply w_skipE) | (with_reducible apply w_exit) | (with_reducible apply w_exitE) | (with_reducible apply w_block) | (with_reducible apply w_blockE) | ((with_reducible apply w_reg); · simp only [seval]; with_reducible rfl) | ((with_reducible apply w_regE); · simp only [seval]; with_reducible rfl) | ((with_reducible apply w_condT); · simp only [seval]) | ((with_reducible apply w_condF); · simp only [seval]) | ((with_reducible apply w_condTE); · simp only [seval]) | ((with_reducible apply w_condFE); · simp only [seval]) | (with_reducible apply q_then) | (with_reducible apply q_blockN) | (with_reducible apply q_blockR) | (with_reducible apply q_thenR) | (with_reducible apply q_thenX) | (with_reducible apply q_blockX) | ((with_reducible apply q_blockY); · rfl))
      (first | (with_reducible apply w_ops) | (with_reducible apply w_opsE))
      repeat ((with_reducible apply w_op); (· rfl); (· simp only [seval]; with_reducible rfl); (· simp only [seval]; with_reducible rfl))
      (with_reducible apply w_call); (· simp only [seval]; with_reducible rfl); (· simp only [seval]; with_reducible rfl); (· simp only [seval]; with_reducible rfl); (· simp only [seval]; with_reducible rfl); (· exact HR); (· rfl); (· simp only [seval]; with_reducible rfl); (· simp only [seval]; with_reducible rfl); (· simp only [seval]; with_reducible rfl)
      repeat ((with_reducible apply w_op); (· rfl); (· simp only [seval, d3, undef]; with_reducible rfl); (· simp only [seval, d3, undef]; with_reducible rfl))
      apply w_done
      repeat (first | (with_reducible apply w_unr) | (with_reducible apply w_assoc) | (with_reducible apply w_skip) | (with_reducible apply w_ret) | (with_reducible apply w_retE) | (with_reducible apply w_skipE) | (with_reducible apply w_exit) | (with_reducible apply w_exitE) | (with_reducible apply w_block) | (with_reducible apply w_blockE) | ((with_reducible apply w_reg); · simp only [seval]; with_reducible rfl) | ((with_reducible apply w_regE); · simp only [seval]; with_reducible rfl) | ((with_reducible apply w_condT); · simp only [seval]) | ((with_reducible apply w_condF); · simp only [seval]) | ((with_reducible apply w_condTE); · simp only [seval]) | ((with_reducible apply w_condFE); · simp only [seval]) | (with_reducible apply q_then) | (with_reducible apply q_blockN) | (with_reducible apply q_blockR) | (with_reducible apply q_thenR) | (with_reducible apply q_thenX) | (with_reducible apply q_blockX) | ((with_reducible apply q_blockY); · rfl))
      simp [Post0, ansW, resT, SRes.get, ES.fs, ES.kill, has, drp, seqO, nbeq, lk, I, S, TV.ids3, TV.ids2, TV.ids1, TV.ids0, TV.ren3, TV.ren2, TV.ren1, TV.ren0, F_val_Zero, k3, nv, V.nil, V.k, V.n, V.s, str0]
    · have d3 := decide_F k3
      by_cases k4 : t.k = 4
      · have d4 := decide_T k4
        repeat (first | (with_reducible apply w_unr) | (with_reducible apply w_assoc) | (with_reducible apply w_skip) | (with_reducible apply w_ret) | (with_reducible apply w_retE) | (with_reducible apply w_skipE) | (with_reducible apply w_exit) | (with_reducible apply w_exitE) | (with_reducible apply w_block) | (with_reducible apply w_blockE) | ((with_reducible apply w_reg); · simp only [seval]; with_reducible rfl) | ((with_reducible apply w_regE); · simp only [seval]; with_reducible rfl) | ((with_reducible apply w_condT); · simp only [seval]) | ((with_reducible apply w_condF); · simp only [seval]) | ((with_reducible apply w_condTE); · simp only [seval]) | ((with_reducible apply w_condFE); · simp only [seval]) | (with_reducible apply q_then) | (with_reducible apply q_blockN) | (with_reducible apply q_blockR) | (with_reducible apply q_thenR) | (with_reducible apply q_thenX) | (with_reducible apply q_blockX) | ((with_reducible apply q_blockY); · rfl))
        (first | (with_reducible apply w_ops) | (with_reducible apply w_opsE))
        repeat ((with_reducible apply w_op); (· rfl); (· simp only [seval]; with_reducible rfl); (· simp only [seval]; with_reducible rfl))
        (with_reducible apply w_call); (· simp only [seval]; with_reducible rfl); (· simp only [seval]; with_reducible rfl); (· simp only [seval]; with_reducible rfl); (· simp only [seval]; with_reducible rfl); (· exact HR); (· rfl); (· simp only [seval]; with_reducible rfl); (· simp only [seval]; with_reducible rfl); (· simp only [seval]; with_reducible rfl)
        repeat ((with_reducible apply w_op); (· rfl); (· simp only [seval, d3, d4, undef]; with_reducible rfl); (· simp only [seval, d3, d4, undef]; with_reducible rfl))
        apply w_done
        repeat (first | (with_reducible apply w_unr) | (with_reducible apply w_assoc) | (with_reducible apply w_skip) | (with_reducible apply w_ret) | (with_reducible apply w_retE) | (with_reducible apply w_skipE) | (with_reducible apply w_exit) | (with_reducible apply w_exitE) | (with_reducible apply w_block) | (with_reducible apply w_blockE) | ((with_reducible apply w_reg); · simp only [seval]; with_reducible rfl) | ((with_reducible apply w_regE); · simp only [seval]; with_reducible rfl) | ((with_reducible apply w_condT); · simp only [seval]) | ((with_reducible apply w_condF); · simp only [seval]) | ((with_reducible apply w_condTE); · simp only [seval]) | ((with_reducible apply w_condFE); · simp only [seval]) | (with_reducible apply q_then) | (with_reducible apply q_blockN) | (with_reducible apply q_blockR) | (with_reducible apply q_thenR) | (with_reducible apply q_thenX) | (with_reducible apply q_blockX) | ((with_reducible apply q_blockY); · rfl))
        simp [Post0, ansW, resT, SRes.get, ES.fs, ES.kill, has, drp, seqO, nbeq, lk, I, S, TV.ids3, TV.ids2, TV.ids1, TV.ids0, TV.ren3, TV.ren2, TV.ren1, TV.ren0, F_val_Zero, k3, k4, nv, V.nil, V.k, V.n, V.s, str0]
      · have d4 := decide_F k4
        repeat (first | (with_reducible apply w_unr) | (with_reducible apply w_assoc) | (with_reducible apply w_skip) | (with_reducible apply w_ret) | (with_reducible apply w_retE) | (with_reducible apply w_skipE) | (with_reducible apply w_exit) | (with_reducible apply w_exitE) | (with_reducible apply w_block) | (with_reducible apply w_blockE) | ((with_reducible apply w_reg); · simp only [seval]; with_reducible rfl) | ((with_reducible apply w_regE); · simp only [seval]; with_reducible rfl) | ((with_reducible apply w_condT); · simp only [seval]) | ((with_reducible apply w_condF); · simp only [seval]) | ((with_reducible apply w_condTE); · simp only [seval]) | ((with_reducible apply w_condFE); · simp only [seval]) | (with_reducible apply q_then) | (with_reducible apply q_blockN) | (with_reducible apply q_blockR) | (with_reducible apply q_thenR) | (with_reducible apply q_thenX) | (with_reducible apply q_blockX) | ((with_reducible apply q_blockY); · rfl))
        (first | (with_reducible apply w_ops) | (with_reducible apply w_opsE))
        repeat ((with_reducible apply w_op); (· rfl); (· simp only [seval]; with_reducible rfl); (· simp only [seval]; with_reducible rfl))
        (with_reducible apply w_call); (· simp only [seval]; with_reducible rfl); (· simp only [seval]; with_reducible rfl); (· simp only [seval]; with_reducible rfl); (· simp only [seval]; with_reducible rfl); (· exact HR); (· rfl); (· simp only [seval]; with_reducible rfl); (· simp only [seval]; with_reducible rfl); (· simp only [seval]; with_reducible rfl)
        repeat ((with_reducible apply w_op); (· rfl); (· simp only [seval, d3, d4, undef]; with_reducible rfl); (· simp only [seval, d3, d4, undef]; with_reducible rfl))
        apply w_done
        repeat (first | (with_reducible apply w_unr) | (with_reducible apply w_assoc) | (with_reducible apply w_skip) | (with_reducible apply w_ret) | (with_reducible apply w_retE) | (with_reducible apply w_skipE) | (with_reducible apply w_exit) | (with_reducible apply w_exitE) | (with_reducible apply w_block) | (with_reducible apply w_blockE) | ((with_reducible apply w_reg); · simp only [seval]; with_reducible rfl) | ((with_reducible apply w_regE); · simp only [seval]; with_reducible rfl) | ((with_reducible apply w_condT); · simp only [seval]) | ((with_reducible apply w_condF); · simp only [seval]) | ((with_reducible apply w_condTE); · simp only [seval]) | ((with_reducible apply w_condFE); · simp only [seval]) | (with_reducible apply q_then) | (with_reducible apply q_blockN) | (with_reducible apply q_blockR) | (with_reducible apply q_thenR) | (with_reducible apply q_thenX) | (with_reducible apply q_blockX) | ((with_reducible apply q_blockY); · rfl))
        simp [Post0, ansW, resT, SRes.get, ES.fs, ES.kill, has, drp, seqO, nbeq, lk, I, S, TV.ids3, TV.ids2, TV.ids1, TV.ids0, TV.ren3, TV.ren2, TV.ren1, TV.ren0, F_val_Zero, k3, k4, nv, V.nil, V.k, V.n, V.s, str0]
end Go.Proofs.YtdlolkogifigpaaDoor
