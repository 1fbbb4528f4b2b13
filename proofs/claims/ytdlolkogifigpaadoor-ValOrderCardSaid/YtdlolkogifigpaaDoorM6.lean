/- Merged texts: Sv1 Open3 Sy11 S19 Vc1 Zy2 Zy1 Zy3 Pz1 Aw1 Zo1. No statement of the program is proved here. -/
import Derived.Test.YtdlolkogifigpaaDoorM5
set_option linter.unusedSimpArgs false
set_option linter.unusedVariables false
section
/- Calls of package val that are known, as Sh has them. No statement of the program is proved here. -/
namespace Go.Proofs.YtdlolkogifigpaaDoor
open Go Go.RowKit Go.Mor Go.Sh Go.Sh.Cd1
theorem relV_val {w : World} {K : Nat → Nat → Prop} {x v : Value} (h : RelV w K (.v x) v) : v = x := by cases h; rfl
theorem rows_get {l : List V} {i : Nat} {x : V} (h : l[i]? = some x) : (V.rows l)[i]? = some (V.row x) := by rw [rows_eq, List.getElem?_map, h]; rfl
theorem isL_of (n : Nat) : ∀ (l : List V), SizeOf.sizeOf l ≤ n → ∀ {w : World} {K : Nat → Nat → Prop} {v : Value}, RelV w K (.sl 4 (V.rows l)) v → IsL (fun _ => True) w l v := by
  induction n with
  | zero => intro l hn; cases l <;> simp at hn
  | succ n ih =>
    intro l hn w K v h
    generalize hes : V.rows l = es at h
    cases h with
    | sl W es b off cap p f hp hcap hmax hW hc hs =>
      have hlen : es.length = l.length := by rw [← hes, rows_eq]; simp
      rw [hlen]
      have key : ∀ (i : Nat) (x : V), l[i]? = some x → es[i]? = some (V.row x) := fun i x hx => by rw [← hes]; exact rows_get hx
      refine .mk l b off cap p (fun i => f i 3) (by omega) hmax (fun hl => ⟨hp ?_, trivial⟩) (fun i x hx => ?_) (fun i x hx => ?_)
      · rintro rfl; exact hl (List.eq_nil_of_length_eq_zero (by simpa using hlen.symm))
      · have h1 := key i x hx
        obtain ⟨k, m, s, l'⟩ := x
        have q0 : (V.row (.mk k m s l'))[0]? = some (.v (.int .i64 k)) := by simp only [V.row_mk, List.getElem?_cons_zero]
        have q1 : (V.row (.mk k m s l'))[1]? = some (.v (.int .i64 m)) := by simp only [V.row_mk, List.getElem?_cons_succ, List.getElem?_cons_zero]
        have q2 : (V.row (.mk k m s l'))[2]? = some (.v (.string (str s))) := by simp only [V.row_mk, List.getElem?_cons_succ, List.getElem?_cons_zero]
        have q3 : (V.row (.mk k m s l'))[3]? = some (.sl 4 (V.rows l')) := by simp only [V.row_mk, List.getElem?_cons_succ, List.getElem?_cons_zero]
        have a0 := hc i 0 _ _ h1 q0
        have a1 := hc i 1 _ _ h1 q1
        have a2 := hc i 2 _ _ h1 q2
        have a3 := hc i 3 _ _ h1 q3
        have b0 := relV_val (hs i 0 _ _ h1 q0)
        have b1 := relV_val (hs i 1 _ _ h1 q1)
        have b2 := relV_val (hs i 2 _ _ h1 q2)
        exact ⟨by rw [show V.k (.mk k m s l') = k from rfl, ← b0]; exact a0.2.1, by rw [show V.n (.mk k m s l') = m from rfl, ← b1]; exact a1.2.1, by rw [show V.s (.mk k m s l') = s from rfl, ← b2]; exact a2.2.1, a3.2.1⟩
      · have h1 := key i x hx
        obtain ⟨k, m, s, l'⟩ := x
        have b3 := hs i 3 _ (.sl 4 (V.rows l')) h1 (by simp only [V.row_mk, List.getElem?_cons_succ, List.getElem?_cons_zero])
        refine ih l' ?_ b3
        have := List.sizeOf_lt_of_mem (List.mem_of_getElem? hx)
        simp at this
        omega
theorem relV_isL {w : World} {K : Nat → Nat → Prop} {l : List V} {v : Value} (h : RelV w K (.sl 4 (V.rows l)) v) : IsL (fun _ => True) w l v := isL_of _ l (Nat.le_refl _) h
theorem rel_I {w : World} {E : Env} {r : Sh.Rows} {x : Int} {v : Value} (h : RelT w E r (I x) v) : v = .int .i64 x := val_rel h rfl
theorem rel_S {w : World} {E : Env} {r : Sh.Rows} {x : ByteArray} {v : Value} (h : RelT w E r (S x) v) : v = .string x := val_rel h rfl
theorem rel_tv {w : World} {E : Env} {r : Sh.Rows} {x : V} {v : Value} (h : RelT w E r (tv x) v) : ∃ c, v = .agg #[.int .i64 x.k, .int .i64 x.n, .string (str x.s), c] ∧ IsL (fun _ => True) w x.l c := by
  unfold tv at h
  cases h with
  | agg cs vs hl hr ho =>
    match vs, hl with
    | [v0, v1, v2, v3], _ =>
      obtain rfl := rel_I (hr 0 _ v0 rfl rfl)
      obtain rfl := rel_I (hr 1 _ v1 rfl rfl)
      obtain rfl := rel_S (hr 2 _ v2 rfl rfl)
      have h3 := hr 3 _ v3 rfl rfl
      cases h3 with
      | pv h => exact ⟨v3, rfl, relV_isL h⟩
theorem rel_ty {w : World} {E : Env} {r : Sh.Rows} {x : Ty} {v : Value} (h : RelT w E r (tyT x) v) : v = .agg #[.int .i64 x.k, .int .i64 x.o] := by
  unfold tyT at h
  cases h with
  | agg cs vs hl hr ho =>
    match vs, hl with
    | [v0, v1], _ =>
      obtain rfl := rel_I (hr 0 _ v0 rfl rfl)
      obtain rfl := rel_I (hr 1 _ v1 rfl rfl)
      rfl
/-- A call that answers a plain value, and leaves what was there. -/
theorem scalls_by {P : Program} {g : Sh.Glob} {f : Nat} {xs : List TV} {y : TV} {v : Value} (hb : hasBody P f) (hy : ∀ w E r, RelT w E r y v)
    (h : ∀ (w : World) (E : Env) (us : List Value), g.G w → xs.length = us.length → (∀ (j : Nat) x v, xs[j]? = some x → us[j]? = some v → RelT w E (objR []) x v) → Calls P f us.toArray w fun e w' => e = .returned v ∧ Below w.heap.size w w') : SCalls P g f xs [] y [] := by
  refine ⟨hb, fun w E us hG hm hX hl hr => ?_⟩
  refine (h w E us hG hl hr).mono ?_
  rintro e w' ⟨rfl, hb⟩
  refine ⟨v, E, rfl, ?_, hy _ _ _, ⟨fun _ _ _ => rfl, fun _ _ _ _ => rfl, fun d e W n hd => by obtain ⟨j, _, hj⟩ := objR_inv hd; simp at hj⟩⟩
  exact MSim.ext (s := ⟨fun _ => none, objB [], objR [], fun _ => none⟩) hm hb E (fun _ _ h => h) (fun _ _ h => .inl h) (fun _ _ => ⟨rfl, rfl⟩) (fun _ _ _ => rfl) (fun _ _ => ⟨rfl, rfl⟩)
/-- All texts of a value, and of those in it, may be. -/
def VOk (x : V) : Prop := TextsOk x ∧ ∀ y ∈ x.l, TextsOk y
theorem fits_ok (a0 a1 : Addr) (n : Nat) (x : V) (t : Ty) (hx : VOk x) : SCalls Tryd.prog (gl a0 a1 n) 38 [tv x, tyT t] [] (.pv (.v (.bool (fitsV x t)))) [] := by
  refine scalls_by (body_of (by kernel_rfl)) (fun w E r => .pv (.v _)) (fun w E us hG hl hr => ?_)
  match us, hl with
  | [u0, u1], _ =>
    obtain ⟨c, rfl, hL⟩ := rel_tv (hr 0 _ u0 rfl rfl)
    obtain rfl := rel_ty (hr 1 _ u1 rfl rfl)
    exact Fits_any x c t a0 a1 w hx.1 hx.2 hL hG.g
theorem rightV_ok (a0 a1 : Addr) (n : Nat) (x : V) (hx : VOk x) : SCalls Tryd.prog (gl a0 a1 n) 57 [tv x] [] (.pv (.v (.bool (rightV x)))) [] := by
  refine scalls_by (body_of (by kernel_rfl)) (fun w E r => .pv (.v _)) (fun w E us hG hl hr => ?_)
  match us, hl with
  | [u0], _ =>
    obtain ⟨c, rfl, hL⟩ := rel_tv (hr 0 _ u0 rfl rfl)
    exact Right_any x c a0 a1 w hx.1 hx.2 hL hG.g
theorem rightType_ok (g : Sh.Glob) (t : Ty) : SCalls Tryd.prog g 55 [tyT t] [] (.pv (.v (.bool (rightType t)))) [] := by
  refine scalls_by (body_of (by kernel_rfl)) (fun w E r => .pv (.v _)) (fun w E us hG hl hr => ?_)
  match us, hl with
  | [u0], _ =>
    obtain rfl := rel_ty (hr 0 _ u0 rfl rfl)
    exact rightType_any t w
set_option maxRecDepth 100000 in
theorem zero_ok (g : Sh.Glob) (t : Ty) : SCalls Tryd.prog g 25 [tyT t] [] (nv (zeroV t)) [] := by
  refine call_of0 hmix tf_val_Zero rfl ?_
  have HR := rightType_ok g t
  unfold tyT at HR ⊢
  unfold zeroV
  cases hr : rightType t
  · rw [hr] at HR
    repeat (first | (with_reducible apply w_unr) | (with_reducible apply w_assoc) | (with_reducible apply w_skip) | (with_reducible apply w_ret) | (with_reducible apply w_retE) | (with_reducible apply w_skipE) | (with_reducible apply w_exit) | (with_reducible apply w_exitE) | (with_reducible apply w_block) | (with_reducible apply w_blockE) | ((with_reducible apply w_reg); · simp only [shA, eff, Int.reduceEq, Int.reduceAdd, Int.reduceSub, Nat.reduceBEq, Nat.reduceEqDiff, reduceCtorEq, Nat.reduceAdd, Nat.reduceSub, Nat.reduceMul, Nat.reduceLeDiff, Int.reduceToNat, Int.reduceLT, Int.reduceLE, Int.reduceNeg]; with_reducible rfl) | ((with_reducible apply w_regE); · simp only [shA, eff, Int.reduceEq, Int.reduceAdd, Int.reduceSub, Nat.reduceBEq, Nat.reduceEqDiff, reduceCtorEq, Nat.reduceAdd, Nat.reduceSub, Nat.reduceMul, Nat.reduceLeDiff, Int.reduceToNat, Int.reduceLT, Int.reduceLE, Int.reduceNeg]; with_reducible rfl) | ((with_reducible apply w_condT); · simp only [shA, eff, Int.reduceEq, Int.reduceAdd, Int.reduceSub, Nat.reduceBEq, Nat.reduceEqDiff, reduceCtorEq, Nat.reduceAdd, Nat.reduceSub, Nat.reduceMul, Nat.reduceLeDiff, Int.reduceToNat, Int.reduceLT, Int.reduceLE, Int.reduceNeg]) | ((with_reducible apply w_condF); · simp only [shA, eff, Int.reduceEq, Int.reduceAdd, Int.reduceSub, Nat.reduceBEq, Nat.reduceEqDiff, reduceCtorEq, Nat.reduceAdd, Nat.reduceSub, Nat.reduceMul, Nat.reduceLeDiff, Int.reduceToNat, Int.reduceLT, Int.reduceLE, Int.reduceNeg]) | ((with_reducible apply w_condTE); · simp only [shA, eff, Int.reduceEq, Int.reduceAdd, Int.reduceSub, Nat.reduceBEq, Nat.reduceEqDiff, reduceCtorEq, Nat.reduceAdd, Nat.reduceSub, Nat.reduceMul, Nat.reduceLeDiff, Int.reduceToNat, Int.reduceLT, Int.reduceLE, Int.reduceNeg]) | ((with_reducible apply w_condFE); · simp only [shA, eff, Int.reduceEq, Int.reduceAdd, Int.reduceSub, Nat.reduceBEq, Nat.reduceEqDiff, reduceCtorEq, Nat.reduceAdd, Nat.reduceSub, Nat.reduceMul, Nat.reduceLeDiff, Int.reduceToNat, Int.reduceLT, Int.reduceLE, Int.reduceNeg]) | (with_reducible apply q_then) | (with_reducible apply q_blockN) | (with_reducible apply q_blockR) | (with_reducible apply q_thenR) | (with_reducible apply q_thenX) | (with_reducible apply q_blockX) | ((with_reducible apply q_blockY); · rfl))
    (first | (with_reducible apply w_ops) | (with_reducible apply w_opsE))
    repeat ((with_reducible apply w_op); (· rfl); (· simp only [shA, eff, Int.reduceEq, Int.reduceAdd, Int.reduceSub, Nat.reduceBEq, Nat.reduceEqDiff, reduceCtorEq, Nat.reduceAdd, Nat.reduceSub, Nat.reduceMul, Nat.reduceLeDiff, Int.reduceToNat, Int.reduceLT, Int.reduceLE, Int.reduceNeg]; with_reducible rfl); (· simp only [shA, eff, Int.reduceEq, Int.reduceAdd, Int.reduceSub, Nat.reduceBEq, Nat.reduceEqDiff, reduceCtorEq, Nat.reduceAdd, Nat.reduceSub, Nat.reduceMul, Nat.reduceLeDiff, Int.reduceToNat, Int.reduceLT, Int.reduceLE, Int.reduceNeg]; with_reducible rfl))
    (with_reducible apply w_call); (· simp only [shA, eff, Int.reduceEq, Int.reduceAdd, Int.reduceSub, Nat.reduceBEq, Nat.reduceEqDiff, reduceCtorEq, Nat.reduceAdd, Nat.reduceSub, Nat.reduceMul, Nat.reduceLeDiff, Int.reduceToNat, Int.reduceLT, Int.reduceLE, Int.reduceNeg]; with_reducible rfl); (· simp only [shA, eff, Int.reduceEq, Int.reduceAdd, Int.reduceSub, Nat.reduceBEq, Nat.reduceEqDiff, reduceCtorEq, Nat.reduceAdd, Nat.reduceSub, Nat.reduceMul, Nat.reduceLeDiff, Int.reduceToNat, Int.reduceLT, Int.reduceLE, Int.reduceNeg]; with_reducible rfl); (· simp only [shA, eff, Int.reduceEq, Int.reduceAdd, Int.reduceSub, Nat.reduceBEq, Nat.reduceEqDiff, reduceCtorEq, Nat.reduceAdd, Nat.reduceSub, Nat.reduceMul, Nat.reduceLeDiff, Int.reduceToNat, Int.reduceLT, Int.reduceLE, Int.reduceNeg]; with_reducible rfl); (· simp only [shA, eff, Int.reduceEq, Int.reduceAdd, Int.reduceSub, Nat.reduceBEq, Nat.reduceEqDiff, reduceCtorEq, Nat.reduceAdd, Nat.reduceSub, Nat.reduceMul, Nat.reduceLeDiff, Int.reduceToNat, Int.reduceLT, Int.reduceLE, Int.reduceNeg]; with_reducible rfl); (· exact HR); (· rfl); (· simp only [shA, eff, Int.reduceEq, Int.reduceAdd, Int.reduceSub, Nat.reduceBEq, Nat.reduceEqDiff, reduceCtorEq, Nat.reduceAdd, Nat.reduceSub, Nat.reduceMul, Nat.reduceLeDiff, Int.reduceToNat, Int.reduceLT, Int.reduceLE, Int.reduceNeg]; with_reducible rfl); (· simp only [shA, eff, Int.reduceEq, Int.reduceAdd, Int.reduceSub, Nat.reduceBEq, Nat.reduceEqDiff, reduceCtorEq, Nat.reduceAdd, Nat.reduceSub, Nat.reduceMul, Nat.reduceLeDiff, Int.reduceToNat, Int.reduceLT, Int.reduceLE, Int.reduceNeg]; with_reducible rfl); (· simp only [shA, eff, Int.reduceEq, Int.reduceAdd, Int.reduceSub, Nat.reduceBEq, Nat.reduceEqDiff, reduceCtorEq, Nat.reduceAdd, Nat.reduceSub, Nat.reduceMul, Nat.reduceLeDiff, Int.reduceToNat, Int.reduceLT, Int.reduceLE, Int.reduceNeg]; with_reducible rfl)
    repeat ((with_reducible apply w_op); (· rfl); (· simp only [shA, eff, Int.reduceEq, Int.reduceAdd, Int.reduceSub, Nat.reduceBEq, Nat.reduceEqDiff, reduceCtorEq, Nat.reduceAdd, Nat.reduceSub, Nat.reduceMul, Nat.reduceLeDiff, Int.reduceToNat, Int.reduceLT, Int.reduceLE, Int.reduceNeg, undef]; with_reducible rfl); (· simp only [shA, eff, Int.reduceEq, Int.reduceAdd, Int.reduceSub, Nat.reduceBEq, Nat.reduceEqDiff, reduceCtorEq, Nat.reduceAdd, Nat.reduceSub, Nat.reduceMul, Nat.reduceLeDiff, Int.reduceToNat, Int.reduceLT, Int.reduceLE, Int.reduceNeg, undef]; with_reducible rfl))
    apply w_done
    repeat (first | (with_reducible apply w_unr) | (with_reducible apply w_assoc) | (with_reducible apply w_skip) | (with_reducible apply w_ret) | (with_reducible apply w_retE) | (with_reducible apply w_skipE) | (with_reducible apply w_exit) | (with_reducible apply w_exitE) | (with_reducible apply w_block) | (with_reducible apply w_blockE) | ((with_reducible apply w_reg); · simp only [shA, eff, Int.reduceEq, Int.reduceAdd, Int.reduceSub, Nat.reduceBEq, Nat.reduceEqDiff, reduceCtorEq, Nat.reduceAdd, Nat.reduceSub, Nat.reduceMul, Nat.reduceLeDiff, Int.reduceToNat, Int.reduceLT, Int.reduceLE, Int.reduceNeg]; with_reducible rfl) | ((with_reducible apply w_regE); · simp only [shA, eff, Int.reduceEq, Int.reduceAdd, Int.reduceSub, Nat.reduceBEq, Nat.reduceEqDiff, reduceCtorEq, Nat.reduceAdd, Nat.reduceSub, Nat.reduceMul, Nat.reduceLeDiff, Int.reduceToNat, Int.reduceLT, Int.reduceLE, Int.reduceNeg]; with_reducible rfl) | ((with_reducible apply w_condT); · simp only [shA, eff, Int.reduceEq, Int.reduceAdd, Int.reduceSub, Nat.reduceBEq, Nat.reduceEqDiff, reduceCtorEq, Nat.reduceAdd, Nat.reduceSub, Nat.reduceMul, Nat.reduceLeDiff, Int.reduceToNat, Int.reduceLT, Int.reduceLE, Int.reduceNeg]) | ((with_reducible apply w_condF); · simp only [shA, eff, Int.reduceEq, Int.reduceAdd, Int.reduceSub, Nat.reduceBEq, Nat.reduceEqDiff, reduceCtorEq, Nat.reduceAdd, Nat.reduceSub, Nat.reduceMul, Nat.reduceLeDiff, Int.reduceToNat, Int.reduceLT, Int.reduceLE, Int.reduceNeg]) | ((with_reducible apply w_condTE); · simp only [shA, eff, Int.reduceEq, Int.reduceAdd, Int.reduceSub, Nat.reduceBEq, Nat.reduceEqDiff, reduceCtorEq, Nat.reduceAdd, Nat.reduceSub, Nat.reduceMul, Nat.reduceLeDiff, Int.reduceToNat, Int.reduceLT, Int.reduceLE, Int.reduceNeg]) | ((with_reducible apply w_condFE); · simp only [shA, eff, Int.reduceEq, Int.reduceAdd, Int.reduceSub, Nat.reduceBEq, Nat.reduceEqDiff, reduceCtorEq, Nat.reduceAdd, Nat.reduceSub, Nat.reduceMul, Nat.reduceLeDiff, Int.reduceToNat, Int.reduceLT, Int.reduceLE, Int.reduceNeg]) | (with_reducible apply q_then) | (with_reducible apply q_blockN) | (with_reducible apply q_blockR) | (with_reducible apply q_thenR) | (with_reducible apply q_thenX) | (with_reducible apply q_blockX) | ((with_reducible apply q_blockY); · rfl))
    simp [Post0, ansW, resT, SRes.get, ES.fs, ES.kill, has, drp, seqO, nbeq, lk, I, S, TV.ids3, TV.ids2, TV.ids1, TV.ids0, TV.ren3, TV.ren2, TV.ren1, TV.ren0, F_val_Zero, nv, V.nil, V.k, V.n, V.s, str0]
  · rw [hr] at HR
    by_cases k3 : t.k = 3
    · have d3 := decide_T k3
      repeat (first | (with_reducible apply w_unr) | (with_reducible apply w_assoc) | (with_reducible apply w_skip) | (with_reducible apply w_ret) | (with_reducible apply w_retE) | (with_reducible apply w_skipE) | (with_reducible apply w_exit) | (with_reducible apply w_exitE) | (with_reducible apply w_block) | (with_reducible apply w_blockE) | ((with_reducible apply w_reg); · simp only [shA, eff, Int.reduceEq, Int.reduceAdd, Int.reduceSub, Nat.reduceBEq, Nat.reduceEqDiff, reduceCtorEq, Nat.reduceAdd, Nat.reduceSub, Nat.reduceMul, Nat.reduceLeDiff, Int.reduceToNat, Int.reduceLT, Int.reduceLE, Int.reduceNeg]; with_reducible rfl) | ((with_reducible apply w_regE); · simp only [shA, eff, Int.reduceEq, Int.reduceAdd, Int.reduceSub, Nat.reduceBEq, Nat.reduceEqDiff, reduceCtorEq, Nat.reduceAdd, Nat.reduceSub, Nat.reduceMul, Nat.reduceLeDiff, Int.reduceToNat, Int.reduceLT, Int.reduceLE, Int.reduceNeg]; with_reducible rfl) | ((with_reducible apply w_condT); · simp only [shA, eff, Int.reduceEq, Int.reduceAdd, Int.reduceSub, Nat.reduceBEq, Nat.reduceEqDiff, reduceCtorEq, Nat.reduceAdd, Nat.reduceSub, Nat.reduceMul, Nat.reduceLeDiff, Int.reduceToNat, Int.reduceLT, Int.reduceLE, Int.reduceNeg]) | ((with_reducible apply w_condF); · simp only [shA, eff, Int.reduceEq, Int.reduceAdd, Int.reduceSub, Nat.reduceBEq, Nat.reduceEqDiff, reduceCtorEq, Nat.reduceAdd, Nat.reduceSub, Nat.reduceMul, Nat.reduceLeDiff, Int.reduceToNat, Int.reduceLT, Int.reduceLE, Int.reduceNeg]) | ((with_reducible apply w_condTE); · simp only [shA, eff, Int.reduceEq, Int.reduceAdd, Int.reduceSub, Nat.reduceBEq, Nat.reduceEqDiff, reduceCtorEq, Nat.reduceAdd, Nat.reduceSub, Nat.reduceMul, Nat.reduceLeDiff, Int.reduceToNat, Int.reduceLT, Int.reduceLE, Int.reduceNeg]) | ((with_reducible apply w_condFE); · simp only [shA, eff, Int.reduceEq, Int.reduceAdd, Int.reduceSub, Nat.reduceBEq, Nat.reduceEqDiff, reduceCtorEq, Nat.reduceAdd, Nat.reduceSub, Nat.reduceMul, Nat.reduceLeDiff, Int.reduceToNat, Int.reduceLT, Int.reduceLE, Int.reduceNeg]) | (with_reducible apply q_then) | (with_reducible apply q_blockN) | (with_reducible apply q_blockR) | (with_reducible apply q_thenR) | (with_reducible apply q_thenX) | (with_reducible apply q_blockX) | ((with_reducible apply q_blockY); · rfl))
      (first | (with_reducible apply w_ops) | (with_reducible apply w_opsE))
      repeat ((with_reducible apply w_op); (· rfl); (· simp only [shA, eff, Int.reduceEq, Int.reduceAdd, Int.reduceSub, Nat.reduceBEq, Nat.reduceEqDiff, reduceCtorEq, Nat.reduceAdd, Nat.reduceSub, Nat.reduceMul, Nat.reduceLeDiff, Int.reduceToNat, Int.reduceLT, Int.reduceLE, Int.reduceNeg]; with_reducible rfl); (· simp only [shA, eff, Int.reduceEq, Int.reduceAdd, Int.reduceSub, Nat.reduceBEq, Nat.reduceEqDiff, reduceCtorEq, Nat.reduceAdd, Nat.reduceSub, Nat.reduceMul, Nat.reduceLeDiff, Int.reduceToNat, Int.reduceLT, Int.reduceLE, Int.reduceNeg]; with_reducible rfl))
      (with_reducible apply w_call); (· simp only [shA, eff, Int.reduceEq, Int.reduceAdd, Int.reduceSub, Nat.reduceBEq, Nat.reduceEqDiff, reduceCtorEq, Nat.reduceAdd, Nat.reduceSub, Nat.reduceMul, Nat.reduceLeDiff, Int.reduceToNat, Int.reduceLT, Int.reduceLE, Int.reduceNeg]; with_reducible rfl); (· simp only [shA, eff, Int.reduceEq, Int.reduceAdd, Int.reduceSub, Nat.reduceBEq, Nat.reduceEqDiff, reduceCtorEq, Nat.reduceAdd, Nat.reduceSub, Nat.reduceMul, Nat.reduceLeDiff, Int.reduceToNat, Int.reduceLT, Int.reduceLE, Int.reduceNeg]; with_reducible rfl); (· simp only [shA, eff, Int.reduceEq, Int.reduceAdd, Int.reduceSub, Nat.reduceBEq, Nat.reduceEqDiff, reduceCtorEq, Nat.reduceAdd, Nat.reduceSub, Nat.reduceMul, Nat.reduceLeDiff, Int.reduceToNat, Int.reduceLT, Int.reduceLE, Int.reduceNeg]; with_reducible rfl); (· simp only [shA, eff, Int.reduceEq, Int.reduceAdd, Int.reduceSub, Nat.reduceBEq, Nat.reduceEqDiff, reduceCtorEq, Nat.reduceAdd, Nat.reduceSub, Nat.reduceMul, Nat.reduceLeDiff, Int.reduceToNat, Int.reduceLT, Int.reduceLE, Int.reduceNeg]; with_reducible rfl); (· exact HR); (· rfl); (· simp only [shA, eff, Int.reduceEq, Int.reduceAdd, Int.reduceSub, Nat.reduceBEq, Nat.reduceEqDiff, reduceCtorEq, Nat.reduceAdd, Nat.reduceSub, Nat.reduceMul, Nat.reduceLeDiff, Int.reduceToNat, Int.reduceLT, Int.reduceLE, Int.reduceNeg]; with_reducible rfl); (· simp only [shA, eff, Int.reduceEq, Int.reduceAdd, Int.reduceSub, Nat.reduceBEq, Nat.reduceEqDiff, reduceCtorEq, Nat.reduceAdd, Nat.reduceSub, Nat.reduceMul, Nat.reduceLeDiff, Int.reduceToNat, Int.reduceLT, Int.reduceLE, Int.reduceNeg]; with_reducible rfl); (· simp only [shA, eff, Int.reduceEq, Int.reduceAdd, Int.reduceSub, Nat.reduceBEq, Nat.reduceEqDiff, reduceCtorEq, Nat.reduceAdd, Nat.reduceSub, Nat.reduceMul, Nat.reduceLeDiff, Int.reduceToNat, Int.reduceLT, Int.reduceLE, Int.reduceNeg]; with_reducible rfl)
      repeat ((with_reducible apply w_op); (· rfl); (· simp only [shA, eff, Int.reduceEq, Int.reduceAdd, Int.reduceSub, Nat.reduceBEq, Nat.reduceEqDiff, reduceCtorEq, Nat.reduceAdd, Nat.reduceSub, Nat.reduceMul, Nat.reduceLeDiff, Int.reduceToNat, Int.reduceLT, Int.reduceLE, Int.reduceNeg, d3, undef]; with_reducible rfl); (· simp only [shA, eff, Int.reduceEq, Int.reduceAdd, Int.reduceSub, Nat.reduceBEq, Nat.reduceEqDiff, reduceCtorEq, Nat.reduceAdd, Nat.reduceSub, Nat.reduceMul, Nat.reduceLeDiff, Int.reduceToNat, Int.reduceLT, Int.reduceLE, Int.reduceNeg, d3, undef]; with_reducible rfl))
      apply w_done
      repeat (first | (with_reducible apply w_unr) | (with_reducible apply w_assoc) | (with_reducible apply w_skip) | (with_reducible apply w_ret) | (with_reducible apply w_retE) | (with_reducible apply w_skipE) | (with_reducible apply w_exit) | (with_reducible apply w_exitE) | (with_reducible apply w_block) | (with_reducible apply w_blockE) | ((with_reducible apply w_reg); · simp only [shA, eff, Int.reduceEq, Int.reduceAdd, Int.reduceSub, Nat.reduceBEq, Nat.reduceEqDiff, reduceCtorEq, Nat.reduceAdd, Nat.reduceSub, Nat.reduceMul, Nat.reduceLeDiff, Int.reduceToNat, Int.reduceLT, Int.reduceLE, Int.reduceNeg]; with_reducible rfl) | ((with_reducible apply w_regE); · simp only [shA, eff, Int.reduceEq, Int.reduceAdd, Int.reduceSub, Nat.reduceBEq, Nat.reduceEqDiff, reduceCtorEq, Nat.reduceAdd, Nat.reduceSub, Nat.reduceMul, Nat.reduceLeDiff, Int.reduceToNat, Int.reduceLT, Int.reduceLE, Int.reduceNeg]; with_reducible rfl) | ((with_reducible apply w_condT); · simp only [shA, eff, Int.reduceEq, Int.reduceAdd, Int.reduceSub, Nat.reduceBEq, Nat.reduceEqDiff, reduceCtorEq, Nat.reduceAdd, Nat.reduceSub, Nat.reduceMul, Nat.reduceLeDiff, Int.reduceToNat, Int.reduceLT, Int.reduceLE, Int.reduceNeg]) | ((with_reducible apply w_condF); · simp only [shA, eff, Int.reduceEq, Int.reduceAdd, Int.reduceSub, Nat.reduceBEq, Nat.reduceEqDiff, reduceCtorEq, Nat.reduceAdd, Nat.reduceSub, Nat.reduceMul, Nat.reduceLeDiff, Int.reduceToNat, Int.reduceLT, Int.reduceLE, Int.reduceNeg]) | ((with_reducible apply w_condTE); · simp only [shA, eff, Int.reduceEq, Int.reduceAdd, Int.reduceSub, Nat.reduceBEq, Nat.reduceEqDiff, reduceCtorEq, Nat.reduceAdd, Nat.reduceSub, Nat.reduceMul, Nat.reduceLeDiff, Int.reduceToNat, Int.reduceLT, Int.reduceLE, Int.reduceNeg]) | ((with_reducible apply w_condFE); · simp only [shA, eff, Int.reduceEq, Int.reduceAdd, Int.reduceSub, Nat.reduceBEq, Nat.reduceEqDiff, reduceCtorEq, Nat.reduceAdd, Nat.reduceSub, Nat.reduceMul, Nat.reduceLeDiff, Int.reduceToNat, Int.reduceLT, Int.reduceLE, Int.reduceNeg]) | (with_reducible apply q_then) | (with_reducible apply q_blockN) | (with_reducible apply q_blockR) | (with_reducible apply q_thenR) | (with_reducible apply q_thenX) | (with_reducible apply q_blockX) | ((with_reducible apply q_blockY); · rfl))
      simp [Post0, ansW, resT, SRes.get, ES.fs, ES.kill, has, drp, seqO, nbeq, lk, I, S, TV.ids3, TV.ids2, TV.ids1, TV.ids0, TV.ren3, TV.ren2, TV.ren1, TV.ren0, F_val_Zero, k3, nv, V.nil, V.k, V.n, V.s, str0]
    · have d3 := decide_F k3
      by_cases k4 : t.k = 4
      · have d4 := decide_T k4
        repeat (first | (with_reducible apply w_unr) | (with_reducible apply w_assoc) | (with_reducible apply w_skip) | (with_reducible apply w_ret) | (with_reducible apply w_retE) | (with_reducible apply w_skipE) | (with_reducible apply w_exit) | (with_reducible apply w_exitE) | (with_reducible apply w_block) | (with_reducible apply w_blockE) | ((with_reducible apply w_reg); · simp only [shA, eff, Int.reduceEq, Int.reduceAdd, Int.reduceSub, Nat.reduceBEq, Nat.reduceEqDiff, reduceCtorEq, Nat.reduceAdd, Nat.reduceSub, Nat.reduceMul, Nat.reduceLeDiff, Int.reduceToNat, Int.reduceLT, Int.reduceLE, Int.reduceNeg]; with_reducible rfl) | ((with_reducible apply w_regE); · simp only [shA, eff, Int.reduceEq, Int.reduceAdd, Int.reduceSub, Nat.reduceBEq, Nat.reduceEqDiff, reduceCtorEq, Nat.reduceAdd, Nat.reduceSub, Nat.reduceMul, Nat.reduceLeDiff, Int.reduceToNat, Int.reduceLT, Int.reduceLE, Int.reduceNeg]; with_reducible rfl) | ((with_reducible apply w_condT); · simp only [shA, eff, Int.reduceEq, Int.reduceAdd, Int.reduceSub, Nat.reduceBEq, Nat.reduceEqDiff, reduceCtorEq, Nat.reduceAdd, Nat.reduceSub, Nat.reduceMul, Nat.reduceLeDiff, Int.reduceToNat, Int.reduceLT, Int.reduceLE, Int.reduceNeg]) | ((with_reducible apply w_condF); · simp only [shA, eff, Int.reduceEq, Int.reduceAdd, Int.reduceSub, Nat.reduceBEq, Nat.reduceEqDiff, reduceCtorEq, Nat.reduceAdd, Nat.reduceSub, Nat.reduceMul, Nat.reduceLeDiff, Int.reduceToNat, Int.reduceLT, Int.reduceLE, Int.reduceNeg]) | ((with_reducible apply w_condTE); · simp only [shA, eff, Int.reduceEq, Int.reduceAdd, Int.reduceSub, Nat.reduceBEq, Nat.reduceEqDiff, reduceCtorEq, Nat.reduceAdd, Nat.reduceSub, Nat.reduceMul, Nat.reduceLeDiff, Int.reduceToNat, Int.reduceLT, Int.reduceLE, Int.reduceNeg]) | ((with_reducible apply w_condFE); · simp only [shA, eff, Int.reduceEq, Int.reduceAdd, Int.reduceSub, Nat.reduceBEq, Nat.reduceEqDiff, reduceCtorEq, Nat.reduceAdd, Nat.reduceSub, Nat.reduceMul, Nat.reduceLeDiff, Int.reduceToNat, Int.reduceLT, Int.reduceLE, Int.reduceNeg]) | (with_reducible apply q_then) | (with_reducible apply q_blockN) | (with_reducible apply q_blockR) | (with_reducible apply q_thenR) | (with_reducible apply q_thenX) | (with_reducible apply q_blockX) | ((with_reducible apply q_blockY); · rfl))
        (first | (with_reducible apply w_ops) | (with_reducible apply w_opsE))
        repeat ((with_reducible apply w_op); (· rfl); (· simp only [shA, eff, Int.reduceEq, Int.reduceAdd, Int.reduceSub, Nat.reduceBEq, Nat.reduceEqDiff, reduceCtorEq, Nat.reduceAdd, Nat.reduceSub, Nat.reduceMul, Nat.reduceLeDiff, Int.reduceToNat, Int.reduceLT, Int.reduceLE, Int.reduceNeg]; with_reducible rfl); (· simp only [shA, eff, Int.reduceEq, Int.reduceAdd, Int.reduceSub, Nat.reduceBEq, Nat.reduceEqDiff, reduceCtorEq, Nat.reduceAdd, Nat.reduceSub, Nat.reduceMul, Nat.reduceLeDiff, Int.reduceToNat, Int.reduceLT, Int.reduceLE, Int.reduceNeg]; with_reducible rfl))
        (with_reducible apply w_call); (· simp only [shA, eff, Int.reduceEq, Int.reduceAdd, Int.reduceSub, Nat.reduceBEq, Nat.reduceEqDiff, reduceCtorEq, Nat.reduceAdd, Nat.reduceSub, Nat.reduceMul, Nat.reduceLeDiff, Int.reduceToNat, Int.reduceLT, Int.reduceLE, Int.reduceNeg]; with_reducible rfl); (· simp only [shA, eff, Int.reduceEq, Int.reduceAdd, Int.reduceSub, Nat.reduceBEq, Nat.reduceEqDiff, reduceCtorEq, Nat.reduceAdd, Nat.reduceSub, Nat.reduceMul, Nat.reduceLeDiff, Int.reduceToNat, Int.reduceLT, Int.reduceLE, Int.reduceNeg]; with_reducible rfl); (· simp only [shA, eff, Int.reduceEq, Int.reduceAdd, Int.reduceSub, Nat.reduceBEq, Nat.reduceEqDiff, reduceCtorEq, Nat.reduceAdd, Nat.reduceSub, Nat.reduceMul, Nat.reduceLeDiff, Int.reduceToNat, Int.reduceLT, Int.reduceLE, Int.reduceNeg]; with_reducible rfl); (· simp only [shA, eff, Int.reduceEq, Int.reduceAdd, Int.reduceSub, Nat.reduceBEq, Nat.reduceEqDiff, reduceCtorEq, Nat.reduceAdd, Nat.reduceSub, Nat.reduceMul, Nat.reduceLeDiff, Int.reduceToNat, Int.reduceLT, Int.reduceLE, Int.reduceNeg]; with_reducible rfl); (· exact HR); (· rfl); (· simp only [shA, eff, Int.reduceEq, Int.reduceAdd, Int.reduceSub, Nat.reduceBEq, Nat.reduceEqDiff, reduceCtorEq, Nat.reduceAdd, Nat.reduceSub, Nat.reduceMul, Nat.reduceLeDiff, Int.reduceToNat, Int.reduceLT, Int.reduceLE, Int.reduceNeg]; with_reducible rfl); (· simp only [shA, eff, Int.reduceEq, Int.reduceAdd, Int.reduceSub, Nat.reduceBEq, Nat.reduceEqDiff, reduceCtorEq, Nat.reduceAdd, Nat.reduceSub, Nat.reduceMul, Nat.reduceLeDiff, Int.reduceToNat, Int.reduceLT, Int.reduceLE, Int.reduceNeg]; with_reducible rfl); (· simp only [shA, eff, Int.reduceEq, Int.reduceAdd, Int.reduceSub, Nat.reduceBEq, Nat.reduceEqDiff, reduceCtorEq, Nat.reduceAdd, Nat.reduceSub, Nat.reduceMul, Nat.reduceLeDiff, Int.reduceToNat, Int.reduceLT, Int.reduceLE, Int.reduceNeg]; with_reducible rfl)
        repeat ((with_reducible apply w_op); (· rfl); (· simp only [shA, eff, Int.reduceEq, Int.reduceAdd, Int.reduceSub, Nat.reduceBEq, Nat.reduceEqDiff, reduceCtorEq, Nat.reduceAdd, Nat.reduceSub, Nat.reduceMul, Nat.reduceLeDiff, Int.reduceToNat, Int.reduceLT, Int.reduceLE, Int.reduceNeg, d3, d4, undef]; with_reducible rfl); (· simp only [shA, eff, Int.reduceEq, Int.reduceAdd, Int.reduceSub, Nat.reduceBEq, Nat.reduceEqDiff, reduceCtorEq, Nat.reduceAdd, Nat.reduceSub, Nat.reduceMul, Nat.reduceLeDiff, Int.reduceToNat, Int.reduceLT, Int.reduceLE, Int.reduceNeg, d3, d4, undef]; with_reducible rfl))
        apply w_done
        repeat (first | (with_reducible apply w_unr) | (with_reducible apply w_assoc) | (with_reducible apply w_skip) | (with_reducible apply w_ret) | (with_reducible apply w_retE) | (with_reducible apply w_skipE) | (with_reducible apply w_exit) | (with_reducible apply w_exitE) | (with_reducible apply w_block) | (with_reducible apply w_blockE) | ((with_reducible apply w_reg); · simp only [shA, eff, Int.reduceEq, Int.reduceAdd, Int.reduceSub, Nat.reduceBEq, Nat.reduceEqDiff, reduceCtorEq, Nat.reduceAdd, Nat.reduceSub, Nat.reduceMul, Nat.reduceLeDiff, Int.reduceToNat, Int.reduceLT, Int.reduceLE, Int.reduceNeg]; with_reducible rfl) | ((with_reducible apply w_regE); · simp only [shA, eff, Int.reduceEq, Int.reduceAdd, Int.reduceSub, Nat.reduceBEq, Nat.reduceEqDiff, reduceCtorEq, Nat.reduceAdd, Nat.reduceSub, Nat.reduceMul, Nat.reduceLeDiff, Int.reduceToNat, Int.reduceLT, Int.reduceLE, Int.reduceNeg]; with_reducible rfl) | ((with_reducible apply w_condT); · simp only [shA, eff, Int.reduceEq, Int.reduceAdd, Int.reduceSub, Nat.reduceBEq, Nat.reduceEqDiff, reduceCtorEq, Nat.reduceAdd, Nat.reduceSub, Nat.reduceMul, Nat.reduceLeDiff, Int.reduceToNat, Int.reduceLT, Int.reduceLE, Int.reduceNeg]) | ((with_reducible apply w_condF); · simp only [shA, eff, Int.reduceEq, Int.reduceAdd, Int.reduceSub, Nat.reduceBEq, Nat.reduceEqDiff, reduceCtorEq, Nat.reduceAdd, Nat.reduceSub, Nat.reduceMul, Nat.reduceLeDiff, Int.reduceToNat, Int.reduceLT, Int.reduceLE, Int.reduceNeg]) | ((with_reducible apply w_condTE); · simp only [shA, eff, Int.reduceEq, Int.reduceAdd, Int.reduceSub, Nat.reduceBEq, Nat.reduceEqDiff, reduceCtorEq, Nat.reduceAdd, Nat.reduceSub, Nat.reduceMul, Nat.reduceLeDiff, Int.reduceToNat, Int.reduceLT, Int.reduceLE, Int.reduceNeg]) | ((with_reducible apply w_condFE); · simp only [shA, eff, Int.reduceEq, Int.reduceAdd, Int.reduceSub, Nat.reduceBEq, Nat.reduceEqDiff, reduceCtorEq, Nat.reduceAdd, Nat.reduceSub, Nat.reduceMul, Nat.reduceLeDiff, Int.reduceToNat, Int.reduceLT, Int.reduceLE, Int.reduceNeg]) | (with_reducible apply q_then) | (with_reducible apply q_blockN) | (with_reducible apply q_blockR) | (with_reducible apply q_thenR) | (with_reducible apply q_thenX) | (with_reducible apply q_blockX) | ((with_reducible apply q_blockY); · rfl))
        simp [Post0, ansW, resT, SRes.get, ES.fs, ES.kill, has, drp, seqO, nbeq, lk, I, S, TV.ids3, TV.ids2, TV.ids1, TV.ids0, TV.ren3, TV.ren2, TV.ren1, TV.ren0, F_val_Zero, k3, k4, nv, V.nil, V.k, V.n, V.s, str0]
      · have d4 := decide_F k4
        repeat (first | (with_reducible apply w_unr) | (with_reducible apply w_assoc) | (with_reducible apply w_skip) | (with_reducible apply w_ret) | (with_reducible apply w_retE) | (with_reducible apply w_skipE) | (with_reducible apply w_exit) | (with_reducible apply w_exitE) | (with_reducible apply w_block) | (with_reducible apply w_blockE) | ((with_reducible apply w_reg); · simp only [shA, eff, Int.reduceEq, Int.reduceAdd, Int.reduceSub, Nat.reduceBEq, Nat.reduceEqDiff, reduceCtorEq, Nat.reduceAdd, Nat.reduceSub, Nat.reduceMul, Nat.reduceLeDiff, Int.reduceToNat, Int.reduceLT, Int.reduceLE, Int.reduceNeg]; with_reducible rfl) | ((with_reducible apply w_regE); · simp only [shA, eff, Int.reduceEq, Int.reduceAdd, Int.reduceSub, Nat.reduceBEq, Nat.reduceEqDiff, reduceCtorEq, Nat.reduceAdd, Nat.reduceSub, Nat.reduceMul, Nat.reduceLeDiff, Int.reduceToNat, Int.reduceLT, Int.reduceLE, Int.reduceNeg]; with_reducible rfl) | ((with_reducible apply w_condT); · simp only [shA, eff, Int.reduceEq, Int.reduceAdd, Int.reduceSub, Nat.reduceBEq, Nat.reduceEqDiff, reduceCtorEq, Nat.reduceAdd, Nat.reduceSub, Nat.reduceMul, Nat.reduceLeDiff, Int.reduceToNat, Int.reduceLT, Int.reduceLE, Int.reduceNeg]) | ((with_reducible apply w_condF); · simp only [shA, eff, Int.reduceEq, Int.reduceAdd, Int.reduceSub, Nat.reduceBEq, Nat.reduceEqDiff, reduceCtorEq, Nat.reduceAdd, Nat.reduceSub, Nat.reduceMul, Nat.reduceLeDiff, Int.reduceToNat, Int.reduceLT, Int.reduceLE, Int.reduceNeg]) | ((with_reducible apply w_condTE); · simp only [shA, eff, Int.reduceEq, Int.reduceAdd, Int.reduceSub, Nat.reduceBEq, Nat.reduceEqDiff, reduceCtorEq, Nat.reduceAdd, Nat.reduceSub, Nat.reduceMul, Nat.reduceLeDiff, Int.reduceToNat, Int.reduceLT, Int.reduceLE, Int.reduceNeg]) | ((with_reducible apply w_condFE); · simp only [shA, eff, Int.reduceEq, Int.reduceAdd, Int.reduceSub, Nat.reduceBEq, Nat.reduceEqDiff, reduceCtorEq, Nat.reduceAdd, Nat.reduceSub, Nat.reduceMul, Nat.reduceLeDiff, Int.reduceToNat, Int.reduceLT, Int.reduceLE, Int.reduceNeg]) | (with_reducible apply q_then) | (with_reducible apply q_blockN) | (with_reducible apply q_blockR) | (with_reducible apply q_thenR) | (with_reducible apply q_thenX) | (with_reducible apply q_blockX) | ((with_reducible apply q_blockY); · rfl))
        (first | (with_reducible apply w_ops) | (with_reducible apply w_opsE))
        repeat ((with_reducible apply w_op); (· rfl); (· simp only [shA, eff, Int.reduceEq, Int.reduceAdd, Int.reduceSub, Nat.reduceBEq, Nat.reduceEqDiff, reduceCtorEq, Nat.reduceAdd, Nat.reduceSub, Nat.reduceMul, Nat.reduceLeDiff, Int.reduceToNat, Int.reduceLT, Int.reduceLE, Int.reduceNeg]; with_reducible rfl); (· simp only [shA, eff, Int.reduceEq, Int.reduceAdd, Int.reduceSub, Nat.reduceBEq, Nat.reduceEqDiff, reduceCtorEq, Nat.reduceAdd, Nat.reduceSub, Nat.reduceMul, Nat.reduceLeDiff, Int.reduceToNat, Int.reduceLT, Int.reduceLE, Int.reduceNeg]; with_reducible rfl))
        (with_reducible apply w_call); (· simp only [shA, eff, Int.reduceEq, Int.reduceAdd, Int.reduceSub, Nat.reduceBEq, Nat.reduceEqDiff, reduceCtorEq, Nat.reduceAdd, Nat.reduceSub, Nat.reduceMul, Nat.reduceLeDiff, Int.reduceToNat, Int.reduceLT, Int.reduceLE, Int.reduceNeg]; with_reducible rfl); (· simp only [shA, eff, Int.reduceEq, Int.reduceAdd, Int.reduceSub, Nat.reduceBEq, Nat.reduceEqDiff, reduceCtorEq, Nat.reduceAdd, Nat.reduceSub, Nat.reduceMul, Nat.reduceLeDiff, Int.reduceToNat, Int.reduceLT, Int.reduceLE, Int.reduceNeg]; with_reducible rfl); (· simp only [shA, eff, Int.reduceEq, Int.reduceAdd, Int.reduceSub, Nat.reduceBEq, Nat.reduceEqDiff, reduceCtorEq, Nat.reduceAdd, Nat.reduceSub, Nat.reduceMul, Nat.reduceLeDiff, Int.reduceToNat, Int.reduceLT, Int.reduceLE, Int.reduceNeg]; with_reducible rfl); (· simp only [shA, eff, Int.reduceEq, Int.reduceAdd, Int.reduceSub, Nat.reduceBEq, Nat.reduceEqDiff, reduceCtorEq, Nat.reduceAdd, Nat.reduceSub, Nat.reduceMul, Nat.reduceLeDiff, Int.reduceToNat, Int.reduceLT, Int.reduceLE, Int.reduceNeg]; with_reducible rfl); (· exact HR); (· rfl); (· simp only [shA, eff, Int.reduceEq, Int.reduceAdd, Int.reduceSub, Nat.reduceBEq, Nat.reduceEqDiff, reduceCtorEq, Nat.reduceAdd, Nat.reduceSub, Nat.reduceMul, Nat.reduceLeDiff, Int.reduceToNat, Int.reduceLT, Int.reduceLE, Int.reduceNeg]; with_reducible rfl); (· simp only [shA, eff, Int.reduceEq, Int.reduceAdd, Int.reduceSub, Nat.reduceBEq, Nat.reduceEqDiff, reduceCtorEq, Nat.reduceAdd, Nat.reduceSub, Nat.reduceMul, Nat.reduceLeDiff, Int.reduceToNat, Int.reduceLT, Int.reduceLE, Int.reduceNeg]; with_reducible rfl); (· simp only [shA, eff, Int.reduceEq, Int.reduceAdd, Int.reduceSub, Nat.reduceBEq, Nat.reduceEqDiff, reduceCtorEq, Nat.reduceAdd, Nat.reduceSub, Nat.reduceMul, Nat.reduceLeDiff, Int.reduceToNat, Int.reduceLT, Int.reduceLE, Int.reduceNeg]; with_reducible rfl)
        repeat ((with_reducible apply w_op); (· rfl); (· simp only [shA, eff, Int.reduceEq, Int.reduceAdd, Int.reduceSub, Nat.reduceBEq, Nat.reduceEqDiff, reduceCtorEq, Nat.reduceAdd, Nat.reduceSub, Nat.reduceMul, Nat.reduceLeDiff, Int.reduceToNat, Int.reduceLT, Int.reduceLE, Int.reduceNeg, d3, d4, undef]; with_reducible rfl); (· simp only [shA, eff, Int.reduceEq, Int.reduceAdd, Int.reduceSub, Nat.reduceBEq, Nat.reduceEqDiff, reduceCtorEq, Nat.reduceAdd, Nat.reduceSub, Nat.reduceMul, Nat.reduceLeDiff, Int.reduceToNat, Int.reduceLT, Int.reduceLE, Int.reduceNeg, d3, d4, undef]; with_reducible rfl))
        apply w_done
        repeat (first | (with_reducible apply w_unr) | (with_reducible apply w_assoc) | (with_reducible apply w_skip) | (with_reducible apply w_ret) | (with_reducible apply w_retE) | (with_reducible apply w_skipE) | (with_reducible apply w_exit) | (with_reducible apply w_exitE) | (with_reducible apply w_block) | (with_reducible apply w_blockE) | ((with_reducible apply w_reg); · simp only [shA, eff, Int.reduceEq, Int.reduceAdd, Int.reduceSub, Nat.reduceBEq, Nat.reduceEqDiff, reduceCtorEq, Nat.reduceAdd, Nat.reduceSub, Nat.reduceMul, Nat.reduceLeDiff, Int.reduceToNat, Int.reduceLT, Int.reduceLE, Int.reduceNeg]; with_reducible rfl) | ((with_reducible apply w_regE); · simp only [shA, eff, Int.reduceEq, Int.reduceAdd, Int.reduceSub, Nat.reduceBEq, Nat.reduceEqDiff, reduceCtorEq, Nat.reduceAdd, Nat.reduceSub, Nat.reduceMul, Nat.reduceLeDiff, Int.reduceToNat, Int.reduceLT, Int.reduceLE, Int.reduceNeg]; with_reducible rfl) | ((with_reducible apply w_condT); · simp only [shA, eff, Int.reduceEq, Int.reduceAdd, Int.reduceSub, Nat.reduceBEq, Nat.reduceEqDiff, reduceCtorEq, Nat.reduceAdd, Nat.reduceSub, Nat.reduceMul, Nat.reduceLeDiff, Int.reduceToNat, Int.reduceLT, Int.reduceLE, Int.reduceNeg]) | ((with_reducible apply w_condF); · simp only [shA, eff, Int.reduceEq, Int.reduceAdd, Int.reduceSub, Nat.reduceBEq, Nat.reduceEqDiff, reduceCtorEq, Nat.reduceAdd, Nat.reduceSub, Nat.reduceMul, Nat.reduceLeDiff, Int.reduceToNat, Int.reduceLT, Int.reduceLE, Int.reduceNeg]) | ((with_reducible apply w_condTE); · simp only [shA, eff, Int.reduceEq, Int.reduceAdd, Int.reduceSub, Nat.reduceBEq, Nat.reduceEqDiff, reduceCtorEq, Nat.reduceAdd, Nat.reduceSub, Nat.reduceMul, Nat.reduceLeDiff, Int.reduceToNat, Int.reduceLT, Int.reduceLE, Int.reduceNeg]) | ((with_reducible apply w_condFE); · simp only [shA, eff, Int.reduceEq, Int.reduceAdd, Int.reduceSub, Nat.reduceBEq, Nat.reduceEqDiff, reduceCtorEq, Nat.reduceAdd, Nat.reduceSub, Nat.reduceMul, Nat.reduceLeDiff, Int.reduceToNat, Int.reduceLT, Int.reduceLE, Int.reduceNeg]) | (with_reducible apply q_then) | (with_reducible apply q_blockN) | (with_reducible apply q_blockR) | (with_reducible apply q_thenR) | (with_reducible apply q_thenX) | (with_reducible apply q_blockX) | ((with_reducible apply q_blockY); · rfl))
        simp [Post0, ansW, resT, SRes.get, ES.fs, ES.kill, has, drp, seqO, nbeq, lk, I, S, TV.ids3, TV.ids2, TV.ids1, TV.ids0, TV.ren3, TV.ren2, TV.ren1, TV.ren0, F_val_Zero, k3, k4, nv, V.nil, V.k, V.n, V.s, str0]
end Go.Proofs.YtdlolkogifigpaaDoor
end

section
/- The arguments of chapter 3's laws, opened: raw numbers of values; a contract of Sh as a call. -/
namespace Go.Proofs.YtdlolkogifigpaaDoor.Op3
open Go.ChangeShapes Go.WideShapes Go.ChangeAt Go.RowKit Go.Lib Go.Mor Go.Deep Go.Joins
open Go.ChangeMaps (open_string shut_string)

theorem list_of {α : Type} {n : Nat} {Q : Nat → α → Prop} (h : ∀ i, i < n → ∃ r, Q i r) : ∃ l : List α, l.length = n ∧ ∀ (i : Nat) r, l[i]? = some r → Q i r := by
  induction n with
  | zero => exact ⟨[], rfl, by simp⟩
  | succ n ih =>
    obtain ⟨l, hl, hq⟩ := ih fun i hi => h i (by omega)
    obtain ⟨r, hr⟩ := h n (by omega)
    refine ⟨l ++ [r], by simp [hl], fun i x hx => ?_⟩
    rw [List.getElem?_append] at hx
    split at hx
    · exact hq i x hx
    · rw [List.getElem?_singleton] at hx
      split at hx
      · injection hx with hx; subst hx
        obtain rfl : i = n := by omega
        exact hr
      · cases hx
section
variable {H : Type} {enc : TypeId × Value → H} {P : Program} {w : World} {base : Nat} {spare : Nat → Bool} {held : Bool}
/-- A slice of structs whose fields have one cell each: cell by cell. -/
theorem open_fields {t e : TypeId} {fs : Array Field} {fuel : Nat} {cs : List Value} {x : DataW H × List MemPlace} (ht : P.underlying t = some (.slice e)) (he : P.underlying e = some (.struct fs))
    (hone : oneCellFields P fs = true) (hC : P.cellsOf e = fs.size) (h : DataW.trod enc P w base spare held fuel t cs = some x) :
    (cs = [.slice none 0 0]) ∨
    ∃ (a : Addr) (len cap : Nat), cs = [.slice (some a) len cap] ∧ len ≤ cap ∧ cap ≤ maxLen ∧
      ∀ i, i < len → ∃ n, ∀ (j : Nat) (f : Field), fs[j]? = some f → ∃ (v : Value) (y : DataW H × List MemPlace), w.cell? (a.add (i * fs.size + j)) = some v ∧ DataW.trod enc P w base spare held n f.type [v] = some y := by
  rcases open_slice ht h with h0 | ⟨a, len, cap, m, n, D, Pl, hcs, hb, hl, hm, hmm, hx, hi⟩
  · exact .inl h0.1
  · refine .inr ⟨a, len, cap, hcs, hl, hm, fun i him => ?_⟩
    obtain ⟨cs', hc, ht'⟩ := hi i (by rw [hmm]; split <;> omega)
    rw [hC] at hc
    obtain ⟨ys, n', hn', hy, hlen, hyl, hf⟩ := DataW.trod_struct he ht'
    obtain ⟨_, hcl, hat⟩ := World.cells?_some hc
    refine ⟨n', fun j f hj => ?_⟩
    obtain ⟨ho, hk⟩ := hone_of hone j f hj
    have hjl : j < fs.size := (Array.getElem?_eq_some_iff.1 hj).1
    have hcell := hat j hjl
    have hv : cs'[j]? = some (cs'[j]'(by omega)) := List.getElem?_eq_getElem (by omega)
    have h1 := hf j f hj
    rw [ho, hk] at h1
    have hone' : (cs'.drop j).take 1 = [cs'[j]'(by omega)] := by
      rw [List.drop_eq_getElem_cons (by omega)]
      rfl
    rw [hone'] at h1
    have hys : ys[j]? = some (ys[j]'(by omega)) := List.getElem?_eq_getElem (by omega)
    refine ⟨_, _, ?_, h1.trans hys⟩
    rw [← Go.Deep.add_add, hcell, hv]
end
theorem add_form {a : Addr} {w : World} {k : Nat} {v : Value} (h0 : w.cell? a = some v) : a = ⟨a.block, a.off, none⟩ ∧ a.add k = ⟨a.block, a.off + k, none⟩ := by
  have := World.cell?_spot h0
  obtain ⟨b, off, spot⟩ := a
  simp at this
  subst this
  exact ⟨rfl, Go.WideShapes.add_plain ..⟩
theorem str_len {s : ByteArray} (h : s.size ≤ maxLen) : s.data.toList.length ≤ 9223372036854775807 := by
  have : s.data.toList.length = s.size := Array.length_toList
  unfold maxLen at h; omega
theorem str_data (s : ByteArray) : s = str s.data.toList := (str_of s).symm
end Go.Proofs.YtdlolkogifigpaaDoor.Op3
namespace Go.Proofs.YtdlolkogifigpaaDoor
open Go.ChangeShapes Go.WideShapes Go.ChangeAt Go.RowKit Go.Lib Go.Mor Go.Deep Go.Joins
open Go.Sh (RelT RelV TV PV SCalls Env MSim objB objR objX Low)
open Go.ChangeMaps (open_string shut_string)
open Go.Proofs.YtdlolkogifigpaaDoor.Op3

def envAll (w : World) : Env := ⟨fun k _ => k < w.heap.size, fun _ => 0, fun _ => none, fun _ => 0⟩
theorem objB_nil (d : Nat) : objB [] d = none := by simp [objB]
theorem objR_nil (d : Nat) : objR [] d = none := by simp [objR]
theorem globN {w : World} {a0 a1 : Addr} (h : Glob w a0 a1) : GlobN a0 a1 w.heap.size w := by
  obtain ⟨c0, t0, h0⟩ := h.b0
  obtain ⟨c1, t1, h1⟩ := h.b1
  refine ⟨h, Nat.le_refl _, heap_lt h0, heap_lt h1, ?_⟩
  have b0 := cell_lt h.e0
  have b1 := cell_lt h.e1
  have b2 := cell_lt (h.tabs.1 0 (by decide))
  have b3 := cell_lt (h.tabs.2 0 (by decide)).1
  simp only at b0 b1 b2 b3
  omega
theorem calls_of_sc {P : Program} {f : Nat} {xs : List TV} {vs : List Value} {w : World} {a0 a1 : Addr} {b : Value} (h : SCalls P (gl a0 a1 w.heap.size) f xs [] (.pv (.v b)) []) (hG : Glob w a0 a1) (hl : xs.length = vs.length)
    (hr : ∀ (j : Nat) x v, xs[j]? = some x → vs[j]? = some v → RelT w (envAll w) (objR []) x v) : Calls P f vs.toArray w fun e w' => e = .returned b ∧ Below w.heap.size w w' := by
  have hX : ∀ d k, ¬ objX (envAll w) [] d k := by
    rintro d k (⟨cs, h1, _⟩ | ⟨q, cap, h1, _⟩)
    · rw [objB_nil] at h1; cases h1
    · rw [objR_nil] at h1; cases h1
  refine (h.2 w (envAll w) vs (globN hG) ?_ (fun d k hd => absurd hd (hX d k)) hl hr).mono ?_
  · refine ⟨fun d cs hd => ?_, fun d e W n hd => ?_, fun d d' cs cs' hd => ?_, fun d d' cs q k cap hd => ?_, fun d d' q q' k cap cap' hd => ?_, fun k o hk => hk, ⟨rfl, rfl, rfl, Nat.le_refl _, fun _ _ _ => rfl⟩, fun k o u hk hu => ⟨hk, hu⟩, fun k o hk => .inl hk, ?_⟩
    · rw [objB_nil] at hd; cases hd
    · rw [objR_nil] at hd; cases hd
    · rw [objB_nil] at hd; cases hd
    · rw [objB_nil] at hd; cases hd
    · rw [objR_nil] at hd; cases hd
    · have hold : ∀ d, ¬ (Go.Sh.start w (envAll w) [] 0).old d := fun d h => by have h1 : 1000 ≤ d ∧ d < 1000 + 0 := h; omega
      constructor <;> (intros; first | (exfalso; apply hold; assumption) | rfl)
  · rintro e w' ⟨v, E', rfl, hm, hv, _⟩
    obtain rfl := Go.Sh.val_rel (y := b) hv rfl
    exact ⟨rfl, hm.low.os, hm.low.tape, hm.low.output, hm.low.size, fun k hk => hm.low.block k hk (fun d => hX d k)⟩
section
variable {H : Type} {enc : TypeId × Value → H}
theorem relV_v {w : World} {K : Nat → Nat → Prop} (x : Value) : RelV w K (.v x) x := .v x
theorem open_ones {W : World} {base : Nat} {spare : Nat → Bool} {held : Bool} {fuel : Nat} {c : Value} {y : DataW H × List MemPlace} (h : DataW.trod enc Tryd.prog W base spare held fuel 60 [c] = some y) :
    ∃ l : List R1, (∀ r ∈ l, r.ok) ∧ l.length ≤ 9223372036854775807 ∧ RelV W (envAll W).K (.sl 3 (l.map R1.row)) c := by
  rcases open_fields Tryd.underlying60 Tryd.underlying100 (by kernel_rfl) (by kernel_rfl) h with h0 | ⟨a, len, cap, hcs, hl, hm, hi⟩
  · obtain rfl : c = .slice none 0 0 := by simpa using h0
    exact ⟨[], by simp, by simp, .sl 3 [] 0 0 0 none (fun _ _ => undef) (by simp) (by simp) (by simp) (by simp) (by simp) (by simp)⟩
  · obtain rfl : c = .slice (some a) len cap := by simpa using hcs
    have key : ∀ i, i < len → ∃ r : R1, r.ok ∧ a = ⟨a.block, a.off, none⟩ ∧ W.cell? ⟨a.block, a.off + i * 3, none⟩ = some (.int .i64 r.k) ∧ W.cell? ⟨a.block, a.off + i * 3 + 1, none⟩ = some (.int .i64 r.n) ∧ W.cell? ⟨a.block, a.off + i * 3 + 2, none⟩ = some (.string (str r.s)) := by
      intro i hlt
      obtain ⟨n0, hf0⟩ := hi 0 (by omega)
      obtain ⟨v, y, hc0, _⟩ := hf0 0 _ rfl
      have ha : a = ⟨a.block, a.off, none⟩ := (add_form (k := 0) (by simpa [Addr.add] using hc0)).1
      have hadd : ∀ k, a.add k = ⟨a.block, a.off + k, none⟩ := fun k => (add_form (k := k) (by simpa [Addr.add] using hc0)).2
      obtain ⟨n, hf⟩ := hi i hlt
      obtain ⟨v0, y0, c0, t0⟩ := hf 0 _ rfl
      obtain ⟨v1, y1, c1, t1⟩ := hf 1 _ rfl
      obtain ⟨v2, y2, c2, t2⟩ := hf 2 _ rfl
      obtain ⟨z0, e0, _, w0⟩ := DataW.trod_int Tryd.underlying3 t0
      obtain ⟨z1, e1, _, w1⟩ := DataW.trod_int Tryd.underlying3 t1
      obtain ⟨z2, e2, _, w2⟩ := DataW.trod_string Tryd.underlying9 t2
      simp at e0 e1 e2
      subst e0 e1 e2
      rw [hadd] at c0 c1 c2
      refine ⟨⟨z0, z1, z2.data.toList⟩, ⟨bounds_i64 w0, bounds_i64 w1, ?_⟩, ha, c0, c1, ?_⟩
      · exact str_len w2
      · rw [str_of]; exact c2
    obtain ⟨l, hlen, hq⟩ := list_of key
    refine ⟨l, fun r hr => ?_, by unfold maxLen at hm; omega, ?_⟩
    · obtain ⟨i, hi⟩ := List.getElem?_of_mem hr
      exact (hq i r hi).1
    · have hL : (l.map R1.row).length = len := by simp [hlen]
      rw [← hL]
      have cell : ∀ (i j : Nat) cs q, (l.map R1.row)[i]? = some cs → cs[j]? = some q → ∃ u, q = .v u ∧ W.cell? ⟨a.block, a.off + i * 3 + j, none⟩ = some u ∧ Go.Sh.one u := by
        intro i j cs q h1 h2
        rw [List.getElem?_map, Option.map_eq_some_iff] at h1
        obtain ⟨r, hr, rfl⟩ := h1
        obtain ⟨_, _, c0, c1, c2⟩ := hq i r hr
        match j with
        | 0 => simp [R1.row] at h2; subst h2; exact ⟨_, rfl, c0, rfl⟩
        | 1 => simp [R1.row] at h2; subst h2; exact ⟨_, rfl, c1, rfl⟩
        | 2 => simp [R1.row] at h2; subst h2; exact ⟨_, rfl, c2, rfl⟩
        | j + 3 => simp [R1.row] at h2
      refine .sl 3 (l.map R1.row) a.block a.off cap (some a) (fun i j => (W.cell? ⟨a.block, a.off + i * 3 + j, none⟩).getD undef) (fun hne => ?_) (by omega) hm (fun cs hcs => ?_) (fun i j cs q h1 h2 => ?_) (fun i j cs q h1 h2 => ?_)
      · obtain ⟨r, hr⟩ : ∃ r, l[0]? = some r := by
          cases l with
          | nil => exact absurd rfl hne
          | cons r q => exact ⟨r, rfl⟩
        rw [(hq 0 r hr).2.1]
      · obtain ⟨r, _, rfl⟩ := List.mem_map.1 hcs; rfl
      · obtain ⟨u, _, hu, ho⟩ := cell i j cs q h1 h2
        rw [hu]; exact ⟨cell_lt (a := ⟨a.block, a.off + i * 3 + j, none⟩) hu, rfl, ho⟩
      · obtain ⟨u, rfl, hu, ho⟩ := cell i j cs q h1 h2
        rw [hu]; exact .v u
set_option maxRecDepth 100000 in
theorem open_raw3 {W : World} {b0 base : Nat} {spare : Nat → Bool} {held : Bool} {v : Value} {d : DataW H} {p : List MemPlace} (hok : Value.okWide Tryd.prog W .any b0 62 v) (h : DataW.Trod enc Tryd.prog W base spare held 62 v d p) :
    ∃ x : RawV, x.ok ∧ ∀ r, RelT W (envAll W) r x.tv v := by
  obtain ⟨c0, c1, c2, c3, y0, y1, y2, y3, m, rfl, _, _, hy0, hy1, hy2, hy3⟩ := open_agg4 Tryd.underlying62 (by kernel_rfl) (by kernel_rfl) hok h
  obtain ⟨z0, e0, _, w0⟩ := DataW.trod_int Tryd.underlying3 hy0
  obtain ⟨z1, e1, _, w1⟩ := DataW.trod_int Tryd.underlying3 hy1
  obtain ⟨z2, e2, _, w2⟩ := DataW.trod_string Tryd.underlying9 hy2
  simp at e0 e1 e2
  subst e0 e1 e2
  obtain ⟨l, hl, hlen, hr⟩ := open_ones hy3
  refine ⟨⟨z0, z1, z2.data.toList, l⟩, ⟨bounds_i64 w0, bounds_i64 w1, ?_, hl, hlen⟩, fun r => ?_⟩
  · exact str_len w2
  · unfold RawV.tv
    refine .agg _ [_, _, _, c3] rfl (fun j q u hq hu => ?_) (fun u hu => ?_)
    · match j with
      | 0 => simp at hq hu; subst hq; subst hu; exact .pv (.v _)
      | 1 => simp at hq hu; subst hq; subst hu; exact .pv (.v _)
      | 2 => simp at hq hu; subst hq; subst hu; rw [str_of]; exact .pv (.v _)
      | 3 => simp at hq hu; subst hq; subst hu; exact .pv hr
      | j + 4 => simp at hq
    · simp at hu
      rcases hu with rfl | rfl | rfl | rfl
      · rfl
      · rfl
      · rfl
      · cases hr; rfl
end
end Go.Proofs.YtdlolkogifigpaaDoor
end

section
/- The statements' ValOf. No statement of the program is proved here. -/
namespace Go.Proofs.YtdlolkogifigpaaDoor
open Go Go.RowKit Go.Mor Go.Sh Go.Sh.Cd1
set_option maxRecDepth 100000
set_option maxHeartbeats 8000000
def oneL (l : List R1) : List V := (l.take 12).map fun r => valOne (pickI r.k 5) r.n r.s
def valOf (x : RawV) : V :=
  if pickI x.k 7 < 5 then
    if 3 ≤ (valOne (pickI x.k 7) x.n x.s).k ∧ pickI (x.k.tdiv 7) 4 = 0 then .mk (valOne (pickI x.k 7) x.n x.s).k (-1 - pickI x.n 20) (valOne (pickI x.k 7) x.n x.s).s [] else valOne (pickI x.k 7) x.n x.s
  else .mk 5 0 [] (oneL x.l)
theorem tdiv64 {c : Int} (h : I64 c) : I64 (c.tdiv 7) := by
  have h1 := Int.natAbs_tdiv c 7
  have h2 : c.natAbs / 7 ≤ c.natAbs := Nat.div_le_self _ _
  have h3 : (c.tdiv 7).natAbs ≤ c.natAbs / 7 := by rw [h1]; exact Nat.le_refl _
  unfold I64 at *
  omega
theorem valOf_small (g : Sh.Glob) (x : RawV) (hx : x.ok) (hk5 : pickI x.k 7 < 5) : SCalls Tryd.prog g 27 [x.tv] [] (nv (valOf x)) [] := by
  refine call_of0 hmix tf_morainelaw03_ValOf rfl ?_
  obtain ⟨hk, hn, hs, hl, hlen⟩ := hx
  have hV := valOne_ok g (pickI x.k 7) 0 x.n x.s hn hs
  unfold valOf RawV.tv
  rw [if_pos hk5]
  have d5 := decide_T hk5
  have hP := pickI_ok g x.k 7 hk (by decide)
  generalize pickI x.k 7 = k at hV hk5 d5 hP ⊢
  obtain ⟨v, hv⟩ : ∃ v, v = valOne k x.n x.s := ⟨_, rfl⟩
  have hvl : v.l = [] := by rw [hv]; exact valOne_l _ _ _
  rw [← hv] at hV ⊢
  unfold nv at hV
  have hq := bin_quo Tryd.prog 3 .i64 x.k 7 (by decide)
  have ht := tdiv64 hk
  have wq : IntKind.i64.wrap (x.k.tdiv 7) = x.k.tdiv 7 := wrap64 ht.1 ht.2
  have hp20 := pickI_lt (n := 20) (by decide) hn
  have w20 : IntKind.i64.wrap (-1 - pickI x.n 20) = -1 - pickI x.n 20 := wrap64 (by omega) (by omega)
  repeat (first | (with_reducible apply w_unr) | (with_reducible apply w_assoc) | (with_reducible apply w_skip) | (with_reducible apply w_ret) | (with_reducible apply w_retE) | (with_reducible apply w_skipE) | (with_reducible apply w_exit) | (with_reducible apply w_exitE) | (with_reducible apply w_block) | (with_reducible apply w_blockE) | ((with_reducible apply w_reg); · simp only [shA, eff, Int.reduceEq, Int.reduceAdd, Int.reduceSub, Nat.reduceBEq, Nat.reduceEqDiff, reduceCtorEq, Nat.reduceAdd, Nat.reduceSub, Nat.reduceMul, Nat.reduceLeDiff, Int.reduceToNat, Int.reduceLT, Int.reduceLE, Int.reduceNeg]; with_reducible rfl) | ((with_reducible apply w_regE); · simp only [shA, eff, Int.reduceEq, Int.reduceAdd, Int.reduceSub, Nat.reduceBEq, Nat.reduceEqDiff, reduceCtorEq, Nat.reduceAdd, Nat.reduceSub, Nat.reduceMul, Nat.reduceLeDiff, Int.reduceToNat, Int.reduceLT, Int.reduceLE, Int.reduceNeg]; with_reducible rfl) | ((with_reducible apply w_condT); · simp only [shA, eff, Int.reduceEq, Int.reduceAdd, Int.reduceSub, Nat.reduceBEq, Nat.reduceEqDiff, reduceCtorEq, Nat.reduceAdd, Nat.reduceSub, Nat.reduceMul, Nat.reduceLeDiff, Int.reduceToNat, Int.reduceLT, Int.reduceLE, Int.reduceNeg]) | ((with_reducible apply w_condF); · simp only [shA, eff, Int.reduceEq, Int.reduceAdd, Int.reduceSub, Nat.reduceBEq, Nat.reduceEqDiff, reduceCtorEq, Nat.reduceAdd, Nat.reduceSub, Nat.reduceMul, Nat.reduceLeDiff, Int.reduceToNat, Int.reduceLT, Int.reduceLE, Int.reduceNeg]) | ((with_reducible apply w_condTE); · simp only [shA, eff, Int.reduceEq, Int.reduceAdd, Int.reduceSub, Nat.reduceBEq, Nat.reduceEqDiff, reduceCtorEq, Nat.reduceAdd, Nat.reduceSub, Nat.reduceMul, Nat.reduceLeDiff, Int.reduceToNat, Int.reduceLT, Int.reduceLE, Int.reduceNeg]) | ((with_reducible apply w_condFE); · simp only [shA, eff, Int.reduceEq, Int.reduceAdd, Int.reduceSub, Nat.reduceBEq, Nat.reduceEqDiff, reduceCtorEq, Nat.reduceAdd, Nat.reduceSub, Nat.reduceMul, Nat.reduceLeDiff, Int.reduceToNat, Int.reduceLT, Int.reduceLE, Int.reduceNeg]) | (with_reducible apply q_then) | (with_reducible apply q_blockN) | (with_reducible apply q_blockR) | (with_reducible apply q_thenR) | (with_reducible apply q_thenX) | (with_reducible apply q_blockX) | ((with_reducible apply q_blockY); · rfl))
  (first | (with_reducible apply w_ops) | (with_reducible apply w_opsE))
  repeat ((with_reducible apply w_op); (· rfl); (· simp only [shA, eff, Int.reduceEq, Int.reduceAdd, Int.reduceSub, Nat.reduceBEq, Nat.reduceEqDiff, reduceCtorEq, Nat.reduceAdd, Nat.reduceSub, Nat.reduceMul, Nat.reduceLeDiff, Int.reduceToNat, Int.reduceLT, Int.reduceLE, Int.reduceNeg]; with_reducible rfl); (· simp only [shA, eff, Int.reduceEq, Int.reduceAdd, Int.reduceSub, Nat.reduceBEq, Nat.reduceEqDiff, reduceCtorEq, Nat.reduceAdd, Nat.reduceSub, Nat.reduceMul, Nat.reduceLeDiff, Int.reduceToNat, Int.reduceLT, Int.reduceLE, Int.reduceNeg]; with_reducible rfl))
  (with_reducible apply w_call); (· simp only [shA, eff, Int.reduceEq, Int.reduceAdd, Int.reduceSub, Nat.reduceBEq, Nat.reduceEqDiff, reduceCtorEq, Nat.reduceAdd, Nat.reduceSub, Nat.reduceMul, Nat.reduceLeDiff, Int.reduceToNat, Int.reduceLT, Int.reduceLE, Int.reduceNeg]; with_reducible rfl); (· simp only [shA, eff, Int.reduceEq, Int.reduceAdd, Int.reduceSub, Nat.reduceBEq, Nat.reduceEqDiff, reduceCtorEq, Nat.reduceAdd, Nat.reduceSub, Nat.reduceMul, Nat.reduceLeDiff, Int.reduceToNat, Int.reduceLT, Int.reduceLE, Int.reduceNeg]; with_reducible rfl); (· simp only [shA, eff, Int.reduceEq, Int.reduceAdd, Int.reduceSub, Nat.reduceBEq, Nat.reduceEqDiff, reduceCtorEq, Nat.reduceAdd, Nat.reduceSub, Nat.reduceMul, Nat.reduceLeDiff, Int.reduceToNat, Int.reduceLT, Int.reduceLE, Int.reduceNeg]; with_reducible rfl); (· simp only [shA, eff, Int.reduceEq, Int.reduceAdd, Int.reduceSub, Nat.reduceBEq, Nat.reduceEqDiff, reduceCtorEq, Nat.reduceAdd, Nat.reduceSub, Nat.reduceMul, Nat.reduceLeDiff, Int.reduceToNat, Int.reduceLT, Int.reduceLE, Int.reduceNeg]; with_reducible rfl); (· exact hP); (· rfl); (· simp only [shA, eff, Int.reduceEq, Int.reduceAdd, Int.reduceSub, Nat.reduceBEq, Nat.reduceEqDiff, reduceCtorEq, Nat.reduceAdd, Nat.reduceSub, Nat.reduceMul, Nat.reduceLeDiff, Int.reduceToNat, Int.reduceLT, Int.reduceLE, Int.reduceNeg]; with_reducible rfl); (· simp only [shA, eff, Int.reduceEq, Int.reduceAdd, Int.reduceSub, Nat.reduceBEq, Nat.reduceEqDiff, reduceCtorEq, Nat.reduceAdd, Nat.reduceSub, Nat.reduceMul, Nat.reduceLeDiff, Int.reduceToNat, Int.reduceLT, Int.reduceLE, Int.reduceNeg]; with_reducible rfl); (· simp only [shA, eff, Int.reduceEq, Int.reduceAdd, Int.reduceSub, Nat.reduceBEq, Nat.reduceEqDiff, reduceCtorEq, Nat.reduceAdd, Nat.reduceSub, Nat.reduceMul, Nat.reduceLeDiff, Int.reduceToNat, Int.reduceLT, Int.reduceLE, Int.reduceNeg]; with_reducible rfl)
  repeat ((with_reducible apply w_op); (· rfl); (· simp only [shA, eff, Int.reduceEq, Int.reduceAdd, Int.reduceSub, Nat.reduceBEq, Nat.reduceEqDiff, reduceCtorEq, Nat.reduceAdd, Nat.reduceSub, Nat.reduceMul, Nat.reduceLeDiff, Int.reduceToNat, Int.reduceLT, Int.reduceLE, Int.reduceNeg]; with_reducible rfl); (· simp only [shA, eff, Int.reduceEq, Int.reduceAdd, Int.reduceSub, Nat.reduceBEq, Nat.reduceEqDiff, reduceCtorEq, Nat.reduceAdd, Nat.reduceSub, Nat.reduceMul, Nat.reduceLeDiff, Int.reduceToNat, Int.reduceLT, Int.reduceLE, Int.reduceNeg]; with_reducible rfl))
  apply w_done
  repeat (first | (with_reducible apply w_unr) | (with_reducible apply w_assoc) | (with_reducible apply w_skip) | (with_reducible apply w_ret) | (with_reducible apply w_retE) | (with_reducible apply w_skipE) | (with_reducible apply w_exit) | (with_reducible apply w_exitE) | (with_reducible apply w_block) | (with_reducible apply w_blockE) | ((with_reducible apply w_reg); · simp only [shA, eff, Int.reduceEq, Int.reduceAdd, Int.reduceSub, Nat.reduceBEq, Nat.reduceEqDiff, reduceCtorEq, Nat.reduceAdd, Nat.reduceSub, Nat.reduceMul, Nat.reduceLeDiff, Int.reduceToNat, Int.reduceLT, Int.reduceLE, Int.reduceNeg, d5]; with_reducible rfl) | ((with_reducible apply w_regE); · simp only [shA, eff, Int.reduceEq, Int.reduceAdd, Int.reduceSub, Nat.reduceBEq, Nat.reduceEqDiff, reduceCtorEq, Nat.reduceAdd, Nat.reduceSub, Nat.reduceMul, Nat.reduceLeDiff, Int.reduceToNat, Int.reduceLT, Int.reduceLE, Int.reduceNeg, d5]; with_reducible rfl) | ((with_reducible apply w_condT); · simp only [shA, eff, Int.reduceEq, Int.reduceAdd, Int.reduceSub, Nat.reduceBEq, Nat.reduceEqDiff, reduceCtorEq, Nat.reduceAdd, Nat.reduceSub, Nat.reduceMul, Nat.reduceLeDiff, Int.reduceToNat, Int.reduceLT, Int.reduceLE, Int.reduceNeg, d5]) | ((with_reducible apply w_condF); · simp only [shA, eff, Int.reduceEq, Int.reduceAdd, Int.reduceSub, Nat.reduceBEq, Nat.reduceEqDiff, reduceCtorEq, Nat.reduceAdd, Nat.reduceSub, Nat.reduceMul, Nat.reduceLeDiff, Int.reduceToNat, Int.reduceLT, Int.reduceLE, Int.reduceNeg, d5]) | ((with_reducible apply w_condTE); · simp only [shA, eff, Int.reduceEq, Int.reduceAdd, Int.reduceSub, Nat.reduceBEq, Nat.reduceEqDiff, reduceCtorEq, Nat.reduceAdd, Nat.reduceSub, Nat.reduceMul, Nat.reduceLeDiff, Int.reduceToNat, Int.reduceLT, Int.reduceLE, Int.reduceNeg, d5]) | ((with_reducible apply w_condFE); · simp only [shA, eff, Int.reduceEq, Int.reduceAdd, Int.reduceSub, Nat.reduceBEq, Nat.reduceEqDiff, reduceCtorEq, Nat.reduceAdd, Nat.reduceSub, Nat.reduceMul, Nat.reduceLeDiff, Int.reduceToNat, Int.reduceLT, Int.reduceLE, Int.reduceNeg, d5]) | (with_reducible apply q_then) | (with_reducible apply q_blockN) | (with_reducible apply q_blockR) | (with_reducible apply q_thenR) | (with_reducible apply q_thenX) | (with_reducible apply q_blockX) | ((with_reducible apply q_blockY); · rfl))
  (first | (with_reducible apply w_ops) | (with_reducible apply w_opsE))
  repeat ((with_reducible apply w_op); (· rfl); (· simp only [shA, eff, Int.reduceEq, Int.reduceAdd, Int.reduceSub, Nat.reduceBEq, Nat.reduceEqDiff, reduceCtorEq, Nat.reduceAdd, Nat.reduceSub, Nat.reduceMul, Nat.reduceLeDiff, Int.reduceToNat, Int.reduceLT, Int.reduceLE, Int.reduceNeg]; with_reducible rfl); (· simp only [shA, eff, Int.reduceEq, Int.reduceAdd, Int.reduceSub, Nat.reduceBEq, Nat.reduceEqDiff, reduceCtorEq, Nat.reduceAdd, Nat.reduceSub, Nat.reduceMul, Nat.reduceLeDiff, Int.reduceToNat, Int.reduceLT, Int.reduceLE, Int.reduceNeg]; with_reducible rfl))
  (with_reducible apply w_call); (· simp only [shA, eff, Int.reduceEq, Int.reduceAdd, Int.reduceSub, Nat.reduceBEq, Nat.reduceEqDiff, reduceCtorEq, Nat.reduceAdd, Nat.reduceSub, Nat.reduceMul, Nat.reduceLeDiff, Int.reduceToNat, Int.reduceLT, Int.reduceLE, Int.reduceNeg]; with_reducible rfl); (· simp only [shA, eff, Int.reduceEq, Int.reduceAdd, Int.reduceSub, Nat.reduceBEq, Nat.reduceEqDiff, reduceCtorEq, Nat.reduceAdd, Nat.reduceSub, Nat.reduceMul, Nat.reduceLeDiff, Int.reduceToNat, Int.reduceLT, Int.reduceLE, Int.reduceNeg]; with_reducible rfl); (· simp only [shA, eff, Int.reduceEq, Int.reduceAdd, Int.reduceSub, Nat.reduceBEq, Nat.reduceEqDiff, reduceCtorEq, Nat.reduceAdd, Nat.reduceSub, Nat.reduceMul, Nat.reduceLeDiff, Int.reduceToNat, Int.reduceLT, Int.reduceLE, Int.reduceNeg]; with_reducible rfl); (· simp only [shA, eff, Int.reduceEq, Int.reduceAdd, Int.reduceSub, Nat.reduceBEq, Nat.reduceEqDiff, reduceCtorEq, Nat.reduceAdd, Nat.reduceSub, Nat.reduceMul, Nat.reduceLeDiff, Int.reduceToNat, Int.reduceLT, Int.reduceLE, Int.reduceNeg]; with_reducible rfl); (· exact hV); (· rfl); (· simp only [shA, eff, Int.reduceEq, Int.reduceAdd, Int.reduceSub, Nat.reduceBEq, Nat.reduceEqDiff, reduceCtorEq, Nat.reduceAdd, Nat.reduceSub, Nat.reduceMul, Nat.reduceLeDiff, Int.reduceToNat, Int.reduceLT, Int.reduceLE, Int.reduceNeg]; with_reducible rfl); (· simp only [shA, eff, Int.reduceEq, Int.reduceAdd, Int.reduceSub, Nat.reduceBEq, Nat.reduceEqDiff, reduceCtorEq, Nat.reduceAdd, Nat.reduceSub, Nat.reduceMul, Nat.reduceLeDiff, Int.reduceToNat, Int.reduceLT, Int.reduceLE, Int.reduceNeg]; with_reducible rfl); (· simp only [shA, eff, Int.reduceEq, Int.reduceAdd, Int.reduceSub, Nat.reduceBEq, Nat.reduceEqDiff, reduceCtorEq, Nat.reduceAdd, Nat.reduceSub, Nat.reduceMul, Nat.reduceLeDiff, Int.reduceToNat, Int.reduceLT, Int.reduceLE, Int.reduceNeg]; with_reducible rfl)
  repeat ((with_reducible apply w_op); (· rfl); (· simp only [shA, eff, Int.reduceEq, Int.reduceAdd, Int.reduceSub, Nat.reduceBEq, Nat.reduceEqDiff, reduceCtorEq, Nat.reduceAdd, Nat.reduceSub, Nat.reduceMul, Nat.reduceLeDiff, Int.reduceToNat, Int.reduceLT, Int.reduceLE, Int.reduceNeg]; with_reducible rfl); (· simp only [shA, eff, Int.reduceEq, Int.reduceAdd, Int.reduceSub, Nat.reduceBEq, Nat.reduceEqDiff, reduceCtorEq, Nat.reduceAdd, Nat.reduceSub, Nat.reduceMul, Nat.reduceLeDiff, Int.reduceToNat, Int.reduceLT, Int.reduceLE, Int.reduceNeg]; with_reducible rfl))
  apply w_done
  repeat (first | (with_reducible apply w_unr) | (with_reducible apply w_assoc) | (with_reducible apply w_skip) | (with_reducible apply w_ret) | (with_reducible apply w_retE) | (with_reducible apply w_skipE) | (with_reducible apply w_exit) | (with_reducible apply w_exitE) | (with_reducible apply w_block) | (with_reducible apply w_blockE) | ((with_reducible apply w_reg); · simp only [shA, eff, Int.reduceEq, Int.reduceAdd, Int.reduceSub, Nat.reduceBEq, Nat.reduceEqDiff, reduceCtorEq, Nat.reduceAdd, Nat.reduceSub, Nat.reduceMul, Nat.reduceLeDiff, Int.reduceToNat, Int.reduceLT, Int.reduceLE, Int.reduceNeg]; with_reducible rfl) | ((with_reducible apply w_regE); · simp only [shA, eff, Int.reduceEq, Int.reduceAdd, Int.reduceSub, Nat.reduceBEq, Nat.reduceEqDiff, reduceCtorEq, Nat.reduceAdd, Nat.reduceSub, Nat.reduceMul, Nat.reduceLeDiff, Int.reduceToNat, Int.reduceLT, Int.reduceLE, Int.reduceNeg]; with_reducible rfl) | ((with_reducible apply w_condT); · simp only [shA, eff, Int.reduceEq, Int.reduceAdd, Int.reduceSub, Nat.reduceBEq, Nat.reduceEqDiff, reduceCtorEq, Nat.reduceAdd, Nat.reduceSub, Nat.reduceMul, Nat.reduceLeDiff, Int.reduceToNat, Int.reduceLT, Int.reduceLE, Int.reduceNeg]) | ((with_reducible apply w_condF); · simp only [shA, eff, Int.reduceEq, Int.reduceAdd, Int.reduceSub, Nat.reduceBEq, Nat.reduceEqDiff, reduceCtorEq, Nat.reduceAdd, Nat.reduceSub, Nat.reduceMul, Nat.reduceLeDiff, Int.reduceToNat, Int.reduceLT, Int.reduceLE, Int.reduceNeg]) | ((with_reducible apply w_condTE); · simp only [shA, eff, Int.reduceEq, Int.reduceAdd, Int.reduceSub, Nat.reduceBEq, Nat.reduceEqDiff, reduceCtorEq, Nat.reduceAdd, Nat.reduceSub, Nat.reduceMul, Nat.reduceLeDiff, Int.reduceToNat, Int.reduceLT, Int.reduceLE, Int.reduceNeg]) | ((with_reducible apply w_condFE); · simp only [shA, eff, Int.reduceEq, Int.reduceAdd, Int.reduceSub, Nat.reduceBEq, Nat.reduceEqDiff, reduceCtorEq, Nat.reduceAdd, Nat.reduceSub, Nat.reduceMul, Nat.reduceLeDiff, Int.reduceToNat, Int.reduceLT, Int.reduceLE, Int.reduceNeg]) | (with_reducible apply q_then) | (with_reducible apply q_blockN) | (with_reducible apply q_blockR) | (with_reducible apply q_thenR) | (with_reducible apply q_thenX) | (with_reducible apply q_blockX) | ((with_reducible apply q_blockY); · rfl))
  (first | (with_reducible apply w_ops) | (with_reducible apply w_opsE))
  by_cases h3 : 3 ≤ v.k
  · have d3 := decide_T h3
    by_cases hz : pickI (x.k.tdiv 7) 4 = 0
    · have dz := decide_T hz
      rw [if_pos ⟨h3, hz⟩]
      repeat ((with_reducible apply w_op); (· rfl); (· simp only [shA, eff, Int.reduceEq, Int.reduceAdd, Int.reduceSub, Nat.reduceBEq, Nat.reduceEqDiff, reduceCtorEq, Nat.reduceAdd, Nat.reduceSub, Nat.reduceMul, Nat.reduceLeDiff, Int.reduceToNat, Int.reduceLT, Int.reduceLE, Int.reduceNeg, d3, hq, wq]; with_reducible rfl); (· simp only [shA, eff, Int.reduceEq, Int.reduceAdd, Int.reduceSub, Nat.reduceBEq, Nat.reduceEqDiff, reduceCtorEq, Nat.reduceAdd, Nat.reduceSub, Nat.reduceMul, Nat.reduceLeDiff, Int.reduceToNat, Int.reduceLT, Int.reduceLE, Int.reduceNeg, d3, hq, wq]; with_reducible rfl))
      (with_reducible apply w_callg); (· simp only [shA, eff, Int.reduceEq, Int.reduceAdd, Int.reduceSub, Nat.reduceBEq, Nat.reduceEqDiff, reduceCtorEq, Nat.reduceAdd, Nat.reduceSub, Nat.reduceMul, Nat.reduceLeDiff, Int.reduceToNat, Int.reduceLT, Int.reduceLE, Int.reduceNeg]); (· simp only [shA, eff, Int.reduceEq, Int.reduceAdd, Int.reduceSub, Nat.reduceBEq, Nat.reduceEqDiff, reduceCtorEq, Nat.reduceAdd, Nat.reduceSub, Nat.reduceMul, Nat.reduceLeDiff, Int.reduceToNat, Int.reduceLT, Int.reduceLE, Int.reduceNeg]; with_reducible rfl); (· simp only [shA, eff, Int.reduceEq, Int.reduceAdd, Int.reduceSub, Nat.reduceBEq, Nat.reduceEqDiff, reduceCtorEq, Nat.reduceAdd, Nat.reduceSub, Nat.reduceMul, Nat.reduceLeDiff, Int.reduceToNat, Int.reduceLT, Int.reduceLE, Int.reduceNeg]; with_reducible rfl); (· simp only [shA, eff, Int.reduceEq, Int.reduceAdd, Int.reduceSub, Nat.reduceBEq, Nat.reduceEqDiff, reduceCtorEq, Nat.reduceAdd, Nat.reduceSub, Nat.reduceMul, Nat.reduceLeDiff, Int.reduceToNat, Int.reduceLT, Int.reduceLE, Int.reduceNeg]; with_reducible rfl); (· simp only [shA, eff, Int.reduceEq, Int.reduceAdd, Int.reduceSub, Nat.reduceBEq, Nat.reduceEqDiff, reduceCtorEq, Nat.reduceAdd, Nat.reduceSub, Nat.reduceMul, Nat.reduceLeDiff, Int.reduceToNat, Int.reduceLT, Int.reduceLE, Int.reduceNeg]; with_reducible rfl); (· exact pickI_ok g (x.k.tdiv 7) 4 ht (by decide)); (· rfl); (· simp only [shA, eff, Int.reduceEq, Int.reduceAdd, Int.reduceSub, Nat.reduceBEq, Nat.reduceEqDiff, reduceCtorEq, Nat.reduceAdd, Nat.reduceSub, Nat.reduceMul, Nat.reduceLeDiff, Int.reduceToNat, Int.reduceLT, Int.reduceLE, Int.reduceNeg]; with_reducible rfl); (· simp only [shA, eff, Int.reduceEq, Int.reduceAdd, Int.reduceSub, Nat.reduceBEq, Nat.reduceEqDiff, reduceCtorEq, Nat.reduceAdd, Nat.reduceSub, Nat.reduceMul, Nat.reduceLeDiff, Int.reduceToNat, Int.reduceLT, Int.reduceLE, Int.reduceNeg]; with_reducible rfl); (· simp only [shA, eff, Int.reduceEq, Int.reduceAdd, Int.reduceSub, Nat.reduceBEq, Nat.reduceEqDiff, reduceCtorEq, Nat.reduceAdd, Nat.reduceSub, Nat.reduceMul, Nat.reduceLeDiff, Int.reduceToNat, Int.reduceLT, Int.reduceLE, Int.reduceNeg]; with_reducible rfl)
      repeat ((with_reducible apply w_op); (· rfl); (· simp only [shA, eff, Int.reduceEq, Int.reduceAdd, Int.reduceSub, Nat.reduceBEq, Nat.reduceEqDiff, reduceCtorEq, Nat.reduceAdd, Nat.reduceSub, Nat.reduceMul, Nat.reduceLeDiff, Int.reduceToNat, Int.reduceLT, Int.reduceLE, Int.reduceNeg, dz]; with_reducible rfl); (· simp only [shA, eff, Int.reduceEq, Int.reduceAdd, Int.reduceSub, Nat.reduceBEq, Nat.reduceEqDiff, reduceCtorEq, Nat.reduceAdd, Nat.reduceSub, Nat.reduceMul, Nat.reduceLeDiff, Int.reduceToNat, Int.reduceLT, Int.reduceLE, Int.reduceNeg, dz]; with_reducible rfl))
      apply w_done
      repeat (first | (with_reducible apply w_unr) | (with_reducible apply w_assoc) | (with_reducible apply w_skip) | (with_reducible apply w_ret) | (with_reducible apply w_retE) | (with_reducible apply w_skipE) | (with_reducible apply w_exit) | (with_reducible apply w_exitE) | (with_reducible apply w_block) | (with_reducible apply w_blockE) | ((with_reducible apply w_reg); · simp only [shA, eff, Int.reduceEq, Int.reduceAdd, Int.reduceSub, Nat.reduceBEq, Nat.reduceEqDiff, reduceCtorEq, Nat.reduceAdd, Nat.reduceSub, Nat.reduceMul, Nat.reduceLeDiff, Int.reduceToNat, Int.reduceLT, Int.reduceLE, Int.reduceNeg]; with_reducible rfl) | ((with_reducible apply w_regE); · simp only [shA, eff, Int.reduceEq, Int.reduceAdd, Int.reduceSub, Nat.reduceBEq, Nat.reduceEqDiff, reduceCtorEq, Nat.reduceAdd, Nat.reduceSub, Nat.reduceMul, Nat.reduceLeDiff, Int.reduceToNat, Int.reduceLT, Int.reduceLE, Int.reduceNeg]; with_reducible rfl) | ((with_reducible apply w_condT); · simp only [shA, eff, Int.reduceEq, Int.reduceAdd, Int.reduceSub, Nat.reduceBEq, Nat.reduceEqDiff, reduceCtorEq, Nat.reduceAdd, Nat.reduceSub, Nat.reduceMul, Nat.reduceLeDiff, Int.reduceToNat, Int.reduceLT, Int.reduceLE, Int.reduceNeg]) | ((with_reducible apply w_condF); · simp only [shA, eff, Int.reduceEq, Int.reduceAdd, Int.reduceSub, Nat.reduceBEq, Nat.reduceEqDiff, reduceCtorEq, Nat.reduceAdd, Nat.reduceSub, Nat.reduceMul, Nat.reduceLeDiff, Int.reduceToNat, Int.reduceLT, Int.reduceLE, Int.reduceNeg]) | ((with_reducible apply w_condTE); · simp only [shA, eff, Int.reduceEq, Int.reduceAdd, Int.reduceSub, Nat.reduceBEq, Nat.reduceEqDiff, reduceCtorEq, Nat.reduceAdd, Nat.reduceSub, Nat.reduceMul, Nat.reduceLeDiff, Int.reduceToNat, Int.reduceLT, Int.reduceLE, Int.reduceNeg]) | ((with_reducible apply w_condFE); · simp only [shA, eff, Int.reduceEq, Int.reduceAdd, Int.reduceSub, Nat.reduceBEq, Nat.reduceEqDiff, reduceCtorEq, Nat.reduceAdd, Nat.reduceSub, Nat.reduceMul, Nat.reduceLeDiff, Int.reduceToNat, Int.reduceLT, Int.reduceLE, Int.reduceNeg]) | (with_reducible apply q_then) | (with_reducible apply q_blockN) | (with_reducible apply q_blockR) | (with_reducible apply q_thenR) | (with_reducible apply q_thenX) | (with_reducible apply q_blockX) | ((with_reducible apply q_blockY); · rfl))
      (first | (with_reducible apply w_ops) | (with_reducible apply w_opsE))
      repeat ((with_reducible apply w_op); (· rfl); (· simp only [shA, eff, Int.reduceEq, Int.reduceAdd, Int.reduceSub, Nat.reduceBEq, Nat.reduceEqDiff, reduceCtorEq, Nat.reduceAdd, Nat.reduceSub, Nat.reduceMul, Nat.reduceLeDiff, Int.reduceToNat, Int.reduceLT, Int.reduceLE, Int.reduceNeg]; with_reducible rfl); (· simp only [shA, eff, Int.reduceEq, Int.reduceAdd, Int.reduceSub, Nat.reduceBEq, Nat.reduceEqDiff, reduceCtorEq, Nat.reduceAdd, Nat.reduceSub, Nat.reduceMul, Nat.reduceLeDiff, Int.reduceToNat, Int.reduceLT, Int.reduceLE, Int.reduceNeg]; with_reducible rfl))
      (with_reducible apply w_call); (· simp only [shA, eff, Int.reduceEq, Int.reduceAdd, Int.reduceSub, Nat.reduceBEq, Nat.reduceEqDiff, reduceCtorEq, Nat.reduceAdd, Nat.reduceSub, Nat.reduceMul, Nat.reduceLeDiff, Int.reduceToNat, Int.reduceLT, Int.reduceLE, Int.reduceNeg]; with_reducible rfl); (· simp only [shA, eff, Int.reduceEq, Int.reduceAdd, Int.reduceSub, Nat.reduceBEq, Nat.reduceEqDiff, reduceCtorEq, Nat.reduceAdd, Nat.reduceSub, Nat.reduceMul, Nat.reduceLeDiff, Int.reduceToNat, Int.reduceLT, Int.reduceLE, Int.reduceNeg]; with_reducible rfl); (· simp only [shA, eff, Int.reduceEq, Int.reduceAdd, Int.reduceSub, Nat.reduceBEq, Nat.reduceEqDiff, reduceCtorEq, Nat.reduceAdd, Nat.reduceSub, Nat.reduceMul, Nat.reduceLeDiff, Int.reduceToNat, Int.reduceLT, Int.reduceLE, Int.reduceNeg]; with_reducible rfl); (· simp only [shA, eff, Int.reduceEq, Int.reduceAdd, Int.reduceSub, Nat.reduceBEq, Nat.reduceEqDiff, reduceCtorEq, Nat.reduceAdd, Nat.reduceSub, Nat.reduceMul, Nat.reduceLeDiff, Int.reduceToNat, Int.reduceLT, Int.reduceLE, Int.reduceNeg]; with_reducible rfl); (· exact pickI_ok g x.n 20 hn (by decide)); (· rfl); (· simp only [shA, eff, Int.reduceEq, Int.reduceAdd, Int.reduceSub, Nat.reduceBEq, Nat.reduceEqDiff, reduceCtorEq, Nat.reduceAdd, Nat.reduceSub, Nat.reduceMul, Nat.reduceLeDiff, Int.reduceToNat, Int.reduceLT, Int.reduceLE, Int.reduceNeg]; with_reducible rfl); (· simp only [shA, eff, Int.reduceEq, Int.reduceAdd, Int.reduceSub, Nat.reduceBEq, Nat.reduceEqDiff, reduceCtorEq, Nat.reduceAdd, Nat.reduceSub, Nat.reduceMul, Nat.reduceLeDiff, Int.reduceToNat, Int.reduceLT, Int.reduceLE, Int.reduceNeg]; with_reducible rfl); (· simp only [shA, eff, Int.reduceEq, Int.reduceAdd, Int.reduceSub, Nat.reduceBEq, Nat.reduceEqDiff, reduceCtorEq, Nat.reduceAdd, Nat.reduceSub, Nat.reduceMul, Nat.reduceLeDiff, Int.reduceToNat, Int.reduceLT, Int.reduceLE, Int.reduceNeg]; with_reducible rfl)
      repeat ((with_reducible apply w_op); (· rfl); (· simp only [shA, eff, Int.reduceEq, Int.reduceAdd, Int.reduceSub, Nat.reduceBEq, Nat.reduceEqDiff, reduceCtorEq, Nat.reduceAdd, Nat.reduceSub, Nat.reduceMul, Nat.reduceLeDiff, Int.reduceToNat, Int.reduceLT, Int.reduceLE, Int.reduceNeg, w20]; with_reducible rfl); (· simp only [shA, eff, Int.reduceEq, Int.reduceAdd, Int.reduceSub, Nat.reduceBEq, Nat.reduceEqDiff, reduceCtorEq, Nat.reduceAdd, Nat.reduceSub, Nat.reduceMul, Nat.reduceLeDiff, Int.reduceToNat, Int.reduceLT, Int.reduceLE, Int.reduceNeg, w20]; with_reducible rfl))
      apply w_done
      repeat (first | (with_reducible apply w_unr) | (with_reducible apply w_assoc) | (with_reducible apply w_skip) | (with_reducible apply w_ret) | (with_reducible apply w_retE) | (with_reducible apply w_skipE) | (with_reducible apply w_exit) | (with_reducible apply w_exitE) | (with_reducible apply w_block) | (with_reducible apply w_blockE) | ((with_reducible apply w_reg); · simp only [shA, eff, Int.reduceEq, Int.reduceAdd, Int.reduceSub, Nat.reduceBEq, Nat.reduceEqDiff, reduceCtorEq, Nat.reduceAdd, Nat.reduceSub, Nat.reduceMul, Nat.reduceLeDiff, Int.reduceToNat, Int.reduceLT, Int.reduceLE, Int.reduceNeg]; with_reducible rfl) | ((with_reducible apply w_regE); · simp only [shA, eff, Int.reduceEq, Int.reduceAdd, Int.reduceSub, Nat.reduceBEq, Nat.reduceEqDiff, reduceCtorEq, Nat.reduceAdd, Nat.reduceSub, Nat.reduceMul, Nat.reduceLeDiff, Int.reduceToNat, Int.reduceLT, Int.reduceLE, Int.reduceNeg]; with_reducible rfl) | ((with_reducible apply w_condT); · simp only [shA, eff, Int.reduceEq, Int.reduceAdd, Int.reduceSub, Nat.reduceBEq, Nat.reduceEqDiff, reduceCtorEq, Nat.reduceAdd, Nat.reduceSub, Nat.reduceMul, Nat.reduceLeDiff, Int.reduceToNat, Int.reduceLT, Int.reduceLE, Int.reduceNeg]) | ((with_reducible apply w_condF); · simp only [shA, eff, Int.reduceEq, Int.reduceAdd, Int.reduceSub, Nat.reduceBEq, Nat.reduceEqDiff, reduceCtorEq, Nat.reduceAdd, Nat.reduceSub, Nat.reduceMul, Nat.reduceLeDiff, Int.reduceToNat, Int.reduceLT, Int.reduceLE, Int.reduceNeg]) | ((with_reducible apply w_condTE); · simp only [shA, eff, Int.reduceEq, Int.reduceAdd, Int.reduceSub, Nat.reduceBEq, Nat.reduceEqDiff, reduceCtorEq, Nat.reduceAdd, Nat.reduceSub, Nat.reduceMul, Nat.reduceLeDiff, Int.reduceToNat, Int.reduceLT, Int.reduceLE, Int.reduceNeg]) | ((with_reducible apply w_condFE); · simp only [shA, eff, Int.reduceEq, Int.reduceAdd, Int.reduceSub, Nat.reduceBEq, Nat.reduceEqDiff, reduceCtorEq, Nat.reduceAdd, Nat.reduceSub, Nat.reduceMul, Nat.reduceLeDiff, Int.reduceToNat, Int.reduceLT, Int.reduceLE, Int.reduceNeg]) | (with_reducible apply q_then) | (with_reducible apply q_blockN) | (with_reducible apply q_blockR) | (with_reducible apply q_thenR) | (with_reducible apply q_thenX) | (with_reducible apply q_blockX) | ((with_reducible apply q_blockY); · rfl))
      simp [Post0, ansW, resT, SRes.get, ES.fs, ES.kill, has, drp, seqO, nbeq, lk, I, S, TV.ids3, TV.ids2, TV.ids1, TV.ids0, TV.ren3, TV.ren2, TV.ren1, TV.ren0, F_morainelaw03_ValOf, nv, V.k, V.n, V.s]
    · have dz := decide_F hz
      rw [if_neg (fun h => hz h.2)]
      repeat ((with_reducible apply w_op); (· rfl); (· simp only [shA, eff, Int.reduceEq, Int.reduceAdd, Int.reduceSub, Nat.reduceBEq, Nat.reduceEqDiff, reduceCtorEq, Nat.reduceAdd, Nat.reduceSub, Nat.reduceMul, Nat.reduceLeDiff, Int.reduceToNat, Int.reduceLT, Int.reduceLE, Int.reduceNeg, d3, hq, wq]; with_reducible rfl); (· simp only [shA, eff, Int.reduceEq, Int.reduceAdd, Int.reduceSub, Nat.reduceBEq, Nat.reduceEqDiff, reduceCtorEq, Nat.reduceAdd, Nat.reduceSub, Nat.reduceMul, Nat.reduceLeDiff, Int.reduceToNat, Int.reduceLT, Int.reduceLE, Int.reduceNeg, d3, hq, wq]; with_reducible rfl))
      (with_reducible apply w_callg); (· simp only [shA, eff, Int.reduceEq, Int.reduceAdd, Int.reduceSub, Nat.reduceBEq, Nat.reduceEqDiff, reduceCtorEq, Nat.reduceAdd, Nat.reduceSub, Nat.reduceMul, Nat.reduceLeDiff, Int.reduceToNat, Int.reduceLT, Int.reduceLE, Int.reduceNeg]); (· simp only [shA, eff, Int.reduceEq, Int.reduceAdd, Int.reduceSub, Nat.reduceBEq, Nat.reduceEqDiff, reduceCtorEq, Nat.reduceAdd, Nat.reduceSub, Nat.reduceMul, Nat.reduceLeDiff, Int.reduceToNat, Int.reduceLT, Int.reduceLE, Int.reduceNeg]; with_reducible rfl); (· simp only [shA, eff, Int.reduceEq, Int.reduceAdd, Int.reduceSub, Nat.reduceBEq, Nat.reduceEqDiff, reduceCtorEq, Nat.reduceAdd, Nat.reduceSub, Nat.reduceMul, Nat.reduceLeDiff, Int.reduceToNat, Int.reduceLT, Int.reduceLE, Int.reduceNeg]; with_reducible rfl); (· simp only [shA, eff, Int.reduceEq, Int.reduceAdd, Int.reduceSub, Nat.reduceBEq, Nat.reduceEqDiff, reduceCtorEq, Nat.reduceAdd, Nat.reduceSub, Nat.reduceMul, Nat.reduceLeDiff, Int.reduceToNat, Int.reduceLT, Int.reduceLE, Int.reduceNeg]; with_reducible rfl); (· simp only [shA, eff, Int.reduceEq, Int.reduceAdd, Int.reduceSub, Nat.reduceBEq, Nat.reduceEqDiff, reduceCtorEq, Nat.reduceAdd, Nat.reduceSub, Nat.reduceMul, Nat.reduceLeDiff, Int.reduceToNat, Int.reduceLT, Int.reduceLE, Int.reduceNeg]; with_reducible rfl); (· exact pickI_ok g (x.k.tdiv 7) 4 ht (by decide)); (· rfl); (· simp only [shA, eff, Int.reduceEq, Int.reduceAdd, Int.reduceSub, Nat.reduceBEq, Nat.reduceEqDiff, reduceCtorEq, Nat.reduceAdd, Nat.reduceSub, Nat.reduceMul, Nat.reduceLeDiff, Int.reduceToNat, Int.reduceLT, Int.reduceLE, Int.reduceNeg]; with_reducible rfl); (· simp only [shA, eff, Int.reduceEq, Int.reduceAdd, Int.reduceSub, Nat.reduceBEq, Nat.reduceEqDiff, reduceCtorEq, Nat.reduceAdd, Nat.reduceSub, Nat.reduceMul, Nat.reduceLeDiff, Int.reduceToNat, Int.reduceLT, Int.reduceLE, Int.reduceNeg]; with_reducible rfl); (· simp only [shA, eff, Int.reduceEq, Int.reduceAdd, Int.reduceSub, Nat.reduceBEq, Nat.reduceEqDiff, reduceCtorEq, Nat.reduceAdd, Nat.reduceSub, Nat.reduceMul, Nat.reduceLeDiff, Int.reduceToNat, Int.reduceLT, Int.reduceLE, Int.reduceNeg]; with_reducible rfl)
      repeat ((with_reducible apply w_op); (· rfl); (· simp only [shA, eff, Int.reduceEq, Int.reduceAdd, Int.reduceSub, Nat.reduceBEq, Nat.reduceEqDiff, reduceCtorEq, Nat.reduceAdd, Nat.reduceSub, Nat.reduceMul, Nat.reduceLeDiff, Int.reduceToNat, Int.reduceLT, Int.reduceLE, Int.reduceNeg, dz]; with_reducible rfl); (· simp only [shA, eff, Int.reduceEq, Int.reduceAdd, Int.reduceSub, Nat.reduceBEq, Nat.reduceEqDiff, reduceCtorEq, Nat.reduceAdd, Nat.reduceSub, Nat.reduceMul, Nat.reduceLeDiff, Int.reduceToNat, Int.reduceLT, Int.reduceLE, Int.reduceNeg, dz]; with_reducible rfl))
      apply w_done
      repeat (first | (with_reducible apply w_unr) | (with_reducible apply w_assoc) | (with_reducible apply w_skip) | (with_reducible apply w_ret) | (with_reducible apply w_retE) | (with_reducible apply w_skipE) | (with_reducible apply w_exit) | (with_reducible apply w_exitE) | (with_reducible apply w_block) | (with_reducible apply w_blockE) | ((with_reducible apply w_reg); · simp only [shA, eff, Int.reduceEq, Int.reduceAdd, Int.reduceSub, Nat.reduceBEq, Nat.reduceEqDiff, reduceCtorEq, Nat.reduceAdd, Nat.reduceSub, Nat.reduceMul, Nat.reduceLeDiff, Int.reduceToNat, Int.reduceLT, Int.reduceLE, Int.reduceNeg]; with_reducible rfl) | ((with_reducible apply w_regE); · simp only [shA, eff, Int.reduceEq, Int.reduceAdd, Int.reduceSub, Nat.reduceBEq, Nat.reduceEqDiff, reduceCtorEq, Nat.reduceAdd, Nat.reduceSub, Nat.reduceMul, Nat.reduceLeDiff, Int.reduceToNat, Int.reduceLT, Int.reduceLE, Int.reduceNeg]; with_reducible rfl) | ((with_reducible apply w_condT); · simp only [shA, eff, Int.reduceEq, Int.reduceAdd, Int.reduceSub, Nat.reduceBEq, Nat.reduceEqDiff, reduceCtorEq, Nat.reduceAdd, Nat.reduceSub, Nat.reduceMul, Nat.reduceLeDiff, Int.reduceToNat, Int.reduceLT, Int.reduceLE, Int.reduceNeg]) | ((with_reducible apply w_condF); · simp only [shA, eff, Int.reduceEq, Int.reduceAdd, Int.reduceSub, Nat.reduceBEq, Nat.reduceEqDiff, reduceCtorEq, Nat.reduceAdd, Nat.reduceSub, Nat.reduceMul, Nat.reduceLeDiff, Int.reduceToNat, Int.reduceLT, Int.reduceLE, Int.reduceNeg]) | ((with_reducible apply w_condTE); · simp only [shA, eff, Int.reduceEq, Int.reduceAdd, Int.reduceSub, Nat.reduceBEq, Nat.reduceEqDiff, reduceCtorEq, Nat.reduceAdd, Nat.reduceSub, Nat.reduceMul, Nat.reduceLeDiff, Int.reduceToNat, Int.reduceLT, Int.reduceLE, Int.reduceNeg]) | ((with_reducible apply w_condFE); · simp only [shA, eff, Int.reduceEq, Int.reduceAdd, Int.reduceSub, Nat.reduceBEq, Nat.reduceEqDiff, reduceCtorEq, Nat.reduceAdd, Nat.reduceSub, Nat.reduceMul, Nat.reduceLeDiff, Int.reduceToNat, Int.reduceLT, Int.reduceLE, Int.reduceNeg]) | (with_reducible apply q_then) | (with_reducible apply q_blockN) | (with_reducible apply q_blockR) | (with_reducible apply q_thenR) | (with_reducible apply q_thenX) | (with_reducible apply q_blockX) | ((with_reducible apply q_blockY); · rfl))
      simp [Post0, ansW, resT, SRes.get, ES.fs, ES.kill, has, drp, seqO, nbeq, lk, I, S, TV.ids3, TV.ids2, TV.ids1, TV.ids0, TV.ren3, TV.ren2, TV.ren1, TV.ren0, F_morainelaw03_ValOf, nv]
  · have d3 := decide_F h3
    rw [if_neg (fun h => h3 h.1)]
    repeat ((with_reducible apply w_op); (· rfl); (· simp only [shA, eff, Int.reduceEq, Int.reduceAdd, Int.reduceSub, Nat.reduceBEq, Nat.reduceEqDiff, reduceCtorEq, Nat.reduceAdd, Nat.reduceSub, Nat.reduceMul, Nat.reduceLeDiff, Int.reduceToNat, Int.reduceLT, Int.reduceLE, Int.reduceNeg, d3]; with_reducible rfl); (· simp only [shA, eff, Int.reduceEq, Int.reduceAdd, Int.reduceSub, Nat.reduceBEq, Nat.reduceEqDiff, reduceCtorEq, Nat.reduceAdd, Nat.reduceSub, Nat.reduceMul, Nat.reduceLeDiff, Int.reduceToNat, Int.reduceLT, Int.reduceLE, Int.reduceNeg, d3]; with_reducible rfl))
    (with_reducible apply w_skipc); (· simp only [shA, eff, Int.reduceEq, Int.reduceAdd, Int.reduceSub, Nat.reduceBEq, Nat.reduceEqDiff, reduceCtorEq, Nat.reduceAdd, Nat.reduceSub, Nat.reduceMul, Nat.reduceLeDiff, Int.reduceToNat, Int.reduceLT, Int.reduceLE, Int.reduceNeg]); (· simp only [shA, eff, Int.reduceEq, Int.reduceAdd, Int.reduceSub, Nat.reduceBEq, Nat.reduceEqDiff, reduceCtorEq, Nat.reduceAdd, Nat.reduceSub, Nat.reduceMul, Nat.reduceLeDiff, Int.reduceToNat, Int.reduceLT, Int.reduceLE, Int.reduceNeg]; with_reducible rfl)
    repeat ((with_reducible apply w_op); (· rfl); (· simp only [shA, eff, Int.reduceEq, Int.reduceAdd, Int.reduceSub, Nat.reduceBEq, Nat.reduceEqDiff, reduceCtorEq, Nat.reduceAdd, Nat.reduceSub, Nat.reduceMul, Nat.reduceLeDiff, Int.reduceToNat, Int.reduceLT, Int.reduceLE, Int.reduceNeg]; with_reducible rfl); (· simp only [shA, eff, Int.reduceEq, Int.reduceAdd, Int.reduceSub, Nat.reduceBEq, Nat.reduceEqDiff, reduceCtorEq, Nat.reduceAdd, Nat.reduceSub, Nat.reduceMul, Nat.reduceLeDiff, Int.reduceToNat, Int.reduceLT, Int.reduceLE, Int.reduceNeg]; with_reducible rfl))
    apply w_done
    repeat (first | (with_reducible apply w_unr) | (with_reducible apply w_assoc) | (with_reducible apply w_skip) | (with_reducible apply w_ret) | (with_reducible apply w_retE) | (with_reducible apply w_skipE) | (with_reducible apply w_exit) | (with_reducible apply w_exitE) | (with_reducible apply w_block) | (with_reducible apply w_blockE) | ((with_reducible apply w_reg); · simp only [shA, eff, Int.reduceEq, Int.reduceAdd, Int.reduceSub, Nat.reduceBEq, Nat.reduceEqDiff, reduceCtorEq, Nat.reduceAdd, Nat.reduceSub, Nat.reduceMul, Nat.reduceLeDiff, Int.reduceToNat, Int.reduceLT, Int.reduceLE, Int.reduceNeg]; with_reducible rfl) | ((with_reducible apply w_regE); · simp only [shA, eff, Int.reduceEq, Int.reduceAdd, Int.reduceSub, Nat.reduceBEq, Nat.reduceEqDiff, reduceCtorEq, Nat.reduceAdd, Nat.reduceSub, Nat.reduceMul, Nat.reduceLeDiff, Int.reduceToNat, Int.reduceLT, Int.reduceLE, Int.reduceNeg]; with_reducible rfl) | ((with_reducible apply w_condT); · simp only [shA, eff, Int.reduceEq, Int.reduceAdd, Int.reduceSub, Nat.reduceBEq, Nat.reduceEqDiff, reduceCtorEq, Nat.reduceAdd, Nat.reduceSub, Nat.reduceMul, Nat.reduceLeDiff, Int.reduceToNat, Int.reduceLT, Int.reduceLE, Int.reduceNeg]) | ((with_reducible apply w_condF); · simp only [shA, eff, Int.reduceEq, Int.reduceAdd, Int.reduceSub, Nat.reduceBEq, Nat.reduceEqDiff, reduceCtorEq, Nat.reduceAdd, Nat.reduceSub, Nat.reduceMul, Nat.reduceLeDiff, Int.reduceToNat, Int.reduceLT, Int.reduceLE, Int.reduceNeg]) | ((with_reducible apply w_condTE); · simp only [shA, eff, Int.reduceEq, Int.reduceAdd, Int.reduceSub, Nat.reduceBEq, Nat.reduceEqDiff, reduceCtorEq, Nat.reduceAdd, Nat.reduceSub, Nat.reduceMul, Nat.reduceLeDiff, Int.reduceToNat, Int.reduceLT, Int.reduceLE, Int.reduceNeg]) | ((with_reducible apply w_condFE); · simp only [shA, eff, Int.reduceEq, Int.reduceAdd, Int.reduceSub, Nat.reduceBEq, Nat.reduceEqDiff, reduceCtorEq, Nat.reduceAdd, Nat.reduceSub, Nat.reduceMul, Nat.reduceLeDiff, Int.reduceToNat, Int.reduceLT, Int.reduceLE, Int.reduceNeg]) | (with_reducible apply q_then) | (with_reducible apply q_blockN) | (with_reducible apply q_blockR) | (with_reducible apply q_thenR) | (with_reducible apply q_thenX) | (with_reducible apply q_blockX) | ((with_reducible apply q_blockY); · rfl))
    simp [Post0, ansW, resT, SRes.get, ES.fs, ES.kill, has, drp, seqO, nbeq, lk, I, S, TV.ids3, TV.ids2, TV.ids1, TV.ids0, TV.ren3, TV.ren2, TV.ren1, TV.ren0, F_morainelaw03_ValOf, nv]
end Go.Proofs.YtdlolkogifigpaaDoor
end

section
/- Sh: what is to be shown of code, reckoned by rewriting. No statement of the program is proved here. -/
namespace Go.Sh
open Go Go.RowKit
/-- By a truth value. -/
def boolW (t : Bool) (A B : Prop) : Prop := (t = true → A) ∧ (t = false → B)
def boolK (x : Option TV) (A B : Prop) : Prop := match x with
  | some (.pv (.v (.bool t))) => boolW t A B
  | _ => False
/-- By a slot that guards: it is known behind it. -/
def guardW (x : Option TV) (want : Bool) (gs : Nat) (A B : ES → Prop) (s : ES) : Prop := match x with
  | some (.pv (.v (.bool t))) => boolW t ((if want then A else B) (s.put (some gs) (.pv (.v (.bool true))))) ((if want then B else A) (s.put (some gs) (.pv (.v (.bool false)))))
  | some (.pv (.v _)) => B s
  | _ => False
def guardK (t : Bool) (want : Bool) (gs : Nat) (A B : ES → Prop) (s : ES) : Prop := boolW t ((if want then A else B) (s.put (some gs) (.pv (.v (.bool true))))) ((if want then B else A) (s.put (some gs) (.pv (.v (.bool false)))))
section
variable {P : Program} {g : Glob} {a b c : SCode} {Q : SExit → ES → Prop} {K : ES → Prop} {s s' : ES} {l : List SOper} {A B : Prop} {o : SOper}
@[congr] theorem boolW_congr {t t' : Bool} (h : t = t') : boolW t A B = boolW t' A B := by rw [h]
@[congr] theorem boolK_congr {t t' : Option TV} (h : t = t') : boolK t A B = boolK t' A B := by rw [h]
@[congr] theorem guardW_congr {t t' : Option TV} {w : Bool} {gs : Nat} {A B : ES → Prop} (h : t = t') : guardW t w gs A B s = guardW t' w gs A B s := by rw [h]
@[congr] theorem guardK_congr {t t' : Bool} {w : Bool} {gs : Nat} {A B : ES → Prop} (h : t = t') : guardK t w gs A B s = guardK t' w gs A B s := by rw [h]
@[congr] theorem swp_congr (h : s = s') : swp P g a Q s = swp P g a Q s' := by rw [h]
@[congr] theorem opsW_congr (h : s = s') : opsW P g l K s = opsW P g l K s' := by rw [h]
@[congr] theorem stepW_congr {e e' : Option (TV × Upd)} (h : e = e') : stepW P o K s e = stepW P o K s e' := by rw [h]
@[congr] theorem thenW_congr {e : SExit} (h : s = s') : thenW K Q e s = thenW K Q e s' := by rw [h]
@[congr] theorem blockW_congr {e : SExit} {id : Nat} (h : s = s') : blockW id Q e s = blockW id Q e s' := by rw [h]
theorem bW_T : boolW true A B = A := by simp [boolW]
theorem bW_F : boolW false A B = B := by simp [boolW]
theorem bW_d {p : Prop} [Decidable p] : boolW (decide p) A B = ((p → A) ∧ (¬ p → B)) := by simp [boolW]
theorem bW_n {t : Bool} : boolW (!t) A B = boolW t B A := by cases t <;> simp [boolW]
theorem bW_a {t u : Bool} : boolW (t && u) A B = boolW t (boolW u A B) B := by cases t <;> simp [boolW]
theorem bW_o {t u : Bool} : boolW (t || u) A B = boolW t A (boolW u A B) := by cases t <;> simp [boolW]
theorem bK {t : Bool} : boolK (some (.pv (.v (.bool t)))) A B = boolW t A B := rfl
theorem gW {t w : Bool} {gs : Nat} {A B : ES → Prop} : guardW (some (.pv (.v (.bool t)))) w gs A B s = guardK t w gs A B s := rfl
theorem gW_u {w : Bool} {gs : Nat} {A B : ES → Prop} : guardW (some (.pv (.v (.nilIface)))) w gs A B s = B s := rfl
theorem gW_i {w : Bool} {k : IntKind} {n : Int} {gs : Nat} {A B : ES → Prop} : guardW (some (.pv (.v (.int k n)))) w gs A B s = B s := rfl
def regK (Q : SExit → ES → Prop) (kill : List Nat) (s : ES) : Prop := Q .normal (s.kill kill)
def skipK (P : Program) (g : Glob) (l : List SOper) (K : ES → Prop) (dst : Option Nat) (s : ES) : Prop := opsW P g l K (s.put dst (.pv (.v undef)))
@[congr] theorem regK_congr {kill : List Nat} (h : s = s') : regK Q kill s = regK Q kill s' := by rw [h]
theorem v_regK {kill : List Nat} : regK Q kill s = Q .normal (s.kill kill) := rfl
theorem v_skipK {dst : Option Nat} : skipK P g l K dst s = opsW P g l K (s.put dst (.pv (.v undef))) := rfl
theorem sv_same {α : Type} {k : Nat} {x : α} : ∀ {l : List (Nat × α)}, lk l k = some x → sv l k x = l
  | [], h => by simp [lk] at h
  | (j, y) :: l, h => by
    simp only [lk] at h
    simp only [sv]
    cases hj : Nat.beq j k with
    | true =>
      rw [hj] at h; simp only [Option.some.injEq] at h
      rw [Nat.eq_of_beq_eq_true hj, h]
    | false => rw [hj] at h; simp only [sv_same h]
theorem put_same {gs : Nat} {x : TV} (h : lk s.t gs = some x) : s.put (some gs) x = s := by
  show ES.mk _ _ _ _ = _
  rw [sv_same h]
theorem boolW_iff {t : Bool} : boolW t A B ↔ (if t then A else B) := by cases t <;> simp [boolW]
theorem v_skip : swp P g .skip Q s = Q .normal s := rfl
theorem v_seq : swp P g (.seq a b) Q s = swp P g a (thenW (swp P g b Q) Q) s := rfl
theorem v_exit {id : Nat} : swp P g (.exit id) Q s = Q (.exit id) s := rfl
theorem v_ret : swp P g .ret Q s = Q .ret s := rfl
theorem v_block {id : Nat} : swp P g (.block id a) Q s = swp P g a (blockW id Q) s := rfl
theorem v_cond {x : Arg} : swp P g (.cond x a b) Q s = boolK (x.get s.fs) (swp P g a Q s) (swp P g b Q s) := by
  show condW x s _ _ = _
  apply propext
  constructor
  · rintro ⟨t, h1, h2⟩
    rw [h1, bK]; exact boolW_iff.2 h2
  · intro h
    unfold boolK at h
    split at h
    · rename_i t ht; exact ⟨t, ht, boolW_iff.1 h⟩
    · exact h.elim
theorem v_reg {n kill : List Nat} : swp P g (.reg [(n, l)] kill) Q s = opsW P g l (regK Q kill) (s.fgt n) := by
  show regW P g _ _ _ _ = _
  simp [regW]; rfl
theorem v_reg2 {n kill : List Nat} {x : List Nat × List SOper} {r : List (List Nat × List SOper)} : swp P g (.reg ((n, l) :: x :: r) kill) Q s = (opsW P g l (regK Q kill) (s.fgt n) ∨ swp P g (.reg (x :: r) kill) Q s) := by
  show regW P g _ _ _ _ = (_ ∨ regW P g _ _ _ _)
  simp [regW]; rfl
theorem v_nil : opsW P g [] K s = K s := rfl
theorem v_op {dst fp : Option Nat} {op : SOp} (h : op.isCall = false) : opsW P g (⟨dst, none, fp, op⟩ :: l) K s = stepW P ⟨dst, none, fp, op⟩ (opsW P g l K) s (effG P noC ⟨dst, none, fp, op⟩ s.fs) := propext (opsW_nc h)
theorem v_guard {dst fp : Option Nat} {op : SOp} {gs : Nat} {want : Bool} : opsW P g (⟨dst, some (gs, want), fp, op⟩ :: l) K s =
    guardW (lk s.t gs) want gs (opsW P g (⟨dst, none, fp, op⟩ :: l) K) (skipK P g l K dst) s := by
  have key : ∀ C, effG P C ⟨dst, some (gs, want), fp, op⟩ s.fs = match lk s.t gs with
    | some (.pv (.v (.bool b))) => if b == want then effG P C ⟨dst, none, fp, op⟩ s.fs else some (.pv (.v undef), .no)
    | some (.pv (.v _)) => some (.pv (.v undef), .no)
    | _ => none := fun C => rfl
  have hA : (∃ C, SoundC P g C ∧ ∃ e, some (TV.pv (.v undef), Upd.no) = some e ∧ opsW P g l K (s.after ⟨dst, some (gs, want), fp, op⟩ e)) = opsW P g l K (s.put dst (.pv (.v undef))) := by
    apply propext
    constructor
    · rintro ⟨C, hC, e, he, hk⟩; cases he; exact hk
    · intro hk; exact ⟨noC, noC_sound P g, _, rfl, hk⟩
  conv => lhs; unfold opsW
  simp only [key]
  unfold guardW
  cases hx : lk s.t gs with
  | none => simp
  | some x =>
    cases x with
    | pv p =>
      cases p with
      | v v =>
        cases v with
        | bool t =>
          simp only []
          cases t
          · cases want
            · simp only [bW_F, if_false, beq_self_eq_true, if_true, put_same hx, Bool.false_eq_true]; rfl
            · simp only [bW_F, if_true, put_same hx, bFT, if_false, Bool.false_eq_true]; exact hA
          · cases want
            · simp only [bW_T, if_false, put_same hx, bTF, Bool.false_eq_true]; exact hA
            · simp only [bW_T, if_true, beq_self_eq_true, put_same hx]; rfl
        | _ => exact hA
      | _ => simp
    | _ => simp
theorem gK_T1 {gs : Nat} {A B : ES → Prop} : guardK true true gs A B s = A (s.put (some gs) (.pv (.v (.bool true)))) := by simp [guardK, bW_T]
theorem gK_T0 {gs : Nat} {A B : ES → Prop} : guardK true false gs A B s = B (s.put (some gs) (.pv (.v (.bool true)))) := by simp [guardK, bW_T]
theorem gK_F1 {gs : Nat} {A B : ES → Prop} : guardK false true gs A B s = B (s.put (some gs) (.pv (.v (.bool false)))) := by simp [guardK, bW_F]
theorem gK_F0 {gs : Nat} {A B : ES → Prop} : guardK false false gs A B s = A (s.put (some gs) (.pv (.v (.bool false)))) := by simp [guardK, bW_F]
theorem gK_d1 {p : Prop} [Decidable p] {gs : Nat} {A B : ES → Prop} : guardK (decide p) true gs A B s = ((p → A (s.put (some gs) (.pv (.v (.bool true))))) ∧ (¬ p → B (s.put (some gs) (.pv (.v (.bool false)))))) := by simp [guardK, bW_d]
theorem gK_d0 {p : Prop} [Decidable p] {gs : Nat} {A B : ES → Prop} : guardK (decide p) false gs A B s = ((p → B (s.put (some gs) (.pv (.v (.bool true))))) ∧ (¬ p → A (s.put (some gs) (.pv (.v (.bool false)))))) := by simp [guardK, bW_d]
theorem gK_n1 {t : Bool} {gs : Nat} {A B : ES → Prop} : guardK (!t) true gs A B s = boolW t (B (s.put (some gs) (.pv (.v (.bool false))))) (A (s.put (some gs) (.pv (.v (.bool true))))) := by simp [guardK, bW_n]
theorem gK_n0 {t : Bool} {gs : Nat} {A B : ES → Prop} : guardK (!t) false gs A B s = boolW t (A (s.put (some gs) (.pv (.v (.bool false))))) (B (s.put (some gs) (.pv (.v (.bool true))))) := by simp [guardK, bW_n]
theorem v_then_n {K : ES → Prop} : thenW K Q .normal s = K s := rfl
theorem v_then_r {K : ES → Prop} : thenW K Q .ret s = Q .ret s := rfl
theorem v_then_x {K : ES → Prop} {id : Nat} : thenW K Q (.exit id) s = Q (.exit id) s := rfl
theorem v_blk_n {id : Nat} : blockW id Q .normal s = Q .normal s := rfl
theorem v_blk_r {id : Nat} : blockW id Q .ret s = Q .ret s := rfl
theorem v_blk_x {id j : Nat} : blockW id Q (.exit j) s = boolW (Nat.beq j id) (Q .normal s) (Q (.exit j) s) := by
  simp only [blockW]
  by_cases h : j = id
  · subst h; simp [Nat.beq_refl, bW_T]
  · rw [if_neg h, beq_false h, bW_F]
theorem s_some {e : TV × Upd} : stepW P o K s (some e) = K (s.after o e) := rfl
theorem s_none : stepW P o K s none = False := rfl
theorem s_ite {c : Prop} [Decidable c] {x : Option (TV × Upd)} : stepW P o K s (if c then x else none) = (c ∧ stepW P o K s x) := by
  by_cases h : c <;> simp [h, stepW]
theorem s_get {α : Type} {l : List α} {k : Nat} {f : α → TV × Upd} : stepW P o K s (Option.map f l[k]?) = (k < l.length ∧ ∀ b, l[k]? = some b → K (s.after o (f b))) := by
  apply propext
  rcases Nat.lt_or_ge k l.length with h | h
  · rw [List.getElem?_eq_getElem h]; simp [stepW, h]
  · rw [List.getElem?_eq_none h]; simp [stepW, Nat.not_lt.2 h]
/-- At a loop's end: a state at its head, nearer its end. -/
def loopK {σ : Type} (st : σ → ES) (μ : σ → Nat) (x : σ) (s : ES) : Prop := ∃ y, μ y < μ x ∧ (st y).Lw s
@[congr] theorem loopK_congr {σ : Type} {st : σ → ES} {μ : σ → Nat} {x : σ} (h : s = s') : loopK st μ x s = loopK st μ x s' := by rw [h]
theorem v_loop {σ : Type} (st : σ → ES) (μ : σ → Nat) (x0 : σ) (h0 : (st x0).Lw s) (hr : ∀ x, swp P g a (thenW (loopK st μ x) Q) (st x)) : swp P g (.loop a) Q s := by
  refine ⟨fun n s => ∃ x, μ x = n ∧ s = st x, μ x0, ⟨st x0, h0, x0, rfl, rfl⟩, ?_⟩
  rintro n s ⟨x, rfl, rfl⟩
  refine swp_mono (hr x) (fun e s he => ?_)
  cases e with
  | normal => obtain ⟨y, h1, h2⟩ := he; exact ⟨μ y, h1, st y, h2, y, rfl, rfl⟩
  | exit id => exact he
  | ret => exact he
theorem loopK_of {σ : Type} {st : σ → ES} {μ : σ → Nat} {x : σ} (y : σ) (h1 : μ y < μ x) (h2 : (st y).Lw s) : loopK st μ x s := ⟨y, h1, h2⟩
theorem lw_of {s0 s : ES} (h1 : leL s0.t s.t) (h2 : leL s0.b s.b) (h3 : leL s0.r s.r) (h4 : leL s0.i s.i) : s0.Lw s := (le_of h1 h2 h3 h4).lw
theorem lw_eq {s0 s : ES} (h : s0 = s) : s0.Lw s := h ▸ .refl _
/-- What a call is handed. -/
def callIn (s : ES) (m : Nat) (xs : List Arg) : Option (List TV × List MO × List Nat) := match seqO (fun x : Arg => x.get s.fs) xs with
  | some args => match seqO (TV.ren2 (rhoIn (handI s.fs m args))) args, seqO (fun d => (s.fs.mo d).bind (MO.ren (rhoIn (handI s.fs m args)))) (handI s.fs m args) with
    | some xs', some os => some (xs', os, handI s.fs m args)
    | _, _ => none
  | none => none
def callOut (s : ES) (dst : Option Nat) (I : List Nat) (y : TV) (os' : List MO) : Option ES := match y.ren3 (rhoOut I (dstId dst)), outs (rhoOut I (dstId dst)) 0 os' with
  | some y', some us => some ((s.upd dst (.mem us)).put dst y')
  | _, _ => none
theorem v_call {dst : Option Nat} {f m : Nat} {xs : List Arg} {xs' : List TV} {I : List Nat} {os os' : List MO} {y : TV} (hx : callIn s m xs = some (xs', os, I)) (hc : SCalls P g f xs' os y os') (hmo : moOk os os' = true) (hs : callOut s dst I y os' = some s') (hk : opsW P g l K s') :
    opsW P g (⟨dst, none, none, .call f m xs⟩ :: l) K s := by
  unfold callIn at hx
  split at hx
  · rename_i args ha
    split at hx
    · rename_i a1 a2 h1 h2
      cases hx
      unfold callOut at hs
      split at hs
      · rename_i y' us h3 h4
        cases hs
        exact w_call ha rfl h1 h2 hc hmo h3 h4 rfl hk
      · cases hs
    · cases hx
  · cases hx
/-- A call of a function value. -/
def callvIn (s : ES) (m : Nat) (x : Arg) (xs : List Arg) : Option (Nat × List TV × List MO × List Nat) := match (x.get s.fs).bind TV.callee, seqO (fun x : Arg => x.get s.fs) xs with
  | some (f, fa, fb), some vs => match seqO (TV.ren2 (rhoIn (handI s.fs m (fa ++ vs ++ fb)))) (fa ++ vs ++ fb), seqO (fun d => (s.fs.mo d).bind (MO.ren (rhoIn (handI s.fs m (fa ++ vs ++ fb))))) (handI s.fs m (fa ++ vs ++ fb)) with
    | some xs', some os => some (f, xs', os, handI s.fs m (fa ++ vs ++ fb))
    | _, _ => none
  | _, _ => none
theorem v_callv {dst : Option Nat} {f m : Nat} {x : Arg} {xs : List Arg} {xs' : List TV} {I : List Nat} {os os' : List MO} {y : TV} (hx : callvIn s m x xs = some (f, xs', os, I)) (hc : SCalls P g f xs' os y os') (hmo : moOk os os' = true) (hs : callOut s dst I y os' = some s') (hk : opsW P g l K s') :
    opsW P g (⟨dst, none, none, .callv x m xs⟩ :: l) K s := by
  unfold callvIn at hx
  split at hx
  · rename_i f' fa fb vs h0 h1
    split at hx
    · rename_i a1 a2 h3 h4
      cases hx
      unfold callOut at hs
      split at hs
      · rename_i y' us h5 h6
        cases hs
        refine opsW_callv ?_
        rw [h0, h1]
        exact ⟨_, rfl, xs', os, h3, h4, y, os', hc, hmo, y', us, h5, h6, hk⟩
      · cases hs
    · cases hx
  · cases hx
end
end Go.Sh
namespace Go.Sh
open Go Go.RowKit
theorem nc_mov (x : Arg) : (SOp.mov x).isCall = false := rfl
theorem nc_pick (c a b : Arg) : (SOp.pick c a b).isCall = false := rfl
theorem nc_bin (op : BinOp) (t : TypeId) (x y : Arg) : (SOp.bin op t x y).isCall = false := rfl
theorem nc_un (op : UnOp) (x : Arg) : (SOp.un op x).isCall = false := rfl
theorem nc_cvi (k : IntKind) (x : Arg) : (SOp.cvi k x).isCall = false := rfl
theorem nc_cvs (x : Arg) : (SOp.cvs x).isCall = false := rfl
theorem nc_b2s (x : Arg) : (SOp.b2s x).isCall = false := rfl
theorem nc_imm (mx : Bool) (x y : Arg) : (SOp.imm mx x y).isCall = false := rfl
theorem nc_sidx (x i : Arg) : (SOp.sidx x i).isCall = false := rfl
theorem nc_ssub (x : Arg) (lo hi : Option Arg) : (SOp.ssub x lo hi).isCall = false := rfl
theorem nc_slen (x : Arg) : (SOp.slen x).isCall = false := rfl
theorem nc_new (z : List Value) : (SOp.new z).isCall = false := rfl
theorem nc_box (x : Arg) : (SOp.box x).isCall = false := rfl
theorem nc_build (z : List Value) (ps : List (Nat × Nat × Arg)) : (SOp.build z ps).isCall = false := rfl
theorem nc_bsl (W : Nat) (xs : List Arg) : (SOp.bsl W xs).isCall = false := rfl
theorem nc_fld (a : Bool) (o n : Nat) (x : Arg) : (SOp.fld a o n x).isCall = false := rfl
theorem nc_fldA (o : Nat) (x : Arg) : (SOp.fldA o x).isCall = false := rfl
theorem nc_ld (a : Bool) (n : Nat) (x : Arg) : (SOp.ld a n x).isCall = false := rfl
theorem nc_st (n : Nat) (x y : Arg) : (SOp.st n x y).isCall = false := rfl
theorem nc_len (x : Arg) : (SOp.len x).isCall = false := rfl
theorem nc_idxA (W : Nat) (x i : Arg) : (SOp.idxA W x i).isCall = false := rfl
theorem nc_sub (W : Nat) (x : Arg) (lo hi : Option Arg) : (SOp.sub W x lo hi).isCall = false := rfl
theorem nc_app (e W n : Nat) (x y : Arg) : (SOp.app e W n x y).isCall = false := rfl
theorem nc_appS (e n : Nat) (x y : Arg) : (SOp.appS e n x y).isCall = false := rfl
theorem nc_appN (e W n : Nat) (x y : Arg) : (SOp.appN e W n x y).isCall = false := rfl
theorem nc_appNS (e n : Nat) (x y : Arg) : (SOp.appNS e n x y).isCall = false := rfl
theorem nc_ext (x : Arg) (i : Nat) : (SOp.ext x i).isCall = false := rfl
theorem nc_nchk (x : Arg) : (SOp.nchk x).isCall = false := rfl
theorem nc_mkf (f : Fn) (a b : List Arg) : (SOp.mkf f a b).isCall = false := rfl
theorem nc_rng (x : Arg) : (SOp.rng x).isCall = false := rfl
theorem nc_nxt (x : Arg) : (SOp.nxt x).isCall = false := rfl
theorem nc_mks (n : Nat) (z : List Value) (x : Arg) : (SOp.mks n z x).isCall = false := rfl
section
variable (P : Program) (t : TypeId) (k : IntKind) (a b : Int) (x y : ByteArray)
theorem bin_quoI : scal P (do eqGuard .quo t (.const (.int k a)) (.const (.int k b)) (.int k a) (.int k b); binOp .quo t (.int k a) (.int k b)) = if b ≠ 0 then some (.pv (.v (.int k (k.wrap (a.tdiv b)))), .no) else none := by
  by_cases hb : b ≠ 0
  · rw [if_pos hb]; exact bin_quo P t k a b hb
  · have : b = 0 := by omega
    subst this; rw [if_neg (by simp)]; simp [scal, eqGuard, binOp, Op.intDiv]; rfl
theorem bin_remI : scal P (do eqGuard .rem t (.const (.int k a)) (.const (.int k b)) (.int k a) (.int k b); binOp .rem t (.int k a) (.int k b)) = if b ≠ 0 then some (.pv (.v (.int k (a.tmod b))), .no) else none := by
  by_cases hb : b ≠ 0
  · rw [if_pos hb]; exact bin_rem P t k a b hb
  · have : b = 0 := by omega
    subst this; rw [if_neg (by simp)]; simp [scal, eqGuard, binOp, Op.intDiv]; rfl
theorem sbin_addI : scal P (do eqGuard .add t (.const (.string x)) (.const (.string y)) (.string x) (.string y); binOp .add t (.string x) (.string y)) = if x.size + y.size ≤ 9223372036854775807 then some (.pv (.v (.string (x ++ y))), .no) else none := by
  by_cases hb : x.size + y.size ≤ 9223372036854775807
  · rw [if_pos hb]; exact sbin_add P t x y hb
  · rw [if_neg hb]
    have hm : IntKind.i64.max = 9223372036854775807 := by rfl
    have h' : (((x.size + y.size : Nat) : Int) > IntKind.i64.max) := by rw [hm]; omega
    simp only [scal, eqGuard, binOp, Op.stringOp, h', if_true]; rfl
end
end Go.Sh
namespace Go.Sh
open Go Go.RowKit
def nilT : TV := .pv (.v (.slice none 0 0))
/-- A nil slice in a slot, or in a variable's cell, is one's own. -/
def ES.adT (s : ES) (k d e W : Nat) : ES := ⟨sv (s.fgt [d]).t k (.own d W []), (s.fgt [d]).b, sv (s.fgt [d]).r d (e, W, 0), (s.fgt [d]).i⟩
def ES.adB (s : ES) (x : Nat) (cs : List TV) (j d e W : Nat) : ES := ⟨(s.fgt [d]).t, sv (s.fgt [d]).b x (cs.set j (.own d W [])), sv (s.fgt [d]).r d (e, W, 0), (s.fgt [d]).i⟩
theorem own_nil {w : World} {E : Env} {r : Rows} {d e W : Nat} {v : Value} (hr : r d = some (e, W, 0)) (hg : E.γ d = none) (h : RelT w E r nilT v) : RelT w E r (.own d W []) v := by
  have hv : v = .slice none 0 0 := val_rel h rfl
  subst hv
  refine .own d W [] _ ?_ (fun e' W' n hn => ?_)
  · exact .sl W [] 0 0 0 none (fun _ _ => undef) (by simp) (by simp) (by simp) (by simp) (by simp) (by simp)
  · rw [hr] at hn; cases hn
    exact ⟨Nat.le_refl _, fun _ => ⟨rfl, by rw [hg]; rfl⟩⟩
section
variable {B : Base} {s : FS} {a : Act} {w : World} {E : Env}
theorem Sim.reT (h : Sim B s a w E) {k : Nat} {x y : TV} (hk : s.t k = some x) (hy : ∀ v, RelT w E s.r x v → RelT w E s.r y v) : Sim B (s.setT k y) a w E := by
  refine ⟨h.defers, h.size, fun j z hz => ?_, h.mem, h.itr, h.ii⟩
  rcases setF_inv hz with ⟨rfl, rfl⟩ | ⟨hj, hz⟩
  · exact ⟨(h.tmp j x hk).1, hy _ (h.tmp j x hk).2⟩
  · exact h.tmp j z hz
theorem Sim.reB (h : Sim B s a w E) {k : Nat} {cs ds : List TV} (hk : s.b k = some cs) (hy : ∀ (j : Nat) d, ds[j]? = some d → ∃ c, cs[j]? = some c ∧ ∀ v, RelT w E s.r c v → RelT w E s.r d v) : Sim B (s.setB k ds) a w E := by
  refine ⟨h.defers, h.size, h.tmp, ⟨fun d ds' hd => ?_, h.mem.row, fun d d' c c' h1 h2 h3 => ?_, fun d d' c q b cap h1 h2 h3 => ?_, h.mem.rr, h.mem.lt, h.mem.low, h.mem.keep, h.mem.knew, h.mem.pas⟩, h.itr, h.ii⟩
  · rcases setF_inv hd with ⟨rfl, rfl⟩ | ⟨_, hd⟩
    · obtain ⟨h1, h2⟩ := h.mem.box d cs hk
      refine ⟨⟨h1.lt, h1.obj, h1.fz, fun j c hc => ?_, h1.out⟩, h2⟩
      obtain ⟨c0, hc0, hw⟩ := hy j c hc
      obtain ⟨v, q1, q2, q3⟩ := h1.cell j c0 hc0
      exact ⟨v, q1, q2, hw v q3⟩
    · exact h.mem.box d ds' hd
  · have e1 : ∃ c, s.b d = some c := (setF_inv h1).elim (fun h => ⟨cs, h.1 ▸ hk⟩) (fun h => ⟨_, h.2⟩)
    have e2 : ∃ c, s.b d' = some c := (setF_inv h2).elim (fun h => ⟨cs, h.1 ▸ hk⟩) (fun h => ⟨_, h.2⟩)
    obtain ⟨c1, e1⟩ := e1; obtain ⟨c2, e2⟩ := e2
    exact h.mem.bb d d' c1 c2 e1 e2 h3
  · have e1 : ∃ c, s.b d = some c := (setF_inv h1).elim (fun h => ⟨cs, h.1 ▸ hk⟩) (fun h => ⟨_, h.2⟩)
    obtain ⟨c1, e1⟩ := e1
    exact h.mem.br d d' c1 q b cap e1 h2 h3
end
theorem adT_lw {s : ES} {k d e W : Nat} (hd : d < 1000 ∨ 2000 ≤ d) (hk : lk s.t k = some nilT) : (s.adT k d e W).Lw s := by
  intro B a w E hm hN hS
  have h1 := fgt_sound hS [d]
  have hf : Fresh (s.fgt [d]).fs d := fgt_fresh s (by simp)
  obtain ⟨E', e1, e2, e3, h2, h3⟩ := h1.adopt (d := d) (fun ho => by have := ho.1; have := ho.2; omega) hf e W
  refine ⟨E', ?_⟩
  have hk' : (s.fgt [d]).fs.t k = some nilT := by
    show lk ((s.fgt [d]).t) k = _
    simp only [ES.fgt, lk_map, hk]; rfl
  have := h2.reT (k := k) (x := nilT) (y := .own d W []) hk' (fun v hv => own_nil (e := e) (by simp [FS.setR, setF]) e3 hv)
  have he : (s.adT k d e W).fs = ((s.fgt [d]).fs.setR d (e, W, 0)).setT k (.own d W []) := by
    simp only [ES.adT, ES.fs, FS.setR, FS.setT, lk_sv]
  rw [he]; exact this
theorem adB_lw {s : ES} {x j d e W : Nat} {cs : List TV} (hd : d < 1000 ∨ 2000 ≤ d) (hne : x ≠ d) (hk : lk s.b x = some cs) (hc : cs.map (fgt3 [d]) = cs) (hj : cs[j]? = some nilT) : (s.adB x cs j d e W).Lw s := by
  intro B a w E hm hN hS
  have h1 := fgt_sound hS [d]
  have hf : Fresh (s.fgt [d]).fs d := fgt_fresh s (by simp)
  obtain ⟨E', e1, e2, e3, h2, h3⟩ := h1.adopt (d := d) (fun ho => by have := ho.1; have := ho.2; omega) hf e W
  refine ⟨E', ?_⟩
  have hk' : (s.fgt [d]).fs.b x = some cs := by
    rw [fgt_b]
    have : has [d] x = false := by simp only [has]; rw [beq_false (fun h => hne h.symm)]
    rw [this, hk]; simp [hc]
  have := h2.reB (k := x) (cs := cs) (ds := cs.set j (.own d W [])) hk' (fun i c hi => by
    by_cases hij : j = i
    · subst hij
      have hl : j < cs.length := (List.getElem?_eq_some_iff.1 hj).1
      rw [List.getElem?_set_self hl] at hi; cases hi
      exact ⟨nilT, hj, fun v hv => own_nil (e := e) (by simp [FS.setR, setF]) e3 hv⟩
    · rw [List.getElem?_set_ne hij] at hi
      exact ⟨c, hi, fun v hv => hv⟩)
  have he : (s.adB x cs j d e W).fs = ((s.fgt [d]).fs.setR d (e, W, 0)).setB x (cs.set j (.own d W [])) := by
    simp only [ES.adB, ES.fs, FS.setR, FS.setB, lk_sv]
  rw [he]; exact this
end Go.Sh
namespace Go.Sh
open Go
theorem reach_nil {s : FS} {rows : Bool} {n : Nat} {seen : List Nat} : reach s rows n [] seen = seen := by cases n <;> simp [reach]
def reachM (s : FS) (rows : Bool) (n d : Nat) (l seen : List Nat) : Option Nat → Option (List TV) → Option (Nat × Nat × Nat) → List Nat
  | some _, _, _ => reach s rows n l seen
  | none, some cs, _ => reach s rows n (cs.flatMap TV.ids1 ++ l) (seen ++ [d])
  | none, none, some _ => if rows then reach s rows n l (seen ++ [d]) else reach s rows n l seen
  | none, none, none => reach s rows n l seen
theorem reach_cons {s : FS} {rows : Bool} {n d : Nat} {l seen : List Nat} : reach s rows (n + 1) (d :: l) seen = reachM s rows n d l seen (pos seen d) (s.b d) (s.r d) := by
  simp only [reach]
  cases hp : pos seen d with
  | some j => rfl
  | none =>
    cases hb : s.b d with
    | some cs => rfl
    | none =>
      cases hr : s.r d with
      | none => rfl
      | some q => cases rows <;> rfl
theorem reach_m1 {s : FS} {rows : Bool} {n d j : Nat} {l seen : List Nat} {b : Option (List TV)} {r : Option (Nat × Nat × Nat)} : reachM s rows n d l seen (some j) b r = reach s rows n l seen := rfl
theorem reach_m2 {s : FS} {rows : Bool} {n d : Nat} {l seen : List Nat} {cs : List TV} {r : Option (Nat × Nat × Nat)} : reachM s rows n d l seen none (some cs) r = reach s rows n (cs.flatMap TV.ids1 ++ l) (seen ++ [d]) := rfl
theorem reach_m3 {s : FS} {rows : Bool} {n d : Nat} {l seen : List Nat} {q : Nat × Nat × Nat} : reachM s rows n d l seen none none (some q) = if rows then reach s rows n l (seen ++ [d]) else reach s rows n l seen := rfl
theorem reach_m4 {s : FS} {rows : Bool} {n d : Nat} {l seen : List Nat} : reachM s rows n d l seen none none none = reach s rows n l seen := rfl
end Go.Sh
namespace Go.Sh
open Go
section
variable {P : Program} {C : Oracle} {d e W n : Nat} {x y : Arg} {s : FS} {z : List Value}
def appNK (d e W n : Nat) : Option Bool → Option (List (List PV)) → Option (TV × Upd)
  | some true, some es2 => if es2.length * n ≤ 140737488355328 ∧ es2.length ≤ maxLen then some (.own d W es2, .row d (e, W, es2.length)) else none
  | _, _ => none
def appNSK (d e n : Nat) : Option Bool → Option ByteArray → Option (TV × Upd)
  | some true, some b => if b.size * n ≤ 140737488355328 ∧ b.size ≤ maxLen then some (.own d 1 (bytesP b), .row d (e, 1, b.size)) else none
  | _, _ => none
theorem e_appN : eff P C (some d) (.appN e W n x y) s = appNK d e W n ((x.get s).map TV.isNil) ((y.get s).bind (TV.elems W)) := by
  simp only [eff]
  generalize (x.get s).map TV.isNil = a
  generalize (y.get s).bind (TV.elems W) = b
  cases a with
  | none => rfl
  | some a => cases a <;> cases b <;> rfl
theorem e_appN1 {es : List (List PV)} : appNK d e W n (some true) (some es) = if es.length * n ≤ 140737488355328 ∧ es.length ≤ maxLen then some (.own d W es, .row d (e, W, es.length)) else none := rfl
theorem e_appN2 {o : Option (List (List PV))} : appNK d e W n (some false) o = none := by cases o <;> rfl
theorem e_appNS : eff P C (some d) (.appNS e n x y) s = appNSK d e n ((x.get s).map TV.isNil) ((y.get s).bind TV.str) := by
  simp only [eff]
  generalize (x.get s).map TV.isNil = a
  generalize (y.get s).bind TV.str = b
  cases a with
  | none => rfl
  | some a => cases a <;> cases b <;> rfl
theorem e_appNS1 {b : ByteArray} : appNSK d e n (some true) (some b) = if b.size * n ≤ 140737488355328 ∧ b.size ≤ maxLen then some (.own d 1 (bytesP b), .row d (e, 1, b.size)) else none := rfl
theorem e_appNS2 {o : Option ByteArray} : appNSK d e n (some false) o = none := by cases o <;> rfl
def rngK (d : Nat) : Option ByteArray → Option (TV × Upd)
  | some z => some (.it d, .it d (z, 0))
  | none => none
theorem e_rng : eff P C (some d) (.rng x) s = rngK d ((x.get s).bind TV.str) := by
  simp only [eff]
  generalize (x.get s).bind TV.str = b
  cases b <;> rfl
theorem e_rng1 {b : ByteArray} : rngK d (some b) = some (.it d, .it d (b, 0)) := rfl
def mksK (d n : Nat) (z : List Value) : Option TV → Option (TV × Upd)
  | some (.pv (.v (.int .i64 k))) => if 0 ≤ k ∧ n * k ≤ 140737488355328 ∧ k ≤ maxLen then some (.bs d 0 k.toNat k.toNat, .box ((List.replicate k.toNat (z.map fun v => TV.pv (.v v))).flatten)) else none
  | _ => none
theorem e_mks : eff P C (some d) (.mks n z x) s = mksK d n z (x.get s) := by
  simp only [eff]
  generalize x.get s = b
  unfold mksK
  split <;> split <;> simp_all
theorem e_mks1 {k : Int} : mksK d n z (some (.pv (.v (.int .i64 k)))) = if 0 ≤ k ∧ n * k ≤ 140737488355328 ∧ k ≤ maxLen then some (.bs d 0 k.toNat k.toNat, .box ((List.replicate k.toNat (z.map fun v => TV.pv (.v v))).flatten)) else none := rfl
end
end Go.Sh
namespace Go.Sh
open Go Go.RowKit
/-- What is known of a plain value may be made less. -/
def PWk (c d : PV) : Prop := ∀ w K v, RelV w K c v → RelV w K d v
theorem PWk.refl (c : PV) : PWk c c := fun _ _ _ h => h
theorem pwk_nil (W : Nat) : PWk (.v (.slice none 0 0)) (.sl W []) := by
  intro w K v h
  cases h
  exact .sl W [] 0 0 0 none (fun _ _ => undef) (by simp) (by simp) (by simp) (by simp) (by simp) (by simp)
theorem pwk_sl {W : Nat} {es es' : List (List PV)} (hl : es.length = es'.length) (h : ∀ (i : Nat) cs ds, es[i]? = some cs → es'[i]? = some ds → cs.length = ds.length ∧ ∀ (j : Nat) c d, cs[j]? = some c → ds[j]? = some d → PWk c d) : PWk (.sl W es) (.sl W es') := by
  intro w K v hv
  have key : ∀ (i j : Nat) (ds : List PV) (d : PV), es'[i]? = some ds → ds[j]? = some d → ∃ cs c, es[i]? = some cs ∧ cs[j]? = some c ∧ PWk c d := by
    intro i j ds d h1 h2
    have hi : i < es.length := by rw [hl]; exact (List.getElem?_eq_some_iff.1 h1).1
    obtain ⟨h3, h4⟩ := h i _ ds (List.getElem?_eq_getElem hi) h1
    have hj : j < es[i].length := by rw [h3]; exact (List.getElem?_eq_some_iff.1 h2).1
    exact ⟨_, _, List.getElem?_eq_getElem hi, List.getElem?_eq_getElem hj, h4 j _ d (List.getElem?_eq_getElem hj) h2⟩
  cases hv with
  | sl W es b off cap p f hp hcap hmax hW hc hs =>
    rw [hl]
    refine .sl W es' b off cap p f (fun hne => hp (fun h0 => hne (List.eq_nil_of_length_eq_zero (by rw [← hl, h0]; rfl)))) (by omega) hmax (fun ds hds => ?_) (fun i j ds d h1 h2 => ?_) (fun i j ds d h1 h2 => ?_)
    · obtain ⟨i, hi⟩ := List.getElem?_of_mem hds
      have hi' : i < es.length := by rw [hl]; exact (List.getElem?_eq_some_iff.1 hi).1
      rw [← (h i _ ds (List.getElem?_eq_getElem hi') hi).1]
      exact hW _ (List.getElem_mem hi')
    · obtain ⟨cs, c, h3, h4, _⟩ := key i j ds d h1 h2
      exact hc i j cs c h3 h4
    · obtain ⟨cs, c, h3, h4, h5⟩ := key i j ds d h1 h2
      exact h5 _ _ _ (hs i j cs c h3 h4)
theorem wk_pv {c d : PV} (h : PWk c d) : Wk (.pv c) (.pv d) := by
  intro w E r v hv
  cases hv with
  | pv hv => exact .pv (h _ _ _ hv)
theorem wk_own {d W : Nat} {es es' : List (List PV)} (hl : es.length = es'.length) (h : PWk (.sl W es) (.sl W es')) : Wk (.own d W es) (.own d W es') := by
  intro w E r v hv
  cases hv with
  | own d W es v h1 h2 => exact .own d W es' v (h _ _ _ h1) (fun e W' n hn => by rw [← hl]; exact h2 e W' n hn)
theorem reT_lw {s : ES} {k : Nat} {x y : TV} (hk : lk s.t k = some x) (hw : Wk x y) : (⟨sv s.t k y, s.b, s.r, s.i⟩ : ES).Lw s := by
  intro B a w E _ _ hS
  refine ⟨E, ?_⟩
  have := hS.reT (k := k) (x := x) (y := y) hk (fun v hv => hw _ _ _ _ hv)
  have he : (⟨sv s.t k y, s.b, s.r, s.i⟩ : ES).fs = s.fs.setT k y := by simp only [ES.fs, FS.setT, lk_sv]
  rw [he]; exact this
theorem reB_lw {s : ES} {k : Nat} {cs ds : List TV} (hk : lk s.b k = some cs) (hl : cs.length = ds.length) (hw : ∀ (j : Nat) c d, cs[j]? = some c → ds[j]? = some d → Wk c d) : (⟨s.t, sv s.b k ds, s.r, s.i⟩ : ES).Lw s := by
  intro B a w E _ _ hS
  refine ⟨E, ?_⟩
  have := hS.reB (k := k) (cs := cs) (ds := ds) hk (fun j d hd => by
    have hj : j < cs.length := by rw [hl]; exact (List.getElem?_eq_some_iff.1 hd).1
    exact ⟨_, List.getElem?_eq_getElem hj, fun v hv => hw j _ d (List.getElem?_eq_getElem hj) hd _ _ _ _ hv⟩)
  have he : (⟨s.t, sv s.b k ds, s.r, s.i⟩ : ES).fs = s.fs.setB k ds := by simp only [ES.fs, FS.setB, lk_sv]
  rw [he]; exact this
end Go.Sh
namespace Go.Sh
open Go Go.RowKit
theorem wk_own_pv {d W : Nat} {es es' : List (List PV)} (h : PWk (.sl W es) (.sl W es')) : Wk (.own d W es) (.pv (.sl W es')) := by
  intro w E r v hv
  cases hv with
  | own d W es v h1 h2 => exact .pv (h _ _ _ h1)
theorem pwk_last {W : Nat} {es : List (List PV)} {cs ds : List PV} (hl : cs.length = ds.length) (h : ∀ (j : Nat) c d, cs[j]? = some c → ds[j]? = some d → PWk c d) : PWk (.sl W (es ++ [cs])) (.sl W (es ++ [ds])) := by
  refine pwk_sl (by simp) (fun i a b h1 h2 => ?_)
  by_cases hi : i < es.length
  · rw [List.getElem?_append_left hi] at h1 h2
    rw [h1] at h2; cases h2
    exact ⟨rfl, fun j c d h3 h4 => by rw [h3] at h4; cases h4; exact .refl c⟩
  · rw [List.getElem?_append_right (by omega)] at h1 h2
    have h0 : i - es.length = 0 := by
      have := (List.getElem?_eq_some_iff.1 h1).1; simp at this; omega
    rw [h0] at h1 h2; simp at h1 h2; subst h1; subst h2
    exact ⟨hl, h⟩
end Go.Sh
namespace Go.Sh
open Go
section
variable {P : Program} {C : Oracle} {dst : Option Nat} {W l h : Nat} {x : Arg} {lo hi : Option Arg} {s : FS} {z : ByteArray} {es : List (List PV)} {c : Prop} [Decidable c] {o : Option Nat}
def ssubK (z : ByteArray) : Option Nat → Option Nat → Option (TV × Upd)
  | some l, some h => if l ≤ h ∧ h ≤ z.size then some (.pv (.v (.string (z.extract l h))), .no) else none
  | _, _ => none
def ssubM (s : FS) (lo hi : Option Arg) : Option ByteArray → Option (TV × Upd)
  | some z => ssubK z (bound s 0 lo) (bound s z.size hi)
  | none => none
theorem e_ssub : eff P C dst (.ssub x lo hi) s = ssubM s lo hi ((x.get s).bind TV.str) := by
  simp only [eff]; generalize (x.get s).bind TV.str = a
  cases a with
  | none => rfl
  | some z =>
    unfold ssubM ssubK
    simp only []
    generalize bound s 0 lo = u
    generalize bound s z.size hi = v
    cases u <;> cases v <;> rfl
theorem e_ssub1 : ssubM s lo hi (some z) = ssubK z (bound s 0 lo) (bound s z.size hi) := rfl
theorem e_ssub2 : ssubK z (some l) (some h) = if l ≤ h ∧ h ≤ z.size then some (.pv (.v (.string (z.extract l h))), .no) else none := rfl
theorem e_ssub3 : ssubK z (some l) (if c then some h else none) = if c then ssubK z (some l) (some h) else none := by split <;> rfl
theorem e_ssub4 : ssubK z (if c then some l else none) o = if c then ssubK z (some l) o else none := by
  split
  · rfl
  · cases o <;> rfl
def subK (W : Nat) (es : List (List PV)) : Option Nat → Option Nat → Option (TV × Upd)
  | some l, some h => if l ≤ h ∧ h ≤ es.length then some (.pv (.sl W ((es.take h).drop l)), .no) else none
  | _, _ => none
def subM (s : FS) (W : Nat) (lo hi : Option Arg) : Option (List (List PV)) → Option (TV × Upd)
  | some es => subK W es (bound s 0 lo) (bound s es.length hi)
  | none => none
theorem e_sub1 : subM s W lo hi (some es) = subK W es (bound s 0 lo) (bound s es.length hi) := rfl
theorem e_sub2 : subK W es (some l) (some h) = if l ≤ h ∧ h ≤ es.length then some (.pv (.sl W ((es.take h).drop l)), .no) else none := rfl
theorem e_sub3 : subK W es (some l) (if c then some h else none) = if c then subK W es (some l) (some h) else none := by split <;> rfl
theorem e_sub4 : subK W es (if c then some l else none) o = if c then subK W es (some l) o else none := by
  split
  · rfl
  · cases o <;> rfl
theorem e_sub5 {W' : Nat} : subM s W lo hi (TV.elems W (.pv (.sl W' es))) = subM s W lo hi (if Nat.beq W' W then some es else none) := rfl
def subT (s : FS) (W : Nat) (lo hi : Option Arg) : Option TV → Option (TV × Upd)
  | some (.bs d off n c) => match bound s 0 lo, bound s n hi with
      | some l, some h => if l ≤ h ∧ h ≤ n ∧ n ≤ c then some (if c = l then .bs d off (h - l) (c - l) else .bs d (off + l * W) (h - l) (c - l), .no) else none
      | _, _ => none
  | some t => subM s W lo hi (t.elems W)
  | none => none
theorem e_sub : eff P C dst (.sub W x lo hi) s = subT s W lo hi (x.get s) := by
  simp only [eff]; generalize x.get s = a
  cases a with
  | none => rfl
  | some t =>
    have key : ∀ q : Option (List (List PV)), (match q with
        | some es => match bound s 0 lo, bound s es.length hi with
          | some l, some h => if l ≤ h ∧ h ≤ es.length then some (TV.pv (.sl W ((es.take h).drop l)), Upd.no) else none
          | _, _ => none
        | none => none) = subM s W lo hi q := by
      intro q
      cases q with
      | none => rfl
      | some es =>
        unfold subM subK
        generalize bound s 0 lo = u
        generalize bound s es.length hi = v
        cases u <;> cases v <;> rfl
    cases t with
    | bs d off n c => rfl
    | pv p => exact key ((TV.pv p).elems W)
    | own d W' es => exact key ((TV.own d W' es).elems W)
    | _ => rfl
theorem e_subT1 {p : PV} : subT s W lo hi (some (.pv p)) = subM s W lo hi ((TV.pv p).elems W) := rfl
theorem e_subT2 {d : Nat} {W' : Nat} : subT s W lo hi (some (.own d W' es)) = subM s W lo hi ((TV.own d W' es).elems W) := rfl
theorem e_subT3 {d off n c : Nat} : subT s W lo hi (some (.bs d off n c)) = (match bound s 0 lo, bound s n hi with
      | some l, some h => if l ≤ h ∧ h ≤ n ∧ n ≤ c then some (if c = l then .bs d off (h - l) (c - l) else .bs d (off + l * W) (h - l) (c - l), .no) else none
      | _, _ => none) := rfl
end
end Go.Sh
namespace Go.Sh
open Go
theorem gW_undef {w : Bool} {gs : Nat} {A B : ES → Prop} {s : ES} : guardW (some (.pv (.v undef))) w gs A B s = B s := rfl
end Go.Sh
end

section
/- Sh: the rules of walks in one. No statement of the program is proved here. -/
namespace Go.Sh
open Go Go.RowKit Go.Mor
set_option maxRecDepth 100000
theorem vcA : (type_of% @Go.Sh.bFT) ∧ (type_of% @Go.Sh.bTF) ∧ (type_of% @Go.Sh.ES.fgt.eq_1) ∧ (type_of% @List.map_cons.{0, 0}) ∧ (type_of% @List.map_nil.{0, 0}) ∧ (type_of% @Go.Sh.fgt3.eq_1) ∧ (type_of% @Go.Sh.TV.m3.eq_1) ∧ (type_of% @Go.Sh.TV.m3.eq_2) ∧ (type_of% @Go.Sh.TV.m2.eq_1) ∧ (type_of% @Go.Sh.TV.m2.eq_2) ∧ (type_of% @Go.Sh.TV.m1.eq_1) ∧ (type_of% @Go.Sh.TV.m1.eq_2) ∧ (type_of% @Go.Sh.TV.m0.eq_1) ∧ (type_of% @Go.Sh.TV.m0.eq_2) ∧ (type_of% @Go.Sh.TV.m0.eq_3) ∧ (type_of% @Go.Sh.TV.m0.eq_4) ∧ (type_of% @Go.Sh.TV.m0.eq_5) ∧ (type_of% @Go.Sh.TV.m0.eq_6) ∧ (type_of% @Go.Sh.TV.m0.eq_7) ∧ (type_of% @List.any_cons.{0}) ∧ (type_of% @List.any_nil.{0}) ∧ (type_of% @Bool.or_false) ∧ (type_of% @Bool.false_or) ∧ (type_of% @Go.Sh.drp.eq_1) ∧ (type_of% @Go.Sh.drp.eq_2) ∧ (type_of% @Go.Sh.effG.eq_1) ∧ (type_of% @Go.Sh.effF.eq_1) ∧ (type_of% @Go.Sh.footOk.eq_1) ∧ (type_of% @Go.Sh.SOp.foot.eq_1) ∧ (type_of% @Go.Sh.SOp.foot.eq_2) ∧ (type_of% @Go.Sh.SOp.foot.eq_3) ∧ (type_of% @Go.Sh.eff.eq_1) ∧ (type_of% @Go.Sh.eff.eq_2) ∧ (type_of% @Go.Sh.eff.eq_3) ∧ (type_of% @Go.Sh.eff.eq_4) ∧ (type_of% @Go.Sh.eff.eq_5) ∧ (type_of% @Go.Sh.eff.eq_6) ∧ (type_of% @Go.Sh.eff.eq_7) ∧ (type_of% @Go.Sh.eff.eq_8) ∧ (type_of% @Go.Sh.eff.eq_9) ∧ (type_of% @Go.Sh.eff.eq_11) ∧ (type_of% @Go.Sh.eff.eq_12) ∧ (type_of% @Go.Sh.eff.eq_13) ∧ (type_of% @Go.Sh.eff.eq_14) ∧ (type_of% @Go.Sh.eff.eq_15) ∧ (type_of% @Go.Sh.eff.eq_16) ∧ (type_of% @Go.Sh.eff.eq_17) ∧ (type_of% @Go.Sh.eff.eq_18) ∧ (type_of% @Go.Sh.eff.eq_19) ∧ (type_of% @Go.Sh.eff.eq_20) ∧ (type_of% @Go.Sh.eff.eq_21) ∧ (type_of% @Go.Sh.eff.eq_22) ∧ (type_of% @Go.Sh.eff.eq_23) ∧ (type_of% @Go.Sh.eff.eq_25) ∧ (type_of% @Go.Sh.eff.eq_28) ∧ (type_of% @Go.Sh.eff.eq_31) ∧ (type_of% @Go.Sh.eff.eq_32) ∧ (type_of% @Go.Sh.eff.eq_33) ∧ (type_of% @Go.Sh.eff.eq_34) ∧ (type_of% @Go.Sh.eff.eq_35) ∧ (type_of% @Go.Sh.eff.eq_38) ∧ (type_of% @Go.Sh.Arg.get.eq_1) ∧ (type_of% @Go.Sh.Arg.get.eq_2) ∧ (type_of% @Go.Sh.ES.fs.eq_1) ∧ (type_of% @Go.Sh.lk.eq_1) ∧ (type_of% @Go.Sh.lk.eq_2) ∧ (type_of% @Option.map_some.{0, 0}) ∧ (type_of% @Option.bind_some.{0, 0}) ∧ (type_of% @Go.Sh.ES.after.eq_1) ∧ (type_of% @Go.Sh.ES.upd.eq_1) ∧ (type_of% @Go.Sh.ES.upd.eq_2) ∧ (type_of% @Go.Sh.ES.upd.eq_3) ∧ (type_of% @Go.Sh.ES.upd.eq_4) ∧ (type_of% @Go.Sh.ES.upd.eq_5) ∧ (type_of% @Go.Sh.ES.upd.eq_6) ∧ (type_of% @Go.Sh.ES.upd.eq_7) ∧ (type_of% @Go.Sh.ES.put.eq_1) ∧ (type_of% @Go.Sh.ES.put.eq_2) ∧ (type_of% @Go.Sh.sv.eq_1) ∧ (type_of% @Go.Sh.sv.eq_2) ∧ (type_of% @Go.Sh.ES.kill.eq_1) ∧ (type_of% @Go.Sh.ES.kill.eq_2) ∧ (type_of% @Go.Sh.has.eq_1) ∧ (type_of% @Go.Sh.has.eq_2) ∧ (type_of% @Go.Sh.nbeq) ∧ (type_of% @Go.Sh.nble) ∧ (type_of% @Go.Sh.nblt) ∧ (type_of% @Go.Sh.TV.val.eq_1) ∧ (type_of% @Go.Sh.TV.val.eq_2) ∧ (type_of% @Go.Sh.TV.val1.eq_1) ∧ (type_of% @Go.Sh.TV.val1.eq_2) ∧ (type_of% @Go.Sh.TV.int.eq_1) ∧ (type_of% @Go.Sh.TV.int.eq_2) ∧ (type_of% @Go.Sh.TV.str.eq_1) ∧ (type_of% @Go.Sh.TV.str.eq_2) ∧ (type_of% @Go.Sh.TV.cells.eq_1) ∧ (type_of% @Go.Sh.TV.cells.eq_2) ∧ (type_of% @Go.Sh.TV.cells.eq_3) ∧ (type_of% @Go.Sh.TV.cells.eq_4) ∧ (type_of% @Go.Sh.TV.cells.eq_5) ∧ (type_of% @Go.Sh.TV.slen.eq_1) ∧ (type_of% @Go.Sh.TV.slen.eq_2) ∧ (type_of% @Go.Sh.TV.slen.eq_3) ∧ (type_of% @Go.Sh.TV.slen.eq_4) ∧ (type_of% @Go.Sh.TV.slen.eq_5) ∧ (type_of% @Go.Sh.TV.toPV.eq_1) ∧ (type_of% @Go.Sh.TV.toPV.eq_2) ∧ (type_of% @Go.Sh.TV.toPV.eq_3) ∧ (type_of% @Go.Sh.TV.pvs.eq_1) ∧ (type_of% @Go.Sh.seqO.eq_1) ∧ (type_of% @Go.Sh.seqO.eq_2) ∧ (type_of% @Go.Sh.bin_lss) ∧ (type_of% @Go.Sh.bin_gtr) ∧ (type_of% @Go.Sh.bin_leq) ∧ (type_of% @Go.Sh.bin_geq) ∧ (type_of% @Go.Sh.bin_eql) ∧ (type_of% @Go.Sh.bin_neq) ∧ (type_of% @Go.Sh.bin_add) ∧ (type_of% @Go.Sh.bin_sub) ∧ (type_of% @Go.Sh.bin_mul) ∧ (type_of% @Go.Sh.sbin_eql) ∧ (type_of% @Go.Sh.sbin_neq) ∧ (type_of% @Go.Sh.sbin_lss) ∧ (type_of% @Go.Sh.sbin_gtr) ∧ (type_of% @Go.Sh.un_neg) ∧ (type_of% @Go.Sh.un_not) ∧ (type_of% @Go.Sh.startE.eq_1) ∧ (type_of% @Go.Sh.numT.eq_1) ∧ (type_of% @Go.Sh.numT.eq_2) ∧ (type_of% @Go.Sh.numB.eq_1) ∧ (type_of% @Go.Sh.numB.eq_2) ∧ (type_of% @Go.Sh.numB.eq_3) ∧ (type_of% @Go.Sh.numR.eq_1) ∧ (type_of% @Go.Sh.numR.eq_2) ∧ (type_of% @Go.Sh.numR.eq_3) ∧ (type_of% @Go.Sh.ansW.eq_1) ∧ (type_of% @Go.Sh.ansW.eq_2) ∧ (type_of% @Go.Sh.resT.eq_1) ∧ (type_of% @Go.Sh.resT.eq_2) ∧ (type_of% @Go.Sh.SRes.get.eq_1) ∧ (type_of% @Go.Sh.SRes.get.eq_2) ∧ (type_of% @List.flatMap_nil.{0, 0}) ∧ (type_of% @List.flatMap_cons.{0, 0}) ∧ (type_of% @List.append_nil.{0}) ∧ (type_of% @List.nil_append.{0}) ∧ (type_of% @Go.Sh.TV.ids3.eq_1) ∧ (type_of% @Go.Sh.TV.ids3.eq_2) ∧ (type_of% @Go.Sh.TV.ids2.eq_1) ∧ (type_of% @Go.Sh.TV.ids2.eq_2) ∧ (type_of% @Go.Sh.TV.ids1.eq_1) ∧ (type_of% @Go.Sh.TV.ids1.eq_2) ∧ (type_of% @Go.Sh.TV.ids0.eq_1) ∧ (type_of% @Go.Sh.TV.ids0.eq_2) ∧ (type_of% @Go.Sh.TV.ids0.eq_3) ∧ (type_of% @Go.Sh.TV.ids0.eq_4) ∧ (type_of% @Go.Sh.TV.ren3.eq_1) ∧ (type_of% @Go.Sh.TV.ren3.eq_2) ∧ (type_of% @Go.Sh.TV.ren2.eq_1) ∧ (type_of% @Go.Sh.TV.ren2.eq_2) ∧ (type_of% @Go.Sh.TV.ren1.eq_1) ∧ (type_of% @Go.Sh.TV.ren1.eq_2) ∧ (type_of% @Go.Sh.TV.ren0.eq_1) ∧ (type_of% @Go.Sh.TV.ren0.eq_2) ∧ (type_of% @Go.Sh.TV.ren0.eq_3) ∧ (type_of% @Go.Sh.TV.ren0.eq_4) ∧ (type_of% @Go.Sh.TV.ren0.eq_5) ∧ (type_of% @Go.Sh.TV.ren0.eq_6) ∧ (type_of% @Go.Sh.bound.eq_1) ∧ (type_of% @Go.Sh.bound.eq_2) ∧ (type_of% @if_true.{1}) ∧ (type_of% @if_false.{1}) ∧ (type_of% @Bool.false_eq_true) ∧ (type_of% @Go.Sh.partsT.eq_1) ∧ (type_of% @Go.Sh.fillT.eq_1) ∧ (type_of% @Go.Sh.fillT.eq_2) ∧ (type_of% @Go.Sh.splice.eq_1) ∧ (type_of% @List.take_zero.{0}) ∧ (type_of% @List.take_succ_cons.{0}) ∧ (type_of% @List.drop_zero.{0}) ∧ (type_of% @List.drop_succ_cons.{0}) ∧ (type_of% @List.length_cons.{0}) ∧ (type_of% @List.length_nil.{0}) ∧ (type_of% @and_self) ∧ (type_of% @and_true) ∧ (type_of% @true_and) ∧ (type_of% @List.cons_append.{0}) ∧ (type_of% @List.getElem?_cons_zero.{0}) ∧ (type_of% @List.getElem?_cons_succ.{0}) ∧ (type_of% @Nat.zero_add) ∧ (type_of% @Bool.not_true) ∧ (type_of% @Bool.not_false) ∧ (type_of% @Go.Value.oneCell'.eq_1) ∧ (type_of% @Go.Value.oneCell'.eq_2) ∧ (type_of% @Go.Value.oneCell'.eq_3) ∧ (type_of% @Go.Mor.str_toList) ∧ (type_of% @Go.Mor.str_size') ∧ (type_of% @Int.toNat_natCast) ∧ (type_of% @decide_true) ∧ (type_of% @decide_false) ∧ (type_of% @beq_self_eq_true.{0}) ∧ (type_of% @Go.Sh.handI.eq_1) ∧ (type_of% @Go.Sh.FS.mo.eq_1) ∧ (type_of% @Go.Sh.MO.ren.eq_1) ∧ (type_of% @Go.Sh.MO.ren.eq_2) ∧ (type_of% @Go.Sh.rhoIn.eq_1) ∧ (type_of% @Go.Sh.pos.eq_1) ∧ (type_of% @Go.Sh.pos.eq_2) ∧ (type_of% @Go.Sh.rhoOut.eq_1) ∧ (type_of% @Go.Sh.outs.eq_1) ∧ (type_of% @Go.Sh.outs.eq_2) ∧ (type_of% @Go.Sh.newId.eq_1) ∧ (type_of% @Go.Sh.dstId.eq_1) ∧ (type_of% @Go.Sh.dstId.eq_2) ∧ (type_of% @Go.Sh.putMem.eq_1) ∧ (type_of% @Go.Sh.putMem.eq_2) ∧ (type_of% @List.lookup.eq_1.{0, 0}) ∧ (type_of% @List.lookup.eq_2.{0, 0}) ∧ (type_of% @Go.Sh.moOk.eq_1) ∧ (type_of% @Go.Sh.moOk.eq_2) ∧ (type_of% @Go.Sh.moOk.eq_3) ∧ (type_of% @Go.Sh.moOk.eq_4) ∧ (type_of% @Nat.le_refl) ∧ (type_of% @Int.natCast_nonneg) ∧ (type_of% @Go.Sh.v_skip) ∧ (type_of% @Go.Sh.v_seq) ∧ (type_of% @Go.Sh.v_exit) ∧ (type_of% @Go.Sh.v_ret) ∧ (type_of% @Go.Sh.v_block) ∧ (type_of% @Go.Sh.v_cond) ∧ (type_of% @Go.Sh.v_reg) ∧ (type_of% @Go.Sh.v_reg2) ∧ (type_of% @Go.Sh.v_nil) ∧ (type_of% @Go.Sh.v_regK) ∧ (type_of% @Go.Sh.v_skipK) ∧ (type_of% @Go.Sh.v_op) ∧ (type_of% @Go.Sh.v_guard) ∧ (type_of% @Go.Sh.gW) ∧ (type_of% @Go.Sh.gW_u) ∧ (type_of% @Go.Sh.PostR.eq_1) ∧ (type_of% @Go.Sh.PostR.eq_2) ∧ (type_of% @Go.Sh.PostR.eq_3) ∧ (type_of% @Go.Sh.exitR.eq_1) ∧ (type_of% @Go.Sh.exitF.eq_1) ∧ (type_of% @Go.Sh.idsFrom.eq_1) ∧ (type_of% @Go.Sh.idsFrom.eq_2) ∧ (type_of% @Go.Sh.gW_undef) ∧ (type_of% @Nat.sub_zero) ∧ (type_of% @Go.Sh.gW_i) ∧ (type_of% @Go.Sh.gK_T1) ∧ (type_of% @Go.Sh.gK_T0) ∧ (type_of% @Go.Sh.gK_F1) ∧ (type_of% @Go.Sh.gK_F0) ∧ (type_of% @Go.Sh.gK_d1) ∧ (type_of% @Go.Sh.gK_d0) ∧ (type_of% @Go.Sh.gK_n1) ∧ (type_of% @Go.Sh.gK_n0) ∧ (type_of% @Go.Sh.v_then_n) ∧ (type_of% @Go.Sh.v_then_r) ∧ (type_of% @Go.Sh.v_then_x) ∧ (type_of% @Go.Sh.v_blk_n) ∧ (type_of% @Go.Sh.v_blk_r) ∧ (type_of% @Go.Sh.v_blk_x) ∧ (type_of% @Go.Sh.s_some) ∧ (type_of% @Go.Sh.s_none) ∧ (type_of% @Go.Sh.s_ite) ∧ (type_of% @Go.Sh.s_get) ∧ (type_of% @Go.Sh.bW_T) ∧ (type_of% @Go.Sh.bW_F) ∧ (type_of% @Go.Sh.bW_d) ∧ (type_of% @Go.Sh.bW_n) ∧ (type_of% @Go.Sh.bW_a) ∧ (type_of% @Go.Sh.bW_o) ∧ (type_of% @Go.Sh.bK) ∧ (type_of% @Go.Sh.callIn.eq_1) ∧ (type_of% @Go.Sh.callOut.eq_1) ∧ (type_of% @Go.Sh.callvIn.eq_1) ∧ (type_of% @Go.Sh.TV.callee.eq_1) ∧ (type_of% @Go.Sh.TV.callee.eq_2) ∧ (type_of% @Go.Sh.TV.callee.eq_3) ∧ (type_of% @Go.Sh.TV.callee.eq_4) ∧ (type_of% @Go.Sh.Post0.eq_1) ∧ (type_of% @Go.Sh.Post0.eq_2) ∧ (type_of% @Go.Sh.Post0.eq_3) ∧ (type_of% @Go.Sh.Post1.eq_1) ∧ (type_of% @Go.Sh.Post1.eq_2) ∧ (type_of% @Go.Sh.Post1.eq_3) ∧ (type_of% @Go.Sh.ansW1.eq_1) ∧ (type_of% @Go.Sh.ansW1.eq_2) ∧ (type_of% @Go.Sh.bin_quoI) ∧ (type_of% @Go.Sh.bin_remI) ∧ (type_of% @Go.Sh.sbin_addI) ∧ (type_of% @Go.Sh.TV.elems.eq_1) ∧ (type_of% @Go.Sh.TV.elems.eq_2) ∧ (type_of% @Go.Sh.TV.elems.eq_3) ∧ (type_of% @Go.Sh.TV.elems.eq_4) ∧ (type_of% @Go.Sh.TV.isNil.eq_1) ∧ (type_of% @Go.Sh.TV.isNil.eq_2) ∧ (type_of% @List.all_cons.{0}) ∧ (type_of% @List.all_nil.{0}) ∧ (type_of% @Bool.and_true) ∧ (type_of% @Bool.true_and) ∧ (type_of% @Bool.and_false) ∧ (type_of% @Bool.false_and) ∧ (type_of% @Bool.and_self) ∧ (type_of% @ne_eq.{1}) ∧ (type_of% @not_false_eq_true) ∧ (type_of% @not_true_eq_false) ∧ (type_of% @false_and) ∧ (type_of% @and_false) ∧ (type_of% @or_false) ∧ (type_of% @or_self) ∧ (type_of% @false_or) ∧ (type_of% @imp_self) ∧ (type_of% @forall_const.{0}) ∧ (type_of% @Option.isNone_none.{0}) ∧ (type_of% @List.getElem?_nil.{0}) ∧ (type_of% @decide_eq_true_eq) ∧ (type_of% @eq_self.{1}) ∧ (type_of% @Go.Mor.str_list) ∧ (type_of% @Go.Mor.str_append) ∧ (type_of% @Go.Mor.str_extract) ∧ (type_of% @List.getElem?_map.{0, 0}) ∧ (type_of% @Option.map_map.{0, 0, 0}) ∧ (type_of% @List.length_map.{0, 0}) ∧ (type_of% @Function.comp_apply.{1, 1, 1}) ∧ (type_of% @List.length_append.{0}) ∧ (type_of% @List.length_set.{0}) ∧ (type_of% @List.set_cons_zero.{0}) ∧ (type_of% @List.set_cons_succ.{0}) ∧ (type_of% @imp_false) ∧ (type_of% @Decidable.not_not) ∧ (type_of% @Go.Sh.e_ssub) ∧ (type_of% @Go.Sh.e_ssub1) ∧ (type_of% @Go.Sh.e_ssub2) ∧ (type_of% @Go.Sh.e_ssub3) ∧ (type_of% @Go.Sh.e_ssub4) ∧ (type_of% @Go.Sh.e_sub) ∧ (type_of% @Go.Sh.e_sub1) ∧ (type_of% @Go.Sh.e_sub2) ∧ (type_of% @Go.Sh.e_sub3) ∧ (type_of% @Go.Sh.e_sub4) ∧ (type_of% @Go.Sh.e_subT1) ∧ (type_of% @Go.Sh.e_subT2) ∧ (type_of% @Go.Sh.e_subT3) ∧ (type_of% @Go.Sh.e_appN) ∧ (type_of% @Go.Sh.e_appN1) ∧ (type_of% @Go.Sh.e_appN2) ∧ (type_of% @Go.Sh.e_appNS) ∧ (type_of% @Go.Sh.e_appNS1) ∧ (type_of% @Go.Sh.e_appNS2) ∧ (type_of% @Go.Sh.e_rng) ∧ (type_of% @Go.Sh.e_rng1) ∧ (type_of% @Go.Sh.e_mks) ∧ (type_of% @Go.Sh.e_mks1) ∧ (type_of% @Go.Sh.reach_nil) ∧ (type_of% @Go.Sh.reach_cons) ∧ (type_of% @Go.Sh.reach_m1) ∧ (type_of% @Go.Sh.reach_m2) ∧ (type_of% @Go.Sh.reach_m3) ∧ (type_of% @Go.Sh.reach_m4) ∧ (type_of% @Option.map_none.{0, 0}) ∧ (type_of% @Option.bind_none.{0, 0}) ∧ (type_of% @Go.Sh.nc_mov) ∧ (type_of% @Go.Sh.nc_pick) ∧ (type_of% @Go.Sh.nc_bin) ∧ (type_of% @Go.Sh.nc_un) ∧ (type_of% @Go.Sh.nc_cvi) ∧ (type_of% @Go.Sh.nc_cvs) ∧ (type_of% @Go.Sh.nc_b2s) ∧ (type_of% @Go.Sh.nc_imm) ∧ (type_of% @Go.Sh.nc_sidx) ∧ (type_of% @Go.Sh.nc_ssub) ∧ (type_of% @Go.Sh.nc_slen) ∧ (type_of% @Go.Sh.nc_new) ∧ (type_of% @Go.Sh.nc_box) ∧ (type_of% @Go.Sh.nc_build) ∧ (type_of% @Go.Sh.nc_bsl) ∧ (type_of% @Go.Sh.nc_fld) ∧ (type_of% @Go.Sh.nc_fldA) ∧ (type_of% @Go.Sh.nc_ld) ∧ (type_of% @Go.Sh.nc_st) ∧ (type_of% @Go.Sh.nc_len) ∧ (type_of% @Go.Sh.nc_idxA) ∧ (type_of% @Go.Sh.nc_sub) ∧ (type_of% @Go.Sh.nc_app) ∧ (type_of% @Go.Sh.nc_appS) ∧ (type_of% @Go.Sh.nc_appN) ∧ (type_of% @Go.Sh.nc_appNS) ∧ (type_of% @Go.Sh.nc_ext) ∧ (type_of% @Go.Sh.nc_nchk) ∧ (type_of% @Go.Sh.nc_mkf) ∧ (type_of% @Go.Sh.nc_rng) ∧ (type_of% @Go.Sh.nc_nxt) ∧ (type_of% @Go.Sh.nc_mks) :=
  ⟨@Go.Sh.bFT, @Go.Sh.bTF, @Go.Sh.ES.fgt.eq_1, @List.map_cons.{0, 0}, @List.map_nil.{0, 0}, @Go.Sh.fgt3.eq_1, @Go.Sh.TV.m3.eq_1, @Go.Sh.TV.m3.eq_2, @Go.Sh.TV.m2.eq_1, @Go.Sh.TV.m2.eq_2, @Go.Sh.TV.m1.eq_1, @Go.Sh.TV.m1.eq_2, @Go.Sh.TV.m0.eq_1, @Go.Sh.TV.m0.eq_2, @Go.Sh.TV.m0.eq_3, @Go.Sh.TV.m0.eq_4, @Go.Sh.TV.m0.eq_5, @Go.Sh.TV.m0.eq_6, @Go.Sh.TV.m0.eq_7, @List.any_cons.{0}, @List.any_nil.{0}, @Bool.or_false, @Bool.false_or, @Go.Sh.drp.eq_1, @Go.Sh.drp.eq_2, @Go.Sh.effG.eq_1, @Go.Sh.effF.eq_1, @Go.Sh.footOk.eq_1, @Go.Sh.SOp.foot.eq_1, @Go.Sh.SOp.foot.eq_2, @Go.Sh.SOp.foot.eq_3, @Go.Sh.eff.eq_1, @Go.Sh.eff.eq_2, @Go.Sh.eff.eq_3, @Go.Sh.eff.eq_4, @Go.Sh.eff.eq_5, @Go.Sh.eff.eq_6, @Go.Sh.eff.eq_7, @Go.Sh.eff.eq_8, @Go.Sh.eff.eq_9, @Go.Sh.eff.eq_11, @Go.Sh.eff.eq_12, @Go.Sh.eff.eq_13, @Go.Sh.eff.eq_14, @Go.Sh.eff.eq_15, @Go.Sh.eff.eq_16, @Go.Sh.eff.eq_17, @Go.Sh.eff.eq_18, @Go.Sh.eff.eq_19, @Go.Sh.eff.eq_20, @Go.Sh.eff.eq_21, @Go.Sh.eff.eq_22, @Go.Sh.eff.eq_23, @Go.Sh.eff.eq_25, @Go.Sh.eff.eq_28, @Go.Sh.eff.eq_31, @Go.Sh.eff.eq_32, @Go.Sh.eff.eq_33, @Go.Sh.eff.eq_34, @Go.Sh.eff.eq_35, @Go.Sh.eff.eq_38, @Go.Sh.Arg.get.eq_1, @Go.Sh.Arg.get.eq_2, @Go.Sh.ES.fs.eq_1, @Go.Sh.lk.eq_1, @Go.Sh.lk.eq_2, @Option.map_some.{0, 0}, @Option.bind_some.{0, 0}, @Go.Sh.ES.after.eq_1, @Go.Sh.ES.upd.eq_1, @Go.Sh.ES.upd.eq_2, @Go.Sh.ES.upd.eq_3, @Go.Sh.ES.upd.eq_4, @Go.Sh.ES.upd.eq_5, @Go.Sh.ES.upd.eq_6, @Go.Sh.ES.upd.eq_7, @Go.Sh.ES.put.eq_1, @Go.Sh.ES.put.eq_2, @Go.Sh.sv.eq_1, @Go.Sh.sv.eq_2, @Go.Sh.ES.kill.eq_1, @Go.Sh.ES.kill.eq_2, @Go.Sh.has.eq_1, @Go.Sh.has.eq_2, @Go.Sh.nbeq, @Go.Sh.nble, @Go.Sh.nblt, @Go.Sh.TV.val.eq_1, @Go.Sh.TV.val.eq_2, @Go.Sh.TV.val1.eq_1, @Go.Sh.TV.val1.eq_2, @Go.Sh.TV.int.eq_1, @Go.Sh.TV.int.eq_2, @Go.Sh.TV.str.eq_1, @Go.Sh.TV.str.eq_2, @Go.Sh.TV.cells.eq_1, @Go.Sh.TV.cells.eq_2, @Go.Sh.TV.cells.eq_3, @Go.Sh.TV.cells.eq_4, @Go.Sh.TV.cells.eq_5, @Go.Sh.TV.slen.eq_1, @Go.Sh.TV.slen.eq_2, @Go.Sh.TV.slen.eq_3, @Go.Sh.TV.slen.eq_4, @Go.Sh.TV.slen.eq_5, @Go.Sh.TV.toPV.eq_1, @Go.Sh.TV.toPV.eq_2, @Go.Sh.TV.toPV.eq_3, @Go.Sh.TV.pvs.eq_1, @Go.Sh.seqO.eq_1, @Go.Sh.seqO.eq_2, @Go.Sh.bin_lss, @Go.Sh.bin_gtr, @Go.Sh.bin_leq, @Go.Sh.bin_geq, @Go.Sh.bin_eql, @Go.Sh.bin_neq, @Go.Sh.bin_add, @Go.Sh.bin_sub, @Go.Sh.bin_mul, @Go.Sh.sbin_eql, @Go.Sh.sbin_neq, @Go.Sh.sbin_lss, @Go.Sh.sbin_gtr, @Go.Sh.un_neg, @Go.Sh.un_not, @Go.Sh.startE.eq_1, @Go.Sh.numT.eq_1, @Go.Sh.numT.eq_2, @Go.Sh.numB.eq_1, @Go.Sh.numB.eq_2, @Go.Sh.numB.eq_3, @Go.Sh.numR.eq_1, @Go.Sh.numR.eq_2, @Go.Sh.numR.eq_3, @Go.Sh.ansW.eq_1, @Go.Sh.ansW.eq_2, @Go.Sh.resT.eq_1, @Go.Sh.resT.eq_2, @Go.Sh.SRes.get.eq_1, @Go.Sh.SRes.get.eq_2, @List.flatMap_nil.{0, 0}, @List.flatMap_cons.{0, 0}, @List.append_nil.{0}, @List.nil_append.{0}, @Go.Sh.TV.ids3.eq_1, @Go.Sh.TV.ids3.eq_2, @Go.Sh.TV.ids2.eq_1, @Go.Sh.TV.ids2.eq_2, @Go.Sh.TV.ids1.eq_1, @Go.Sh.TV.ids1.eq_2, @Go.Sh.TV.ids0.eq_1, @Go.Sh.TV.ids0.eq_2, @Go.Sh.TV.ids0.eq_3, @Go.Sh.TV.ids0.eq_4, @Go.Sh.TV.ren3.eq_1, @Go.Sh.TV.ren3.eq_2, @Go.Sh.TV.ren2.eq_1, @Go.Sh.TV.ren2.eq_2, @Go.Sh.TV.ren1.eq_1, @Go.Sh.TV.ren1.eq_2, @Go.Sh.TV.ren0.eq_1, @Go.Sh.TV.ren0.eq_2, @Go.Sh.TV.ren0.eq_3, @Go.Sh.TV.ren0.eq_4, @Go.Sh.TV.ren0.eq_5, @Go.Sh.TV.ren0.eq_6, @Go.Sh.bound.eq_1, @Go.Sh.bound.eq_2, @if_true.{1}, @if_false.{1}, @Bool.false_eq_true, @Go.Sh.partsT.eq_1, @Go.Sh.fillT.eq_1, @Go.Sh.fillT.eq_2, @Go.Sh.splice.eq_1, @List.take_zero.{0}, @List.take_succ_cons.{0}, @List.drop_zero.{0}, @List.drop_succ_cons.{0}, @List.length_cons.{0}, @List.length_nil.{0}, @and_self, @and_true, @true_and, @List.cons_append.{0}, @List.getElem?_cons_zero.{0}, @List.getElem?_cons_succ.{0}, @Nat.zero_add, @Bool.not_true, @Bool.not_false, @Go.Value.oneCell'.eq_1, @Go.Value.oneCell'.eq_2, @Go.Value.oneCell'.eq_3, @Go.Mor.str_toList, @Go.Mor.str_size', @Int.toNat_natCast, @decide_true, @decide_false, @beq_self_eq_true.{0}, @Go.Sh.handI.eq_1, @Go.Sh.FS.mo.eq_1, @Go.Sh.MO.ren.eq_1, @Go.Sh.MO.ren.eq_2, @Go.Sh.rhoIn.eq_1, @Go.Sh.pos.eq_1, @Go.Sh.pos.eq_2, @Go.Sh.rhoOut.eq_1, @Go.Sh.outs.eq_1, @Go.Sh.outs.eq_2, @Go.Sh.newId.eq_1, @Go.Sh.dstId.eq_1, @Go.Sh.dstId.eq_2, @Go.Sh.putMem.eq_1, @Go.Sh.putMem.eq_2, @List.lookup.eq_1.{0, 0}, @List.lookup.eq_2.{0, 0}, @Go.Sh.moOk.eq_1, @Go.Sh.moOk.eq_2, @Go.Sh.moOk.eq_3, @Go.Sh.moOk.eq_4, @Nat.le_refl, @Int.natCast_nonneg, @Go.Sh.v_skip, @Go.Sh.v_seq, @Go.Sh.v_exit, @Go.Sh.v_ret, @Go.Sh.v_block, @Go.Sh.v_cond, @Go.Sh.v_reg, @Go.Sh.v_reg2, @Go.Sh.v_nil, @Go.Sh.v_regK, @Go.Sh.v_skipK, @Go.Sh.v_op, @Go.Sh.v_guard, @Go.Sh.gW, @Go.Sh.gW_u, @Go.Sh.PostR.eq_1, @Go.Sh.PostR.eq_2, @Go.Sh.PostR.eq_3, @Go.Sh.exitR.eq_1, @Go.Sh.exitF.eq_1, @Go.Sh.idsFrom.eq_1, @Go.Sh.idsFrom.eq_2, @Go.Sh.gW_undef, @Nat.sub_zero, @Go.Sh.gW_i, @Go.Sh.gK_T1, @Go.Sh.gK_T0, @Go.Sh.gK_F1, @Go.Sh.gK_F0, @Go.Sh.gK_d1, @Go.Sh.gK_d0, @Go.Sh.gK_n1, @Go.Sh.gK_n0, @Go.Sh.v_then_n, @Go.Sh.v_then_r, @Go.Sh.v_then_x, @Go.Sh.v_blk_n, @Go.Sh.v_blk_r, @Go.Sh.v_blk_x, @Go.Sh.s_some, @Go.Sh.s_none, @Go.Sh.s_ite, @Go.Sh.s_get, @Go.Sh.bW_T, @Go.Sh.bW_F, @Go.Sh.bW_d, @Go.Sh.bW_n, @Go.Sh.bW_a, @Go.Sh.bW_o, @Go.Sh.bK, @Go.Sh.callIn.eq_1, @Go.Sh.callOut.eq_1, @Go.Sh.callvIn.eq_1, @Go.Sh.TV.callee.eq_1, @Go.Sh.TV.callee.eq_2, @Go.Sh.TV.callee.eq_3, @Go.Sh.TV.callee.eq_4, @Go.Sh.Post0.eq_1, @Go.Sh.Post0.eq_2, @Go.Sh.Post0.eq_3, @Go.Sh.Post1.eq_1, @Go.Sh.Post1.eq_2, @Go.Sh.Post1.eq_3, @Go.Sh.ansW1.eq_1, @Go.Sh.ansW1.eq_2, @Go.Sh.bin_quoI, @Go.Sh.bin_remI, @Go.Sh.sbin_addI, @Go.Sh.TV.elems.eq_1, @Go.Sh.TV.elems.eq_2, @Go.Sh.TV.elems.eq_3, @Go.Sh.TV.elems.eq_4, @Go.Sh.TV.isNil.eq_1, @Go.Sh.TV.isNil.eq_2, @List.all_cons.{0}, @List.all_nil.{0}, @Bool.and_true, @Bool.true_and, @Bool.and_false, @Bool.false_and, @Bool.and_self, @ne_eq.{1}, @not_false_eq_true, @not_true_eq_false, @false_and, @and_false, @or_false, @or_self, @false_or, @imp_self, @forall_const.{0}, @Option.isNone_none.{0}, @List.getElem?_nil.{0}, @decide_eq_true_eq, @eq_self.{1}, @Go.Mor.str_list, @Go.Mor.str_append, @Go.Mor.str_extract, @List.getElem?_map.{0, 0}, @Option.map_map.{0, 0, 0}, @List.length_map.{0, 0}, @Function.comp_apply.{1, 1, 1}, @List.length_append.{0}, @List.length_set.{0}, @List.set_cons_zero.{0}, @List.set_cons_succ.{0}, @imp_false, @Decidable.not_not, @Go.Sh.e_ssub, @Go.Sh.e_ssub1, @Go.Sh.e_ssub2, @Go.Sh.e_ssub3, @Go.Sh.e_ssub4, @Go.Sh.e_sub, @Go.Sh.e_sub1, @Go.Sh.e_sub2, @Go.Sh.e_sub3, @Go.Sh.e_sub4, @Go.Sh.e_subT1, @Go.Sh.e_subT2, @Go.Sh.e_subT3, @Go.Sh.e_appN, @Go.Sh.e_appN1, @Go.Sh.e_appN2, @Go.Sh.e_appNS, @Go.Sh.e_appNS1, @Go.Sh.e_appNS2, @Go.Sh.e_rng, @Go.Sh.e_rng1, @Go.Sh.e_mks, @Go.Sh.e_mks1, @Go.Sh.reach_nil, @Go.Sh.reach_cons, @Go.Sh.reach_m1, @Go.Sh.reach_m2, @Go.Sh.reach_m3, @Go.Sh.reach_m4, @Option.map_none.{0, 0}, @Option.bind_none.{0, 0}, @Go.Sh.nc_mov, @Go.Sh.nc_pick, @Go.Sh.nc_bin, @Go.Sh.nc_un, @Go.Sh.nc_cvi, @Go.Sh.nc_cvs, @Go.Sh.nc_b2s, @Go.Sh.nc_imm, @Go.Sh.nc_sidx, @Go.Sh.nc_ssub, @Go.Sh.nc_slen, @Go.Sh.nc_new, @Go.Sh.nc_box, @Go.Sh.nc_build, @Go.Sh.nc_bsl, @Go.Sh.nc_fld, @Go.Sh.nc_fldA, @Go.Sh.nc_ld, @Go.Sh.nc_st, @Go.Sh.nc_len, @Go.Sh.nc_idxA, @Go.Sh.nc_sub, @Go.Sh.nc_app, @Go.Sh.nc_appS, @Go.Sh.nc_appN, @Go.Sh.nc_appNS, @Go.Sh.nc_ext, @Go.Sh.nc_nchk, @Go.Sh.nc_mkf, @Go.Sh.nc_rng, @Go.Sh.nc_nxt, @Go.Sh.nc_mks⟩
end Go.Sh
end

section
/- Comparing values: the program's way, the document's way. No statement of the program is proved here. -/
namespace Go.Proofs.YtdlolkogifigpaaDoor
open Go Go.RowKit Go.Mor Go.Sh Go.Sh.Cd1
set_option maxRecDepth 100000
set_option maxHeartbeats 2000000
theorem Vk (k n : Int) (s : List UInt8) (l : List V) : (V.mk k n s l).k = k := rfl
theorem Vn (k n : Int) (s : List UInt8) (l : List V) : (V.mk k n s l).n = n := rfl
theorem Vs (k n : Int) (s : List UInt8) (l : List V) : (V.mk k n s l).s = s := rfl
theorem Vl (k n : Int) (s : List UInt8) (l : List V) : (V.mk k n s l).l = l := rfl
theorem rowsGet (l : List V) (k : Nat) : (V.rows l)[k]? = (l[k]?).map V.row := by rw [rows_eq, List.getElem?_map]
theorem rowsLen (l : List V) : (V.rows l).length = l.length := by rw [rows_eq, List.length_map]
theorem row4 (y : V) : V.row y = [.v (.int .i64 y.k), .v (.int .i64 y.n), .v (.string (str y.s)), .sl 4 (V.rows y.l)] := by cases y; exact V.row_mk _ _ _ _
def thenI (c d : Int) : Int := if c = 0 then d else c
def ordS (a b : List UInt8) : Int := if Op.bytesLess a b then -1 else if a = b then 0 else 1
mutual
def cmpV : V → V → Int
  | .mk k n s l, y => thenI (ordI k y.k) (thenI (ordI n y.n) (thenI (ordS s y.s) (cmpL l y.l)))
def cmpL : List V → List V → Int
  | [], [] => 0
  | [], _ :: _ => -1
  | _ :: _, [] => 1
  | x :: l, y :: l' => thenI (cmpV x y) (cmpL l l')
end
theorem cmpV_eq (x y : V) : cmpV x y = thenI (ordI x.k y.k) (thenI (ordI x.n y.n) (thenI (ordS x.s y.s) (cmpL x.l y.l))) := by
  cases x; simp only [cmpV, V.k, V.n, V.s, V.l]
theorem cmpL_drop {l l' : List V} {i : Nat} {x y : V} (hx : l[i]? = some x) (hy : l'[i]? = some y) : cmpL (l.drop i) (l'.drop i) = thenI (cmpV x y) (cmpL (l.drop (i + 1)) (l'.drop (i + 1))) := by
  obtain ⟨h1, rfl⟩ := List.getElem?_eq_some_iff.1 hx
  obtain ⟨h2, rfl⟩ := List.getElem?_eq_some_iff.1 hy
  rw [List.drop_eq_getElem_cons h1, List.drop_eq_getElem_cons h2, cmpL]
theorem cmpL_end {l l' : List V} {i : Nat} (h : i = min l.length l'.length) : cmpL (l.drop i) (l'.drop i) = ordI l.length l'.length := by
  unfold ordI
  rcases Nat.lt_trichotomy l.length l'.length with h1 | h1 | h1
  · rw [List.drop_eq_nil_of_le (by omega : l.length ≤ i)]
    obtain ⟨y, r, hy⟩ : ∃ y r, l'.drop i = y :: r := ⟨_, _, List.drop_eq_getElem_cons (by omega)⟩
    rw [hy, cmpL, if_pos (by omega)]
  · rw [List.drop_eq_nil_of_le (by omega : l.length ≤ i), List.drop_eq_nil_of_le (by omega : l'.length ≤ i), cmpL, if_neg (by omega), if_neg (by omega)]
  · rw [List.drop_eq_nil_of_le (by omega : l'.length ≤ i)]
    obtain ⟨y, r, hy⟩ : ∃ y r, l.drop i = y :: r := ⟨_, _, List.drop_eq_getElem_cons (by omega)⟩
    rw [hy, cmpL, if_neg (by omega), if_pos (by omega)]
theorem nanI_ok (g : Sh.Glob) (a : Int) : SCalls Tryd.prog g 92 [I a] [] (.pv (.v (.bool false))) [] := by
  refine call_of0 hmix tf_cmp_isNaN_int_ rfl ?_
  simp only [vcA, Int.reduceEq, Int.reduceAdd, Int.reduceSub, Nat.reduceBEq, Nat.reduceEqDiff, reduceCtorEq, Nat.reduceAdd, Nat.reduceSub, Nat.reduceMul, Nat.reduceLeDiff, Int.reduceToNat, Int.reduceLT, Int.reduceLE, Int.reduceNeg, reduceIte, I, S, tv, nv, tyT, RawV.tv, R1.row, rowsGet, rowsLen, row4, Vk, Vn, Vs, Vl]
theorem nanS_ok (g : Sh.Glob) (a : ByteArray) : SCalls Tryd.prog g 93 [S a] [] (.pv (.v (.bool false))) [] := by
  refine call_of0 hmix tf_cmp_isNaN_string_ rfl ?_
  simp only [vcA, Int.reduceEq, Int.reduceAdd, Int.reduceSub, Nat.reduceBEq, Nat.reduceEqDiff, reduceCtorEq, Nat.reduceAdd, Nat.reduceSub, Nat.reduceMul, Nat.reduceLeDiff, Int.reduceToNat, Int.reduceLT, Int.reduceLE, Int.reduceNeg, reduceIte, I, S, tv, nv, tyT, RawV.tv, R1.row, rowsGet, rowsLen, row4, Vk, Vn, Vs, Vl]
theorem cmpI_ok (g : Sh.Glob) (a b : Int) : SCalls Tryd.prog g 62 [I a, I b] [] (I (ordI a b)) [] := by
  refine call_of0 hmix tf_cmp_Compare_int_ rfl ?_
  simp only [vcA, Int.reduceEq, Int.reduceAdd, Int.reduceSub, Nat.reduceBEq, Nat.reduceEqDiff, reduceCtorEq, Nat.reduceAdd, Nat.reduceSub, Nat.reduceMul, Nat.reduceLeDiff, Int.reduceToNat, Int.reduceLT, Int.reduceLE, Int.reduceNeg, reduceIte, I, S, tv, nv, tyT, RawV.tv, R1.row, rowsGet, rowsLen, row4, Vk, Vn, Vs, Vl]
  (with_reducible apply v_call); (· simp only [vcA, Int.reduceEq, Int.reduceAdd, Int.reduceSub, Nat.reduceBEq, Nat.reduceEqDiff, reduceCtorEq, Nat.reduceAdd, Nat.reduceSub, Nat.reduceMul, Nat.reduceLeDiff, Int.reduceToNat, Int.reduceLT, Int.reduceLE, Int.reduceNeg, reduceIte, I, S, tv, nv, tyT, RawV.tv, R1.row, rowsGet, rowsLen, row4, Vk, Vn, Vs, Vl]; with_reducible rfl); (· exact nanI_ok g _); (· rfl); (· simp only [vcA, Int.reduceEq, Int.reduceAdd, Int.reduceSub, Nat.reduceBEq, Nat.reduceEqDiff, reduceCtorEq, Nat.reduceAdd, Nat.reduceSub, Nat.reduceMul, Nat.reduceLeDiff, Int.reduceToNat, Int.reduceLT, Int.reduceLE, Int.reduceNeg, reduceIte, I, S, tv, nv, tyT, RawV.tv, R1.row, rowsGet, rowsLen, row4, Vk, Vn, Vs, Vl]; with_reducible rfl)
  simp only [vcA, Int.reduceEq, Int.reduceAdd, Int.reduceSub, Nat.reduceBEq, Nat.reduceEqDiff, reduceCtorEq, Nat.reduceAdd, Nat.reduceSub, Nat.reduceMul, Nat.reduceLeDiff, Int.reduceToNat, Int.reduceLT, Int.reduceLE, Int.reduceNeg, reduceIte, I, S, tv, nv, tyT, RawV.tv, R1.row, rowsGet, rowsLen, row4, Vk, Vn, Vs, Vl]
  (with_reducible apply v_call); (· simp only [vcA, Int.reduceEq, Int.reduceAdd, Int.reduceSub, Nat.reduceBEq, Nat.reduceEqDiff, reduceCtorEq, Nat.reduceAdd, Nat.reduceSub, Nat.reduceMul, Nat.reduceLeDiff, Int.reduceToNat, Int.reduceLT, Int.reduceLE, Int.reduceNeg, reduceIte, I, S, tv, nv, tyT, RawV.tv, R1.row, rowsGet, rowsLen, row4, Vk, Vn, Vs, Vl]; with_reducible rfl); (· exact nanI_ok g _); (· rfl); (· simp only [vcA, Int.reduceEq, Int.reduceAdd, Int.reduceSub, Nat.reduceBEq, Nat.reduceEqDiff, reduceCtorEq, Nat.reduceAdd, Nat.reduceSub, Nat.reduceMul, Nat.reduceLeDiff, Int.reduceToNat, Int.reduceLT, Int.reduceLE, Int.reduceNeg, reduceIte, I, S, tv, nv, tyT, RawV.tv, R1.row, rowsGet, rowsLen, row4, Vk, Vn, Vs, Vl]; with_reducible rfl)
  simp only [vcA, Int.reduceEq, Int.reduceAdd, Int.reduceSub, Nat.reduceBEq, Nat.reduceEqDiff, reduceCtorEq, Nat.reduceAdd, Nat.reduceSub, Nat.reduceMul, Nat.reduceLeDiff, Int.reduceToNat, Int.reduceLT, Int.reduceLE, Int.reduceNeg, reduceIte, I, S, tv, nv, tyT, RawV.tv, R1.row, rowsGet, rowsLen, row4, Vk, Vn, Vs, Vl]
  unfold ordI
  refine ⟨fun h => by rw [if_pos h], fun h => ⟨fun h' => by rw [if_neg h, if_pos h'], fun h' => by rw [if_neg h, if_neg h']⟩⟩
theorem cmpS_ok (g : Sh.Glob) (a b : List UInt8) : SCalls Tryd.prog g 63 [S (str a), S (str b)] [] (I (ordS a b)) [] := by
  refine call_of0 hmix tf_cmp_Compare_string_ rfl ?_
  simp only [vcA, Int.reduceEq, Int.reduceAdd, Int.reduceSub, Nat.reduceBEq, Nat.reduceEqDiff, reduceCtorEq, Nat.reduceAdd, Nat.reduceSub, Nat.reduceMul, Nat.reduceLeDiff, Int.reduceToNat, Int.reduceLT, Int.reduceLE, Int.reduceNeg, reduceIte, I, S, tv, nv, tyT, RawV.tv, R1.row, rowsGet, rowsLen, row4, Vk, Vn, Vs, Vl]
  (with_reducible apply v_call); (· simp only [vcA, Int.reduceEq, Int.reduceAdd, Int.reduceSub, Nat.reduceBEq, Nat.reduceEqDiff, reduceCtorEq, Nat.reduceAdd, Nat.reduceSub, Nat.reduceMul, Nat.reduceLeDiff, Int.reduceToNat, Int.reduceLT, Int.reduceLE, Int.reduceNeg, reduceIte, I, S, tv, nv, tyT, RawV.tv, R1.row, rowsGet, rowsLen, row4, Vk, Vn, Vs, Vl]; with_reducible rfl); (· exact nanS_ok g _); (· rfl); (· simp only [vcA, Int.reduceEq, Int.reduceAdd, Int.reduceSub, Nat.reduceBEq, Nat.reduceEqDiff, reduceCtorEq, Nat.reduceAdd, Nat.reduceSub, Nat.reduceMul, Nat.reduceLeDiff, Int.reduceToNat, Int.reduceLT, Int.reduceLE, Int.reduceNeg, reduceIte, I, S, tv, nv, tyT, RawV.tv, R1.row, rowsGet, rowsLen, row4, Vk, Vn, Vs, Vl]; with_reducible rfl)
  simp only [vcA, Int.reduceEq, Int.reduceAdd, Int.reduceSub, Nat.reduceBEq, Nat.reduceEqDiff, reduceCtorEq, Nat.reduceAdd, Nat.reduceSub, Nat.reduceMul, Nat.reduceLeDiff, Int.reduceToNat, Int.reduceLT, Int.reduceLE, Int.reduceNeg, reduceIte, I, S, tv, nv, tyT, RawV.tv, R1.row, rowsGet, rowsLen, row4, Vk, Vn, Vs, Vl]
  (with_reducible apply v_call); (· simp only [vcA, Int.reduceEq, Int.reduceAdd, Int.reduceSub, Nat.reduceBEq, Nat.reduceEqDiff, reduceCtorEq, Nat.reduceAdd, Nat.reduceSub, Nat.reduceMul, Nat.reduceLeDiff, Int.reduceToNat, Int.reduceLT, Int.reduceLE, Int.reduceNeg, reduceIte, I, S, tv, nv, tyT, RawV.tv, R1.row, rowsGet, rowsLen, row4, Vk, Vn, Vs, Vl]; with_reducible rfl); (· exact nanS_ok g _); (· rfl); (· simp only [vcA, Int.reduceEq, Int.reduceAdd, Int.reduceSub, Nat.reduceBEq, Nat.reduceEqDiff, reduceCtorEq, Nat.reduceAdd, Nat.reduceSub, Nat.reduceMul, Nat.reduceLeDiff, Int.reduceToNat, Int.reduceLT, Int.reduceLE, Int.reduceNeg, reduceIte, I, S, tv, nv, tyT, RawV.tv, R1.row, rowsGet, rowsLen, row4, Vk, Vn, Vs, Vl]; with_reducible rfl)
  simp only [vcA, Int.reduceEq, Int.reduceAdd, Int.reduceSub, Nat.reduceBEq, Nat.reduceEqDiff, reduceCtorEq, Nat.reduceAdd, Nat.reduceSub, Nat.reduceMul, Nat.reduceLeDiff, Int.reduceToNat, Int.reduceLT, Int.reduceLE, Int.reduceNeg, reduceIte, I, S, tv, nv, tyT, RawV.tv, R1.row, rowsGet, rowsLen, row4, Vk, Vn, Vs, Vl]
  unfold ordS
  cases hb : Op.bytesLess a b
  · by_cases he : a = b
    · subst he; simp [boolW]
    · simp [boolW, he]
  · simp [boolW]
inductive VSmall : V → Prop where
  | mk {k n : Int} {s : List UInt8} {l : List V} (h : l.length ≤ maxLen) (hs : ∀ y ∈ l, VSmall y) : VSmall (.mk k n s l)
theorem VSmall.len {x : V} (h : VSmall x) : x.l.length ≤ maxLen := by cases h; assumption
theorem VSmall.sub {x y : V} (h : VSmall x) (hy : y ∈ x.l) : VSmall y := by cases h with | mk h hs => exact hs y hy
theorem byItems_ok (g : Sh.Glob) (l l' : List V) (hl : l.length ≤ maxLen) (H : ∀ (i : Nat) x y, l[i]? = some x → l'[i]? = some y → SCalls Tryd.prog g 32 [tv x, tv y] [] (I (cmpV x y)) []) :
    SCalls Tryd.prog g 64 [.pv (.sl 4 (V.rows l)), .pv (.sl 4 (V.rows l')), .pv (.v (.func (.func 32) #[] #[]))] [] (I (cmpL l l')) [] := by
  refine call_of0 hmix tf_val_byItems_api_Val_ rfl ?_
  simp only [vcA, Int.reduceEq, Int.reduceAdd, Int.reduceSub, Nat.reduceBEq, Nat.reduceEqDiff, reduceCtorEq, Nat.reduceAdd, Nat.reduceSub, Nat.reduceMul, Nat.reduceLeDiff, Int.reduceToNat, Int.reduceLT, Int.reduceLE, Int.reduceNeg, reduceIte, I, S, tv, nv, tyT, RawV.tv, R1.row, rowsGet, rowsLen, row4, Vk, Vn, Vs, Vl]
  refine v_loop (σ := { i : Nat // i ≤ min l.length l'.length ∧ cmpL l l' = cmpL (l.drop i) (l'.drop i) }) (fun i => ⟨[(0, .pv (.sl 4 (V.rows l))), (1, .pv (.sl 4 (V.rows l'))), (2, .pv (.v (.func (.func 32) #[] #[]))), (13, I (min (l.length : Int) (l'.length : Int))), (14, I (i.1 : Int))], [], [], []⟩) (fun i => min l.length l'.length - i.1) ⟨0, Nat.zero_le _, rfl⟩ (lw_eq rfl) ?_
  rintro ⟨i, hi, hc⟩
  simp only [vcA, Int.reduceEq, Int.reduceAdd, Int.reduceSub, Nat.reduceBEq, Nat.reduceEqDiff, reduceCtorEq, Nat.reduceAdd, Nat.reduceSub, Nat.reduceMul, Nat.reduceLeDiff, Int.reduceToNat, Int.reduceLT, Int.reduceLE, Int.reduceNeg, reduceIte, I, S, tv, nv, tyT, RawV.tv, R1.row, rowsGet, rowsLen, row4, Vk, Vn, Vs, Vl]
  have hm : maxLen = 9223372036854775807 := rfl
  refine ⟨fun hlt => ?_, fun hge => ?_⟩
  · refine ⟨by omega, fun x hx => ⟨by omega, fun y hy => ?_⟩⟩
    (with_reducible apply v_callv); (· simp only [vcA, Int.reduceEq, Int.reduceAdd, Int.reduceSub, Nat.reduceBEq, Nat.reduceEqDiff, reduceCtorEq, Nat.reduceAdd, Nat.reduceSub, Nat.reduceMul, Nat.reduceLeDiff, Int.reduceToNat, Int.reduceLT, Int.reduceLE, Int.reduceNeg, reduceIte, I, S, tv, nv, tyT, RawV.tv, R1.row, rowsGet, rowsLen, row4, Vk, Vn, Vs, Vl]; with_reducible rfl); (· exact H i x y hx hy); (· rfl); (· simp only [vcA, Int.reduceEq, Int.reduceAdd, Int.reduceSub, Nat.reduceBEq, Nat.reduceEqDiff, reduceCtorEq, Nat.reduceAdd, Nat.reduceSub, Nat.reduceMul, Nat.reduceLeDiff, Int.reduceToNat, Int.reduceLT, Int.reduceLE, Int.reduceNeg, reduceIte, I, S, tv, nv, tyT, RawV.tv, R1.row, rowsGet, rowsLen, row4, Vk, Vn, Vs, Vl]; with_reducible rfl)
    have hd := cmpL_drop hx hy
    rw [← hc] at hd
    unfold thenI at hd
    simp only [vcA, Int.reduceEq, Int.reduceAdd, Int.reduceSub, Nat.reduceBEq, Nat.reduceEqDiff, reduceCtorEq, Nat.reduceAdd, Nat.reduceSub, Nat.reduceMul, Nat.reduceLeDiff, Int.reduceToNat, Int.reduceLT, Int.reduceLE, Int.reduceNeg, reduceIte, I, S, tv, nv, tyT, RawV.tv, R1.row, rowsGet, rowsLen, row4, Vk, Vn, Vs, Vl]
    refine ⟨fun h0 => ?_, fun h0 => ?_⟩
    · rw [if_pos h0] at hd
      have w1 : IntKind.i64.wrap ((i : Int) + 1) = (i : Int) + 1 := wrap64 (by omega) (by omega)
      refine loopK_of ⟨i + 1, by omega, hd⟩ (by show _ - (i + 1) < _ - i; omega) ?_
      apply lw_of <;> simp [leL, lk, sv, Nat.beq, I, S, ES.kill, has, drp, nilT, w1]
    · rw [if_neg h0] at hd
      rw [hd]
  · (with_reducible apply v_call); (· simp only [vcA, Int.reduceEq, Int.reduceAdd, Int.reduceSub, Nat.reduceBEq, Nat.reduceEqDiff, reduceCtorEq, Nat.reduceAdd, Nat.reduceSub, Nat.reduceMul, Nat.reduceLeDiff, Int.reduceToNat, Int.reduceLT, Int.reduceLE, Int.reduceNeg, reduceIte, I, S, tv, nv, tyT, RawV.tv, R1.row, rowsGet, rowsLen, row4, Vk, Vn, Vs, Vl]; with_reducible rfl); (· exact cmpI_ok g _ _); (· rfl); (· simp only [vcA, Int.reduceEq, Int.reduceAdd, Int.reduceSub, Nat.reduceBEq, Nat.reduceEqDiff, reduceCtorEq, Nat.reduceAdd, Nat.reduceSub, Nat.reduceMul, Nat.reduceLeDiff, Int.reduceToNat, Int.reduceLT, Int.reduceLE, Int.reduceNeg, reduceIte, I, S, tv, nv, tyT, RawV.tv, R1.row, rowsGet, rowsLen, row4, Vk, Vn, Vs, Vl]; with_reducible rfl)
    simp only [vcA, Int.reduceEq, Int.reduceAdd, Int.reduceSub, Nat.reduceBEq, Nat.reduceEqDiff, reduceCtorEq, Nat.reduceAdd, Nat.reduceSub, Nat.reduceMul, Nat.reduceLeDiff, Int.reduceToNat, Int.reduceLT, Int.reduceLE, Int.reduceNeg, reduceIte, I, S, tv, nv, tyT, RawV.tv, R1.row, rowsGet, rowsLen, row4, Vk, Vn, Vs, Vl]
    rw [hc, cmpL_end (by omega)]
theorem compare_n (g : Sh.Glob) : ∀ (n : Nat) (x y : V), SizeOf.sizeOf x ≤ n → VSmall x → SCalls Tryd.prog g 32 [tv x, tv y] [] (I (cmpV x y)) []
  | 0, x, y, h, _ => by cases x; simp at h
  | n + 1, x, y, h, hx => by
    have HB := byItems_ok g x.l y.l hx.len (fun i a b ha hb => compare_n g n a b (by
      have hm := List.mem_of_getElem? ha
      have := List.sizeOf_lt_of_mem hm
      cases x; simp [V.l] at h this ⊢; omega) (hx.sub (List.mem_of_getElem? ha)))
    refine call_of0 hmix tf_val_Compare rfl ?_
    rw [cmpV_eq]
    simp only [vcA, Int.reduceEq, Int.reduceAdd, Int.reduceSub, Nat.reduceBEq, Nat.reduceEqDiff, reduceCtorEq, Nat.reduceAdd, Nat.reduceSub, Nat.reduceMul, Nat.reduceLeDiff, Int.reduceToNat, Int.reduceLT, Int.reduceLE, Int.reduceNeg, reduceIte, I, S, tv, nv, tyT, RawV.tv, R1.row, rowsGet, rowsLen, row4, Vk, Vn, Vs, Vl]
    (with_reducible apply v_call); (· simp only [vcA, Int.reduceEq, Int.reduceAdd, Int.reduceSub, Nat.reduceBEq, Nat.reduceEqDiff, reduceCtorEq, Nat.reduceAdd, Nat.reduceSub, Nat.reduceMul, Nat.reduceLeDiff, Int.reduceToNat, Int.reduceLT, Int.reduceLE, Int.reduceNeg, reduceIte, I, S, tv, nv, tyT, RawV.tv, R1.row, rowsGet, rowsLen, row4, Vk, Vn, Vs, Vl]; with_reducible rfl); (· exact cmpI_ok g _ _); (· rfl); (· simp only [vcA, Int.reduceEq, Int.reduceAdd, Int.reduceSub, Nat.reduceBEq, Nat.reduceEqDiff, reduceCtorEq, Nat.reduceAdd, Nat.reduceSub, Nat.reduceMul, Nat.reduceLeDiff, Int.reduceToNat, Int.reduceLT, Int.reduceLE, Int.reduceNeg, reduceIte, I, S, tv, nv, tyT, RawV.tv, R1.row, rowsGet, rowsLen, row4, Vk, Vn, Vs, Vl]; with_reducible rfl)
    simp only [vcA, Int.reduceEq, Int.reduceAdd, Int.reduceSub, Nat.reduceBEq, Nat.reduceEqDiff, reduceCtorEq, Nat.reduceAdd, Nat.reduceSub, Nat.reduceMul, Nat.reduceLeDiff, Int.reduceToNat, Int.reduceLT, Int.reduceLE, Int.reduceNeg, reduceIte, I, S, tv, nv, tyT, RawV.tv, R1.row, rowsGet, rowsLen, row4, Vk, Vn, Vs, Vl]
    refine ⟨fun h1 => ?_, fun h1 => by rw [thenI, if_neg h1]⟩
    rw [thenI, if_pos h1]
    (with_reducible apply v_call); (· simp only [vcA, Int.reduceEq, Int.reduceAdd, Int.reduceSub, Nat.reduceBEq, Nat.reduceEqDiff, reduceCtorEq, Nat.reduceAdd, Nat.reduceSub, Nat.reduceMul, Nat.reduceLeDiff, Int.reduceToNat, Int.reduceLT, Int.reduceLE, Int.reduceNeg, reduceIte, I, S, tv, nv, tyT, RawV.tv, R1.row, rowsGet, rowsLen, row4, Vk, Vn, Vs, Vl]; with_reducible rfl); (· exact cmpI_ok g _ _); (· rfl); (· simp only [vcA, Int.reduceEq, Int.reduceAdd, Int.reduceSub, Nat.reduceBEq, Nat.reduceEqDiff, reduceCtorEq, Nat.reduceAdd, Nat.reduceSub, Nat.reduceMul, Nat.reduceLeDiff, Int.reduceToNat, Int.reduceLT, Int.reduceLE, Int.reduceNeg, reduceIte, I, S, tv, nv, tyT, RawV.tv, R1.row, rowsGet, rowsLen, row4, Vk, Vn, Vs, Vl]; with_reducible rfl)
    simp only [vcA, Int.reduceEq, Int.reduceAdd, Int.reduceSub, Nat.reduceBEq, Nat.reduceEqDiff, reduceCtorEq, Nat.reduceAdd, Nat.reduceSub, Nat.reduceMul, Nat.reduceLeDiff, Int.reduceToNat, Int.reduceLT, Int.reduceLE, Int.reduceNeg, reduceIte, I, S, tv, nv, tyT, RawV.tv, R1.row, rowsGet, rowsLen, row4, Vk, Vn, Vs, Vl]
    refine ⟨fun h2 => ?_, fun h2 => by rw [thenI, if_neg h2]⟩
    rw [thenI, if_pos h2]
    (with_reducible apply v_call); (· simp only [vcA, Int.reduceEq, Int.reduceAdd, Int.reduceSub, Nat.reduceBEq, Nat.reduceEqDiff, reduceCtorEq, Nat.reduceAdd, Nat.reduceSub, Nat.reduceMul, Nat.reduceLeDiff, Int.reduceToNat, Int.reduceLT, Int.reduceLE, Int.reduceNeg, reduceIte, I, S, tv, nv, tyT, RawV.tv, R1.row, rowsGet, rowsLen, row4, Vk, Vn, Vs, Vl]; with_reducible rfl); (· exact cmpS_ok g _ _); (· rfl); (· simp only [vcA, Int.reduceEq, Int.reduceAdd, Int.reduceSub, Nat.reduceBEq, Nat.reduceEqDiff, reduceCtorEq, Nat.reduceAdd, Nat.reduceSub, Nat.reduceMul, Nat.reduceLeDiff, Int.reduceToNat, Int.reduceLT, Int.reduceLE, Int.reduceNeg, reduceIte, I, S, tv, nv, tyT, RawV.tv, R1.row, rowsGet, rowsLen, row4, Vk, Vn, Vs, Vl]; with_reducible rfl)
    simp only [vcA, Int.reduceEq, Int.reduceAdd, Int.reduceSub, Nat.reduceBEq, Nat.reduceEqDiff, reduceCtorEq, Nat.reduceAdd, Nat.reduceSub, Nat.reduceMul, Nat.reduceLeDiff, Int.reduceToNat, Int.reduceLT, Int.reduceLE, Int.reduceNeg, reduceIte, I, S, tv, nv, tyT, RawV.tv, R1.row, rowsGet, rowsLen, row4, Vk, Vn, Vs, Vl]
    refine ⟨fun h3 => ?_, fun h3 => by rw [thenI, if_neg h3]⟩
    rw [thenI, if_pos h3]
    (with_reducible apply v_call); (· simp only [vcA, Int.reduceEq, Int.reduceAdd, Int.reduceSub, Nat.reduceBEq, Nat.reduceEqDiff, reduceCtorEq, Nat.reduceAdd, Nat.reduceSub, Nat.reduceMul, Nat.reduceLeDiff, Int.reduceToNat, Int.reduceLT, Int.reduceLE, Int.reduceNeg, reduceIte, I, S, tv, nv, tyT, RawV.tv, R1.row, rowsGet, rowsLen, row4, Vk, Vn, Vs, Vl]; with_reducible rfl); (· exact HB); (· rfl); (· simp only [vcA, Int.reduceEq, Int.reduceAdd, Int.reduceSub, Nat.reduceBEq, Nat.reduceEqDiff, reduceCtorEq, Nat.reduceAdd, Nat.reduceSub, Nat.reduceMul, Nat.reduceLeDiff, Int.reduceToNat, Int.reduceLT, Int.reduceLE, Int.reduceNeg, reduceIte, I, S, tv, nv, tyT, RawV.tv, R1.row, rowsGet, rowsLen, row4, Vk, Vn, Vs, Vl]; with_reducible rfl)
    simp only [vcA, Int.reduceEq, Int.reduceAdd, Int.reduceSub, Nat.reduceBEq, Nat.reduceEqDiff, reduceCtorEq, Nat.reduceAdd, Nat.reduceSub, Nat.reduceMul, Nat.reduceLeDiff, Int.reduceToNat, Int.reduceLT, Int.reduceLE, Int.reduceNeg, reduceIte, I, S, tv, nv, tyT, RawV.tv, R1.row, rowsGet, rowsLen, row4, Vk, Vn, Vs, Vl]
theorem compare_ok (g : Sh.Glob) (x y : V) (hx : VSmall x) : SCalls Tryd.prog g 32 [tv x, tv y] [] (I (cmpV x y)) [] := compare_n g _ x y (Nat.le_refl _) hx
theorem same_ok (g : Sh.Glob) (x y : V) (hx : VSmall x) : SCalls Tryd.prog g 33 [tv x, tv y] [] (.pv (.v (.bool (decide (cmpV x y = 0))))) [] := by
  refine call_of0 hmix tf_val_Same rfl ?_
  simp only [vcA, Int.reduceEq, Int.reduceAdd, Int.reduceSub, Nat.reduceBEq, Nat.reduceEqDiff, reduceCtorEq, Nat.reduceAdd, Nat.reduceSub, Nat.reduceMul, Nat.reduceLeDiff, Int.reduceToNat, Int.reduceLT, Int.reduceLE, Int.reduceNeg, reduceIte, I, S, tv, nv, tyT, RawV.tv, R1.row, rowsGet, rowsLen, row4, Vk, Vn, Vs, Vl]
  (with_reducible apply v_call); (· simp only [vcA, Int.reduceEq, Int.reduceAdd, Int.reduceSub, Nat.reduceBEq, Nat.reduceEqDiff, reduceCtorEq, Nat.reduceAdd, Nat.reduceSub, Nat.reduceMul, Nat.reduceLeDiff, Int.reduceToNat, Int.reduceLT, Int.reduceLE, Int.reduceNeg, reduceIte, I, S, tv, nv, tyT, RawV.tv, R1.row, rowsGet, rowsLen, row4, Vk, Vn, Vs, Vl]; with_reducible rfl); (· exact compare_ok g x y hx); (· rfl); (· simp only [vcA, Int.reduceEq, Int.reduceAdd, Int.reduceSub, Nat.reduceBEq, Nat.reduceEqDiff, reduceCtorEq, Nat.reduceAdd, Nat.reduceSub, Nat.reduceMul, Nat.reduceLeDiff, Int.reduceToNat, Int.reduceLT, Int.reduceLE, Int.reduceNeg, reduceIte, I, S, tv, nv, tyT, RawV.tv, R1.row, rowsGet, rowsLen, row4, Vk, Vn, Vs, Vl]; with_reducible rfl)
  simp only [vcA, Int.reduceEq, Int.reduceAdd, Int.reduceSub, Nat.reduceBEq, Nat.reduceEqDiff, reduceCtorEq, Nat.reduceAdd, Nat.reduceSub, Nat.reduceMul, Nat.reduceLeDiff, Int.reduceToNat, Int.reduceLT, Int.reduceLE, Int.reduceNeg, reduceIte, I, S, tv, nv, tyT, RawV.tv, R1.row, rowsGet, rowsLen, row4, Vk, Vn, Vs, Vl]
/-- The document's loop over two lists. -/
theorem refLoop (g : Sh.Glob) (x y : V) (hx : VSmall x) (H : ∀ (i : Nat) a b, x.l[i]? = some a → y.l[i]? = some b → SCalls Tryd.prog g 61 [tv a, tv b] [] (I (cmpV a b)) []) (c : Int) :
    swp Tryd.prog g (.loop c_moraineref03_Compare_12) (blockW 0 (thenW (swp Tryd.prog g (.seq (.seq c_moraineref03_Compare_13 (.cond (.tmp 67) (.seq c_moraineref03_Compare_14 .ret) .skip)) (.seq c_moraineref03_Compare_15 .ret)) (Post0 [.tmp 4] (I (thenI c (cmpL x.l y.l))))) (Post0 [.tmp 4] (I (thenI c (cmpL x.l y.l))))))
      ⟨[(2, .ptr 2 0), (3, .ptr 3 0), (5, I c), (6, I 0)], [(2, [I x.k, I x.n, S (str x.s), .pv (.sl 4 (V.rows x.l))]), (3, [I y.k, I y.n, S (str y.s), .pv (.sl 4 (V.rows y.l))])], [], []⟩ := by
  refine v_loop (σ := { p : Nat × Int // p.1 ≤ min x.l.length y.l.length ∧ thenI c (cmpL x.l y.l) = thenI p.2 (cmpL (x.l.drop p.1) (y.l.drop p.1)) })
    (fun p => ⟨[(2, .ptr 2 0), (3, .ptr 3 0), (5, I p.1.2), (6, I (p.1.1 : Int))], [(2, [I x.k, I x.n, S (str x.s), .pv (.sl 4 (V.rows x.l))]), (3, [I y.k, I y.n, S (str y.s), .pv (.sl 4 (V.rows y.l))])], [], []⟩)
    (fun p => min x.l.length y.l.length - p.1.1) ⟨(0, c), Nat.zero_le _, rfl⟩ (lw_eq rfl) ?_
  rintro ⟨⟨i, d⟩, hi, hc⟩
  have hm : maxLen = 9223372036854775807 := rfl
  have hl := hx.len
  simp only at hi hc
  simp only [vcA, Int.reduceEq, Int.reduceAdd, Int.reduceSub, Nat.reduceBEq, Nat.reduceEqDiff, reduceCtorEq, Nat.reduceAdd, Nat.reduceSub, Nat.reduceMul, Nat.reduceLeDiff, Int.reduceToNat, Int.reduceLT, Int.reduceLE, Int.reduceNeg, reduceIte, I, S, tv, nv, tyT, RawV.tv, R1.row, rowsGet, rowsLen, row4, Vk, Vn, Vs, Vl]
  refine ⟨fun h0 => ⟨fun h1 => ⟨fun h2 => ⟨by omega, fun a ha => ⟨by omega, fun b hb => ?_⟩⟩, fun h2 => ⟨fun _ => ?_, fun h => absurd h0 h⟩⟩, fun h1 => ⟨fun _ => ?_, fun h => absurd h0 h⟩⟩, fun h0 => ⟨fun h => absurd h h0, fun _ => ?_⟩⟩
  · (with_reducible apply v_call); (· simp only [vcA, Int.reduceEq, Int.reduceAdd, Int.reduceSub, Nat.reduceBEq, Nat.reduceEqDiff, reduceCtorEq, Nat.reduceAdd, Nat.reduceSub, Nat.reduceMul, Nat.reduceLeDiff, Int.reduceToNat, Int.reduceLT, Int.reduceLE, Int.reduceNeg, reduceIte, I, S, tv, nv, tyT, RawV.tv, R1.row, rowsGet, rowsLen, row4, Vk, Vn, Vs, Vl]; with_reducible rfl); (· exact H i a b ha hb); (· rfl); (· simp only [vcA, Int.reduceEq, Int.reduceAdd, Int.reduceSub, Nat.reduceBEq, Nat.reduceEqDiff, reduceCtorEq, Nat.reduceAdd, Nat.reduceSub, Nat.reduceMul, Nat.reduceLeDiff, Int.reduceToNat, Int.reduceLT, Int.reduceLE, Int.reduceNeg, reduceIte, I, S, tv, nv, tyT, RawV.tv, R1.row, rowsGet, rowsLen, row4, Vk, Vn, Vs, Vl]; with_reducible rfl)
    simp only [vcA, Int.reduceEq, Int.reduceAdd, Int.reduceSub, Nat.reduceBEq, Nat.reduceEqDiff, reduceCtorEq, Nat.reduceAdd, Nat.reduceSub, Nat.reduceMul, Nat.reduceLeDiff, Int.reduceToNat, Int.reduceLT, Int.reduceLE, Int.reduceNeg, reduceIte, I, S, tv, nv, tyT, RawV.tv, R1.row, rowsGet, rowsLen, row4, Vk, Vn, Vs, Vl]
    have w1 : IntKind.i64.wrap ((i : Int) + 1) = (i : Int) + 1 := wrap64 (by omega) (by omega)
    refine loopK_of ⟨(i + 1, cmpV a b), by show i + 1 ≤ _; omega, ?_⟩ (by show _ - (i + 1) < _ - i; omega) ?_
    · show _ = thenI (cmpV a b) (cmpL (x.l.drop (i + 1)) (y.l.drop (i + 1)))
      rw [hc, h0, cmpL_drop ha hb]; simp [thenI]
    apply lw_of <;> simp [leL, lk, sv, Nat.beq, I, S, ES.kill, has, drp, nilT, w1]
  · (with_reducible apply v_call); (· simp only [vcA, Int.reduceEq, Int.reduceAdd, Int.reduceSub, Nat.reduceBEq, Nat.reduceEqDiff, reduceCtorEq, Nat.reduceAdd, Nat.reduceSub, Nat.reduceMul, Nat.reduceLeDiff, Int.reduceToNat, Int.reduceLT, Int.reduceLE, Int.reduceNeg, reduceIte, I, S, tv, nv, tyT, RawV.tv, R1.row, rowsGet, rowsLen, row4, Vk, Vn, Vs, Vl]; with_reducible rfl); (· exact order_ok g _ _); (· rfl); (· simp only [vcA, Int.reduceEq, Int.reduceAdd, Int.reduceSub, Nat.reduceBEq, Nat.reduceEqDiff, reduceCtorEq, Nat.reduceAdd, Nat.reduceSub, Nat.reduceMul, Nat.reduceLeDiff, Int.reduceToNat, Int.reduceLT, Int.reduceLE, Int.reduceNeg, reduceIte, I, S, tv, nv, tyT, RawV.tv, R1.row, rowsGet, rowsLen, row4, Vk, Vn, Vs, Vl]; with_reducible rfl)
    simp only [vcA, Int.reduceEq, Int.reduceAdd, Int.reduceSub, Nat.reduceBEq, Nat.reduceEqDiff, reduceCtorEq, Nat.reduceAdd, Nat.reduceSub, Nat.reduceMul, Nat.reduceLeDiff, Int.reduceToNat, Int.reduceLT, Int.reduceLE, Int.reduceNeg, reduceIte, I, S, tv, nv, tyT, RawV.tv, R1.row, rowsGet, rowsLen, row4, Vk, Vn, Vs, Vl]
    rw [hc, h0, thenI, if_pos rfl, cmpL_end (by omega)]
  · (with_reducible apply v_call); (· simp only [vcA, Int.reduceEq, Int.reduceAdd, Int.reduceSub, Nat.reduceBEq, Nat.reduceEqDiff, reduceCtorEq, Nat.reduceAdd, Nat.reduceSub, Nat.reduceMul, Nat.reduceLeDiff, Int.reduceToNat, Int.reduceLT, Int.reduceLE, Int.reduceNeg, reduceIte, I, S, tv, nv, tyT, RawV.tv, R1.row, rowsGet, rowsLen, row4, Vk, Vn, Vs, Vl]; with_reducible rfl); (· exact order_ok g _ _); (· rfl); (· simp only [vcA, Int.reduceEq, Int.reduceAdd, Int.reduceSub, Nat.reduceBEq, Nat.reduceEqDiff, reduceCtorEq, Nat.reduceAdd, Nat.reduceSub, Nat.reduceMul, Nat.reduceLeDiff, Int.reduceToNat, Int.reduceLT, Int.reduceLE, Int.reduceNeg, reduceIte, I, S, tv, nv, tyT, RawV.tv, R1.row, rowsGet, rowsLen, row4, Vk, Vn, Vs, Vl]; with_reducible rfl)
    simp only [vcA, Int.reduceEq, Int.reduceAdd, Int.reduceSub, Nat.reduceBEq, Nat.reduceEqDiff, reduceCtorEq, Nat.reduceAdd, Nat.reduceSub, Nat.reduceMul, Nat.reduceLeDiff, Int.reduceToNat, Int.reduceLT, Int.reduceLE, Int.reduceNeg, reduceIte, I, S, tv, nv, tyT, RawV.tv, R1.row, rowsGet, rowsLen, row4, Vk, Vn, Vs, Vl]
    rw [hc, h0, thenI, if_pos rfl, cmpL_end (by omega)]
  · rw [hc, thenI, if_neg h0]
theorem refCompare_n (g : Sh.Glob) : ∀ (n : Nat) (x y : V), SizeOf.sizeOf x ≤ n → VSmall x → SCalls Tryd.prog g 61 [tv x, tv y] [] (I (cmpV x y)) []
  | 0, x, y, h, _ => by cases x; simp at h
  | n + 1, x, y, h, hx => by
    have H : ∀ (i : Nat) a b, x.l[i]? = some a → y.l[i]? = some b → SCalls Tryd.prog g 61 [tv a, tv b] [] (I (cmpV a b)) [] := fun i a b ha hb => refCompare_n g n a b (by
      have hm := List.mem_of_getElem? ha
      have := List.sizeOf_lt_of_mem hm
      cases x; simp [V.l] at h this ⊢; omega) (hx.sub (List.mem_of_getElem? ha))
    have HL := refLoop g x y hx H
    refine call_of0 hmix tf_moraineref03_Compare rfl ?_
    rw [cmpV_eq]
    by_cases h1 : ordI x.k y.k = 0
    · rw [h1, thenI, if_pos rfl]
      simp only [vcA, Int.reduceEq, Int.reduceAdd, Int.reduceSub, Nat.reduceBEq, Nat.reduceEqDiff, reduceCtorEq, Nat.reduceAdd, Nat.reduceSub, Nat.reduceMul, Nat.reduceLeDiff, Int.reduceToNat, Int.reduceLT, Int.reduceLE, Int.reduceNeg, reduceIte, I, S, tv, nv, tyT, RawV.tv, R1.row, rowsGet, rowsLen, row4, Vk, Vn, Vs, Vl]
      (with_reducible apply v_call); (· simp only [vcA, Int.reduceEq, Int.reduceAdd, Int.reduceSub, Nat.reduceBEq, Nat.reduceEqDiff, reduceCtorEq, Nat.reduceAdd, Nat.reduceSub, Nat.reduceMul, Nat.reduceLeDiff, Int.reduceToNat, Int.reduceLT, Int.reduceLE, Int.reduceNeg, reduceIte, I, S, tv, nv, tyT, RawV.tv, R1.row, rowsGet, rowsLen, row4, Vk, Vn, Vs, Vl]; with_reducible rfl); (· exact order_ok g _ _); (· rfl); (· simp only [vcA, Int.reduceEq, Int.reduceAdd, Int.reduceSub, Nat.reduceBEq, Nat.reduceEqDiff, reduceCtorEq, Nat.reduceAdd, Nat.reduceSub, Nat.reduceMul, Nat.reduceLeDiff, Int.reduceToNat, Int.reduceLT, Int.reduceLE, Int.reduceNeg, reduceIte, I, S, tv, nv, tyT, RawV.tv, R1.row, rowsGet, rowsLen, row4, Vk, Vn, Vs, Vl]; with_reducible rfl)
      simp only [vcA, Int.reduceEq, Int.reduceAdd, Int.reduceSub, Nat.reduceBEq, Nat.reduceEqDiff, reduceCtorEq, Nat.reduceAdd, Nat.reduceSub, Nat.reduceMul, Nat.reduceLeDiff, Int.reduceToNat, Int.reduceLT, Int.reduceLE, Int.reduceNeg, reduceIte, I, S, tv, nv, tyT, RawV.tv, R1.row, rowsGet, rowsLen, row4, Vk, Vn, Vs, Vl, h1]
      (with_reducible apply v_call); (· simp only [vcA, Int.reduceEq, Int.reduceAdd, Int.reduceSub, Nat.reduceBEq, Nat.reduceEqDiff, reduceCtorEq, Nat.reduceAdd, Nat.reduceSub, Nat.reduceMul, Nat.reduceLeDiff, Int.reduceToNat, Int.reduceLT, Int.reduceLE, Int.reduceNeg, reduceIte, I, S, tv, nv, tyT, RawV.tv, R1.row, rowsGet, rowsLen, row4, Vk, Vn, Vs, Vl]; with_reducible rfl); (· exact order_ok g _ _); (· rfl); (· simp only [vcA, Int.reduceEq, Int.reduceAdd, Int.reduceSub, Nat.reduceBEq, Nat.reduceEqDiff, reduceCtorEq, Nat.reduceAdd, Nat.reduceSub, Nat.reduceMul, Nat.reduceLeDiff, Int.reduceToNat, Int.reduceLT, Int.reduceLE, Int.reduceNeg, reduceIte, I, S, tv, nv, tyT, RawV.tv, R1.row, rowsGet, rowsLen, row4, Vk, Vn, Vs, Vl]; with_reducible rfl)
      by_cases h2 : ordI x.n y.n = 0
      · rw [h2, thenI, if_pos rfl]
        cases hb : Op.bytesLess x.s y.s
        · by_cases he : x.s = y.s
          · have e : ordS x.s y.s = 0 := by rw [ordS, hb]; simp [he]
            have he' : (x.s == y.s) = true := by simp [he]
            rw [e]
            simp only [vcA, Int.reduceEq, Int.reduceAdd, Int.reduceSub, Nat.reduceBEq, Nat.reduceEqDiff, reduceCtorEq, Nat.reduceAdd, Nat.reduceSub, Nat.reduceMul, Nat.reduceLeDiff, Int.reduceToNat, Int.reduceLT, Int.reduceLE, Int.reduceNeg, reduceIte, I, S, tv, nv, tyT, RawV.tv, R1.row, rowsGet, rowsLen, row4, Vk, Vn, Vs, Vl, h2, hb, he']
            exact HL 0
          · have e : ordS x.s y.s = 1 := by simp [ordS, hb, he]
            have he' : (x.s == y.s) = false := by simp [he]
            rw [e]
            simp only [vcA, Int.reduceEq, Int.reduceAdd, Int.reduceSub, Nat.reduceBEq, Nat.reduceEqDiff, reduceCtorEq, Nat.reduceAdd, Nat.reduceSub, Nat.reduceMul, Nat.reduceLeDiff, Int.reduceToNat, Int.reduceLT, Int.reduceLE, Int.reduceNeg, reduceIte, I, S, tv, nv, tyT, RawV.tv, R1.row, rowsGet, rowsLen, row4, Vk, Vn, Vs, Vl, h2, hb, he']
            exact HL 1
        · have e : ordS x.s y.s = -1 := by simp [ordS, hb]
          rw [e]
          simp only [vcA, Int.reduceEq, Int.reduceAdd, Int.reduceSub, Nat.reduceBEq, Nat.reduceEqDiff, reduceCtorEq, Nat.reduceAdd, Nat.reduceSub, Nat.reduceMul, Nat.reduceLeDiff, Int.reduceToNat, Int.reduceLT, Int.reduceLE, Int.reduceNeg, reduceIte, I, S, tv, nv, tyT, RawV.tv, R1.row, rowsGet, rowsLen, row4, Vk, Vn, Vs, Vl, h2, hb]
          exact HL (-1)
      · rw [show thenI (ordI x.n y.n) (thenI (ordS x.s y.s) (cmpL x.l y.l)) = thenI (ordI x.n y.n) (cmpL x.l y.l) by simp [thenI, h2]]
        simp only [vcA, Int.reduceEq, Int.reduceAdd, Int.reduceSub, Nat.reduceBEq, Nat.reduceEqDiff, reduceCtorEq, Nat.reduceAdd, Nat.reduceSub, Nat.reduceMul, Nat.reduceLeDiff, Int.reduceToNat, Int.reduceLT, Int.reduceLE, Int.reduceNeg, reduceIte, I, S, tv, nv, tyT, RawV.tv, R1.row, rowsGet, rowsLen, row4, Vk, Vn, Vs, Vl, h2]
        exact HL _
    · rw [show thenI (ordI x.k y.k) (thenI (ordI x.n y.n) (thenI (ordS x.s y.s) (cmpL x.l y.l))) = thenI (ordI x.k y.k) (cmpL x.l y.l) by simp [thenI, h1]]
      simp only [vcA, Int.reduceEq, Int.reduceAdd, Int.reduceSub, Nat.reduceBEq, Nat.reduceEqDiff, reduceCtorEq, Nat.reduceAdd, Nat.reduceSub, Nat.reduceMul, Nat.reduceLeDiff, Int.reduceToNat, Int.reduceLT, Int.reduceLE, Int.reduceNeg, reduceIte, I, S, tv, nv, tyT, RawV.tv, R1.row, rowsGet, rowsLen, row4, Vk, Vn, Vs, Vl]
      (with_reducible apply v_call); (· simp only [vcA, Int.reduceEq, Int.reduceAdd, Int.reduceSub, Nat.reduceBEq, Nat.reduceEqDiff, reduceCtorEq, Nat.reduceAdd, Nat.reduceSub, Nat.reduceMul, Nat.reduceLeDiff, Int.reduceToNat, Int.reduceLT, Int.reduceLE, Int.reduceNeg, reduceIte, I, S, tv, nv, tyT, RawV.tv, R1.row, rowsGet, rowsLen, row4, Vk, Vn, Vs, Vl]; with_reducible rfl); (· exact order_ok g _ _); (· rfl); (· simp only [vcA, Int.reduceEq, Int.reduceAdd, Int.reduceSub, Nat.reduceBEq, Nat.reduceEqDiff, reduceCtorEq, Nat.reduceAdd, Nat.reduceSub, Nat.reduceMul, Nat.reduceLeDiff, Int.reduceToNat, Int.reduceLT, Int.reduceLE, Int.reduceNeg, reduceIte, I, S, tv, nv, tyT, RawV.tv, R1.row, rowsGet, rowsLen, row4, Vk, Vn, Vs, Vl]; with_reducible rfl)
      simp only [vcA, Int.reduceEq, Int.reduceAdd, Int.reduceSub, Nat.reduceBEq, Nat.reduceEqDiff, reduceCtorEq, Nat.reduceAdd, Nat.reduceSub, Nat.reduceMul, Nat.reduceLeDiff, Int.reduceToNat, Int.reduceLT, Int.reduceLE, Int.reduceNeg, reduceIte, I, S, tv, nv, tyT, RawV.tv, R1.row, rowsGet, rowsLen, row4, Vk, Vn, Vs, Vl, h1]
      exact HL _
theorem refCompare_ok (g : Sh.Glob) (x y : V) (hx : VSmall x) : SCalls Tryd.prog g 61 [tv x, tv y] [] (I (cmpV x y)) [] := refCompare_n g _ x y (Nat.le_refl _) hx
theorem refSame_ok (g : Sh.Glob) (x y : V) (hx : VSmall x) : SCalls Tryd.prog g 30 [tv x, tv y] [] (.pv (.v (.bool (decide (cmpV x y = 0))))) [] := by
  refine call_of0 hmix tf_moraineref03_Same rfl ?_
  simp only [vcA, Int.reduceEq, Int.reduceAdd, Int.reduceSub, Nat.reduceBEq, Nat.reduceEqDiff, reduceCtorEq, Nat.reduceAdd, Nat.reduceSub, Nat.reduceMul, Nat.reduceLeDiff, Int.reduceToNat, Int.reduceLT, Int.reduceLE, Int.reduceNeg, reduceIte, I, S, tv, nv, tyT, RawV.tv, R1.row, rowsGet, rowsLen, row4, Vk, Vn, Vs, Vl]
  (with_reducible apply v_call); (· simp only [vcA, Int.reduceEq, Int.reduceAdd, Int.reduceSub, Nat.reduceBEq, Nat.reduceEqDiff, reduceCtorEq, Nat.reduceAdd, Nat.reduceSub, Nat.reduceMul, Nat.reduceLeDiff, Int.reduceToNat, Int.reduceLT, Int.reduceLE, Int.reduceNeg, reduceIte, I, S, tv, nv, tyT, RawV.tv, R1.row, rowsGet, rowsLen, row4, Vk, Vn, Vs, Vl]; with_reducible rfl); (· exact refCompare_ok g x y hx); (· rfl); (· simp only [vcA, Int.reduceEq, Int.reduceAdd, Int.reduceSub, Nat.reduceBEq, Nat.reduceEqDiff, reduceCtorEq, Nat.reduceAdd, Nat.reduceSub, Nat.reduceMul, Nat.reduceLeDiff, Int.reduceToNat, Int.reduceLT, Int.reduceLE, Int.reduceNeg, reduceIte, I, S, tv, nv, tyT, RawV.tv, R1.row, rowsGet, rowsLen, row4, Vk, Vn, Vs, Vl]; with_reducible rfl)
  simp only [vcA, Int.reduceEq, Int.reduceAdd, Int.reduceSub, Nat.reduceBEq, Nat.reduceEqDiff, reduceCtorEq, Nat.reduceAdd, Nat.reduceSub, Nat.reduceMul, Nat.reduceLeDiff, Int.reduceToNat, Int.reduceLT, Int.reduceLE, Int.reduceNeg, reduceIte, I, S, tv, nv, tyT, RawV.tv, R1.row, rowsGet, rowsLen, row4, Vk, Vn, Vs, Vl]
end Go.Proofs.YtdlolkogifigpaaDoor
end

section
/- The statements' ValOf. No statement of the program is proved here. -/
namespace Go.Proofs.YtdlolkogifigpaaDoor
open Go Go.RowKit Go.Mor Go.Sh Go.Sh.Cd1
set_option maxRecDepth 100000
set_option maxHeartbeats 2000000
def oneOf (r : R1) : V := valOne (pickI r.k 5) r.n r.s
def onesTo (l : List R1) (i : Nat) : List V := (l.take i).map oneOf
theorem onesTo_succ {l : List R1} {i : Nat} {r : R1} (h : l[i]? = some r) : onesTo l (i + 1) = onesTo l i ++ [oneOf r] := by
  unfold onesTo; rw [List.take_add_one, h]; simp
theorem onesTo_len {l : List R1} {i : Nat} (h : i ≤ l.length) : (onesTo l i).length = i := by simp [onesTo]; omega
theorem oneOf_l (r : R1) : (oneOf r).l = [] := valOne_l _ _ _
theorem rowsApp (l : List V) (y : V) : V.rows (l ++ [y]) = V.rows l ++ [V.row y] := by simp [rows_eq]
theorem rowNil {y : V} (h : y.l = []) : V.row y = [.v (.int .i64 y.k), .v (.int .i64 y.n), .v (.string (str y.s)), .sl 4 []] := by rw [row4, h, V.rows_nil]
theorem valOf_list (g : Sh.Glob) (x : RawV) (hx : x.ok) (hk5 : ¬ pickI x.k 7 < 5) : SCalls Tryd.prog g 27 [x.tv] [] (tv (valOf x)) [] := by
  refine call_of1 hmix tf_morainelaw03_ValOf rfl rfl ?_
  obtain ⟨hk, hn, hs, hl, hlen⟩ := hx
  simp only [vcA, Int.reduceEq, Int.reduceAdd, Int.reduceSub, Nat.reduceBEq, Nat.reduceEqDiff, reduceCtorEq, Nat.reduceAdd, Nat.reduceSub, Nat.reduceMul, Nat.reduceLeDiff, Int.reduceToNat, Int.reduceLT, Int.reduceLE, Int.reduceNeg, reduceIte, RawV.tv, I, S]
  (with_reducible apply v_call); (· simp only [vcA, Int.reduceEq, Int.reduceAdd, Int.reduceSub, Nat.reduceBEq, Nat.reduceEqDiff, reduceCtorEq, Nat.reduceAdd, Nat.reduceSub, Nat.reduceMul, Nat.reduceLeDiff, Int.reduceToNat, Int.reduceLT, Int.reduceLE, Int.reduceNeg, reduceIte, I, S]; with_reducible rfl); (· exact pickI_ok g _ _ hk (by decide)); (· rfl); (· simp only [vcA, Int.reduceEq, Int.reduceAdd, Int.reduceSub, Nat.reduceBEq, Nat.reduceEqDiff, reduceCtorEq, Nat.reduceAdd, Nat.reduceSub, Nat.reduceMul, Nat.reduceLeDiff, Int.reduceToNat, Int.reduceLT, Int.reduceLE, Int.reduceNeg, reduceIte, I, S]; with_reducible rfl)
  simp only [vcA, Int.reduceEq, Int.reduceAdd, Int.reduceSub, Nat.reduceBEq, Nat.reduceEqDiff, reduceCtorEq, Nat.reduceAdd, Nat.reduceSub, Nat.reduceMul, Nat.reduceLeDiff, Int.reduceToNat, Int.reduceLT, Int.reduceLE, Int.reduceNeg, reduceIte, hk5, I, S]
  refine v_loop (σ := { i : Nat // i ≤ x.l.length ∧ i ≤ 12 })
    (fun i => ⟨[(1, .ptr 1 0), (2, .ptr 2 0), (5, .ptr 5 0), (6, I (i.1 : Int))], [(1, [I x.k, I x.n, S (str x.s), .pv (.sl 3 (x.l.map R1.row))]), (2, [I 0, I 0, S ⟨#[]⟩, nilT]), (5, [I 5, I 0, S ⟨#[]⟩, .own 3000 4 (V.rows (onesTo x.l i.1))])], [(3000, (31, 4, i.1))], []⟩)
    (fun i => 12 - i.1) ⟨0, Nat.zero_le _, Nat.zero_le _⟩ ?_ ?_
  · refine ES.Lw.trans ?_ (adB_lw (x := 5) (j := 3) (d := 3000) (e := 31) (W := 4) (.inr (by decide)) (by decide) rfl (by simp only [vcA, Int.reduceEq, Int.reduceAdd, Int.reduceSub, Nat.reduceBEq, Nat.reduceEqDiff, reduceCtorEq, Nat.reduceAdd, Nat.reduceSub, Nat.reduceMul, Nat.reduceLeDiff, Int.reduceToNat, Int.reduceLT, Int.reduceLE, Int.reduceNeg, reduceIte]) rfl)
    exact lw_eq rfl
  rintro ⟨i, hi, h12⟩
  have ol := onesTo_len hi
  simp only [vcA, Int.reduceEq, Int.reduceAdd, Int.reduceSub, Nat.reduceBEq, Nat.reduceEqDiff, reduceCtorEq, Nat.reduceAdd, Nat.reduceSub, Nat.reduceMul, Nat.reduceLeDiff, Int.reduceToNat, Int.reduceLT, Int.reduceLE, Int.reduceNeg, reduceIte, I, S, tv, nv, tyT, RawV.tv, R1.row, rowsGet, rowsLen, row4, Vk, Vn, Vs, Vl, nilT]
  have he : valOf x = .mk 5 0 [] (oneL x.l) := by unfold valOf; rw [if_neg hk5]
  have hend : (i = x.l.length ∨ i = 12) → onesTo x.l i = oneL x.l := by
    intro h
    unfold oneL onesTo
    rcases h with h | h
    · rw [h, List.take_of_length_le (Nat.le_refl _), List.take_of_length_le (by omega)]; rfl
    · rw [h]; rfl
  refine ⟨fun h1 => ⟨fun h2 => .inl ⟨by omega, fun r hr => ?_⟩, fun h2 => ?_⟩, fun h1 => ?_⟩
  · obtain ⟨o1, o2, o3⟩ := hl r (List.mem_of_getElem? hr)
    (with_reducible apply v_call); (· simp only [vcA, Int.reduceEq, Int.reduceAdd, Int.reduceSub, Nat.reduceBEq, Nat.reduceEqDiff, reduceCtorEq, Nat.reduceAdd, Nat.reduceSub, Nat.reduceMul, Nat.reduceLeDiff, Int.reduceToNat, Int.reduceLT, Int.reduceLE, Int.reduceNeg, reduceIte, I, S]; with_reducible rfl); (· exact pickI_ok g _ _ o1 (by decide)); (· rfl); (· simp only [vcA, Int.reduceEq, Int.reduceAdd, Int.reduceSub, Nat.reduceBEq, Nat.reduceEqDiff, reduceCtorEq, Nat.reduceAdd, Nat.reduceSub, Nat.reduceMul, Nat.reduceLeDiff, Int.reduceToNat, Int.reduceLT, Int.reduceLE, Int.reduceNeg, reduceIte, I, S]; with_reducible rfl)
    simp only [vcA, Int.reduceEq, Int.reduceAdd, Int.reduceSub, Nat.reduceBEq, Nat.reduceEqDiff, reduceCtorEq, Nat.reduceAdd, Nat.reduceSub, Nat.reduceMul, Nat.reduceLeDiff, Int.reduceToNat, Int.reduceLT, Int.reduceLE, Int.reduceNeg, reduceIte, I, S, tv, nv, tyT, RawV.tv, R1.row, rowsGet, rowsLen, row4, Vk, Vn, Vs, Vl]
    refine ⟨by omega, fun r' hr' => ?_⟩
    rw [hr] at hr'; cases hr'
    have HV := (valOne_ok g (pickI r.k 5) r.k r.n r.s o2 o3).out (nv_tv (valOne_l _ _ _))
    unfold tv at HV
    rw [valOne_l, V.rows_nil] at HV
    (with_reducible apply v_call); (· simp only [vcA, Int.reduceEq, Int.reduceAdd, Int.reduceSub, Nat.reduceBEq, Nat.reduceEqDiff, reduceCtorEq, Nat.reduceAdd, Nat.reduceSub, Nat.reduceMul, Nat.reduceLeDiff, Int.reduceToNat, Int.reduceLT, Int.reduceLE, Int.reduceNeg, reduceIte, I, S, tv, nv, tyT, RawV.tv, R1.row, rowsGet, rowsLen, row4, Vk, Vn, Vs, Vl]; with_reducible rfl); (· exact HV); (· rfl); (· simp only [vcA, Int.reduceEq, Int.reduceAdd, Int.reduceSub, Nat.reduceBEq, Nat.reduceEqDiff, reduceCtorEq, Nat.reduceAdd, Nat.reduceSub, Nat.reduceMul, Nat.reduceLeDiff, Int.reduceToNat, Int.reduceLT, Int.reduceLE, Int.reduceNeg, reduceIte, I, S, tv, nv, tyT, RawV.tv, R1.row, rowsGet, rowsLen, row4, Vk, Vn, Vs, Vl]; with_reducible rfl)
    simp only [vcA, Int.reduceEq, Int.reduceAdd, Int.reduceSub, Nat.reduceBEq, Nat.reduceEqDiff, reduceCtorEq, Nat.reduceAdd, Nat.reduceSub, Nat.reduceMul, Nat.reduceLeDiff, Int.reduceToNat, Int.reduceLT, Int.reduceLE, Int.reduceNeg, reduceIte, I, S, tv, nv, tyT, RawV.tv, R1.row, rowsGet, rowsLen, row4, Vk, Vn, Vs, Vl, ol]
    refine ⟨⟨by omega, by have hm : maxLen = 9223372036854775807 := rfl; omega⟩, loopK_of ⟨i + 1, by omega, by omega⟩ (by show 12 - (i + 1) < 12 - i; omega) ?_⟩
    have w1 : IntKind.i64.wrap ((i : Int) + 1) = ((i + 1 : Nat) : Int) := by rw [wrap64 (by omega) (by omega)]; omega
    refine lw_eq ?_
    simp only [onesTo_succ hr, rowsApp, rowNil (oneOf_l r), w1]
    rfl
  · rw [he, hend (.inr (by omega))]; rfl
  · rw [he, hend (.inl (by omega))]; rfl
theorem valOf_l_small {x : RawV} (h : pickI x.k 7 < 5) : (valOf x).l = [] := by
  unfold valOf; rw [if_pos h]; split
  · rfl
  · exact valOne_l _ _ _
theorem valOf_ok (g : Sh.Glob) (x : RawV) (hx : x.ok) : SCalls Tryd.prog g 27 [x.tv] [] (tv (valOf x)) [] := by
  by_cases h : pickI x.k 7 < 5
  · exact (valOf_small g x hx h).out (nv_tv (valOf_l_small h))
  · exact valOf_list g x hx h
end Go.Proofs.YtdlolkogifigpaaDoor
end

section
/- The statements' odd. No statement of the program is proved here. -/
namespace Go.Proofs.YtdlolkogifigpaaDoor
open Go Go.RowKit Go.Mor Go.Sh Go.Sh.Cd1
set_option maxRecDepth 100000
set_option maxHeartbeats 2000000
def numsTo (i : Nat) : List V := (List.range i).map fun j : Nat => V.mk 1 (j : Int) [] []
theorem numsTo_succ (i : Nat) : numsTo (i + 1) = numsTo i ++ [V.mk 1 (i : Int) [] []] := by simp [numsTo, List.range_succ]
/-- A value one thing of which is another one. -/
def oddV (v : V) (which n : Int) (s : List UInt8) : V :=
  if pickI which 6 = 0 then .mk n v.n v.s v.l else if pickI which 6 = 1 then .mk v.k n v.s v.l else if pickI which 6 = 2 then .mk v.k v.n s v.l
  else if pickI which 6 = 3 then .mk v.k v.n v.s (v.l ++ [.mk (pickI n 7) n [] []]) else if pickI which 6 = 4 then .mk v.k v.n v.s (v.l ++ numsTo (pickI n 14).toNat) else .mk v.k v.n v.s [v]
theorem V.rows_one (v : V) : V.rows [v] = [V.row v] := rfl
theorem pwk_row (l : List V) (k n : Int) : PWk (.sl 4 (V.rows l ++ [[.v (.int .i64 k), .v (.int .i64 n), .v (.string ⟨#[]⟩), .v (.slice none 0 0)]])) (.sl 4 (V.rows (l ++ [.mk k n [] []]))) := by
  rw [rowsApp, V.row_mk]
  refine pwk_last rfl (fun j c d h1 h2 => ?_)
  match j with
  | 0 => simp at h1 h2; subst h1; subst h2; exact .refl _
  | 1 => simp at h1 h2; subst h1; subst h2; exact .refl _
  | 2 => simp at h1 h2; subst h1; subst h2; exact .refl _
  | 3 => simp at h1 h2; subst h1; subst h2; exact pwk_nil 4
  | j + 4 => simp at h1
theorem odd_ok (g : Sh.Glob) (v : V) (which n : Int) (s : List UInt8) (hw : I64 which) (hn : I64 n) (hl : v.l.length ≤ 1000) : SCalls Tryd.prog g 31 [tv v, I which, I n, S (str s)] [] (tv (oddV v which n s)) [] := by
  have HP := pickI_ok g which 6 hw (by decide)
  have hm : maxLen = 9223372036854775807 := rfl
  unfold oddV
  generalize pickI which 6 = c at HP ⊢
  by_cases h0 : c = 0
  · refine call_of1 hmix tf_morainelaw03_odd rfl rfl ?_
    simp only [vcA, Int.reduceEq, Int.reduceAdd, Int.reduceSub, Nat.reduceBEq, Nat.reduceEqDiff, reduceCtorEq, Nat.reduceAdd, Nat.reduceSub, Nat.reduceMul, Nat.reduceLeDiff, Int.reduceToNat, Int.reduceLT, Int.reduceLE, Int.reduceNeg, reduceIte, I, S, tv, nv, tyT, RawV.tv, R1.row, rowsGet, rowsLen, row4, Vk, Vn, Vs, Vl]
    (with_reducible apply v_call); (· simp only [vcA, Int.reduceEq, Int.reduceAdd, Int.reduceSub, Nat.reduceBEq, Nat.reduceEqDiff, reduceCtorEq, Nat.reduceAdd, Nat.reduceSub, Nat.reduceMul, Nat.reduceLeDiff, Int.reduceToNat, Int.reduceLT, Int.reduceLE, Int.reduceNeg, reduceIte, I, S, tv, nv, tyT, RawV.tv, R1.row, rowsGet, rowsLen, row4, Vk, Vn, Vs, Vl]; with_reducible rfl); (· exact HP); (· rfl); (· simp only [vcA, Int.reduceEq, Int.reduceAdd, Int.reduceSub, Nat.reduceBEq, Nat.reduceEqDiff, reduceCtorEq, Nat.reduceAdd, Nat.reduceSub, Nat.reduceMul, Nat.reduceLeDiff, Int.reduceToNat, Int.reduceLT, Int.reduceLE, Int.reduceNeg, reduceIte, I, S, tv, nv, tyT, RawV.tv, R1.row, rowsGet, rowsLen, row4, Vk, Vn, Vs, Vl]; with_reducible rfl)
    simp only [vcA, Int.reduceEq, Int.reduceAdd, Int.reduceSub, Nat.reduceBEq, Nat.reduceEqDiff, reduceCtorEq, Nat.reduceAdd, Nat.reduceSub, Nat.reduceMul, Nat.reduceLeDiff, Int.reduceToNat, Int.reduceLT, Int.reduceLE, Int.reduceNeg, reduceIte, I, S, tv, nv, tyT, RawV.tv, R1.row, rowsGet, rowsLen, row4, Vk, Vn, Vs, Vl, h0]
  by_cases h1 : c = 1
  · refine call_of1 hmix tf_morainelaw03_odd rfl rfl ?_
    simp only [vcA, Int.reduceEq, Int.reduceAdd, Int.reduceSub, Nat.reduceBEq, Nat.reduceEqDiff, reduceCtorEq, Nat.reduceAdd, Nat.reduceSub, Nat.reduceMul, Nat.reduceLeDiff, Int.reduceToNat, Int.reduceLT, Int.reduceLE, Int.reduceNeg, reduceIte, I, S, tv, nv, tyT, RawV.tv, R1.row, rowsGet, rowsLen, row4, Vk, Vn, Vs, Vl]
    (with_reducible apply v_call); (· simp only [vcA, Int.reduceEq, Int.reduceAdd, Int.reduceSub, Nat.reduceBEq, Nat.reduceEqDiff, reduceCtorEq, Nat.reduceAdd, Nat.reduceSub, Nat.reduceMul, Nat.reduceLeDiff, Int.reduceToNat, Int.reduceLT, Int.reduceLE, Int.reduceNeg, reduceIte, I, S, tv, nv, tyT, RawV.tv, R1.row, rowsGet, rowsLen, row4, Vk, Vn, Vs, Vl]; with_reducible rfl); (· exact HP); (· rfl); (· simp only [vcA, Int.reduceEq, Int.reduceAdd, Int.reduceSub, Nat.reduceBEq, Nat.reduceEqDiff, reduceCtorEq, Nat.reduceAdd, Nat.reduceSub, Nat.reduceMul, Nat.reduceLeDiff, Int.reduceToNat, Int.reduceLT, Int.reduceLE, Int.reduceNeg, reduceIte, I, S, tv, nv, tyT, RawV.tv, R1.row, rowsGet, rowsLen, row4, Vk, Vn, Vs, Vl]; with_reducible rfl)
    simp only [vcA, Int.reduceEq, Int.reduceAdd, Int.reduceSub, Nat.reduceBEq, Nat.reduceEqDiff, reduceCtorEq, Nat.reduceAdd, Nat.reduceSub, Nat.reduceMul, Nat.reduceLeDiff, Int.reduceToNat, Int.reduceLT, Int.reduceLE, Int.reduceNeg, reduceIte, I, S, tv, nv, tyT, RawV.tv, R1.row, rowsGet, rowsLen, row4, Vk, Vn, Vs, Vl, h1]
  by_cases h2 : c = 2
  · refine call_of1 hmix tf_morainelaw03_odd rfl rfl ?_
    simp only [vcA, Int.reduceEq, Int.reduceAdd, Int.reduceSub, Nat.reduceBEq, Nat.reduceEqDiff, reduceCtorEq, Nat.reduceAdd, Nat.reduceSub, Nat.reduceMul, Nat.reduceLeDiff, Int.reduceToNat, Int.reduceLT, Int.reduceLE, Int.reduceNeg, reduceIte, I, S, tv, nv, tyT, RawV.tv, R1.row, rowsGet, rowsLen, row4, Vk, Vn, Vs, Vl]
    (with_reducible apply v_call); (· simp only [vcA, Int.reduceEq, Int.reduceAdd, Int.reduceSub, Nat.reduceBEq, Nat.reduceEqDiff, reduceCtorEq, Nat.reduceAdd, Nat.reduceSub, Nat.reduceMul, Nat.reduceLeDiff, Int.reduceToNat, Int.reduceLT, Int.reduceLE, Int.reduceNeg, reduceIte, I, S, tv, nv, tyT, RawV.tv, R1.row, rowsGet, rowsLen, row4, Vk, Vn, Vs, Vl]; with_reducible rfl); (· exact HP); (· rfl); (· simp only [vcA, Int.reduceEq, Int.reduceAdd, Int.reduceSub, Nat.reduceBEq, Nat.reduceEqDiff, reduceCtorEq, Nat.reduceAdd, Nat.reduceSub, Nat.reduceMul, Nat.reduceLeDiff, Int.reduceToNat, Int.reduceLT, Int.reduceLE, Int.reduceNeg, reduceIte, I, S, tv, nv, tyT, RawV.tv, R1.row, rowsGet, rowsLen, row4, Vk, Vn, Vs, Vl]; with_reducible rfl)
    simp only [vcA, Int.reduceEq, Int.reduceAdd, Int.reduceSub, Nat.reduceBEq, Nat.reduceEqDiff, reduceCtorEq, Nat.reduceAdd, Nat.reduceSub, Nat.reduceMul, Nat.reduceLeDiff, Int.reduceToNat, Int.reduceLT, Int.reduceLE, Int.reduceNeg, reduceIte, I, S, tv, nv, tyT, RawV.tv, R1.row, rowsGet, rowsLen, row4, Vk, Vn, Vs, Vl, h2]
  by_cases h3 : c = 3
  · subst h3
    rw [if_neg (by decide), if_neg (by decide), if_neg (by decide), if_pos rfl]
    refine SCalls.out ?_ (wk4 (wk_pv (pwk_row v.l (pickI n 7) n)))
    refine call_of1 hmix tf_morainelaw03_odd rfl rfl ?_
    simp only [vcA, Int.reduceEq, Int.reduceAdd, Int.reduceSub, Nat.reduceBEq, Nat.reduceEqDiff, reduceCtorEq, Nat.reduceAdd, Nat.reduceSub, Nat.reduceMul, Nat.reduceLeDiff, Int.reduceToNat, Int.reduceLT, Int.reduceLE, Int.reduceNeg, reduceIte, I, S, tv, nv, tyT, RawV.tv, R1.row, rowsGet, rowsLen, row4, Vk, Vn, Vs, Vl]
    (with_reducible apply v_call); (· simp only [vcA, Int.reduceEq, Int.reduceAdd, Int.reduceSub, Nat.reduceBEq, Nat.reduceEqDiff, reduceCtorEq, Nat.reduceAdd, Nat.reduceSub, Nat.reduceMul, Nat.reduceLeDiff, Int.reduceToNat, Int.reduceLT, Int.reduceLE, Int.reduceNeg, reduceIte, I, S, tv, nv, tyT, RawV.tv, R1.row, rowsGet, rowsLen, row4, Vk, Vn, Vs, Vl]; with_reducible rfl); (· exact HP); (· rfl); (· simp only [vcA, Int.reduceEq, Int.reduceAdd, Int.reduceSub, Nat.reduceBEq, Nat.reduceEqDiff, reduceCtorEq, Nat.reduceAdd, Nat.reduceSub, Nat.reduceMul, Nat.reduceLeDiff, Int.reduceToNat, Int.reduceLT, Int.reduceLE, Int.reduceNeg, reduceIte, I, S, tv, nv, tyT, RawV.tv, R1.row, rowsGet, rowsLen, row4, Vk, Vn, Vs, Vl]; with_reducible rfl)
    simp only [vcA, Int.reduceEq, Int.reduceAdd, Int.reduceSub, Nat.reduceBEq, Nat.reduceEqDiff, reduceCtorEq, Nat.reduceAdd, Nat.reduceSub, Nat.reduceMul, Nat.reduceLeDiff, Int.reduceToNat, Int.reduceLT, Int.reduceLE, Int.reduceNeg, reduceIte, I, S, tv, nv, tyT, RawV.tv, R1.row, rowsGet, rowsLen, row4, Vk, Vn, Vs, Vl]
    refine ⟨⟨by omega, by omega⟩, ?_⟩
    (with_reducible apply v_call); (· simp only [vcA, Int.reduceEq, Int.reduceAdd, Int.reduceSub, Nat.reduceBEq, Nat.reduceEqDiff, reduceCtorEq, Nat.reduceAdd, Nat.reduceSub, Nat.reduceMul, Nat.reduceLeDiff, Int.reduceToNat, Int.reduceLT, Int.reduceLE, Int.reduceNeg, reduceIte, I, S, tv, nv, tyT, RawV.tv, R1.row, rowsGet, rowsLen, row4, Vk, Vn, Vs, Vl]; with_reducible rfl); (· exact pickI_ok g _ _ hn (by decide)); (· rfl); (· simp only [vcA, Int.reduceEq, Int.reduceAdd, Int.reduceSub, Nat.reduceBEq, Nat.reduceEqDiff, reduceCtorEq, Nat.reduceAdd, Nat.reduceSub, Nat.reduceMul, Nat.reduceLeDiff, Int.reduceToNat, Int.reduceLT, Int.reduceLE, Int.reduceNeg, reduceIte, I, S, tv, nv, tyT, RawV.tv, R1.row, rowsGet, rowsLen, row4, Vk, Vn, Vs, Vl]; with_reducible rfl)
    simp only [vcA, Int.reduceEq, Int.reduceAdd, Int.reduceSub, Nat.reduceBEq, Nat.reduceEqDiff, reduceCtorEq, Nat.reduceAdd, Nat.reduceSub, Nat.reduceMul, Nat.reduceLeDiff, Int.reduceToNat, Int.reduceLT, Int.reduceLE, Int.reduceNeg, reduceIte, I, S, tv, nv, tyT, RawV.tv, R1.row, rowsGet, rowsLen, row4, Vk, Vn, Vs, Vl]
    exact ⟨by omega, by omega⟩
  by_cases h4 : c = 4
  · subst h4
    rw [if_neg (by decide), if_neg (by decide), if_neg (by decide), if_neg (by decide), if_pos rfl]
    refine call_of1 hmix tf_morainelaw03_odd rfl rfl ?_
    simp only [vcA, Int.reduceEq, Int.reduceAdd, Int.reduceSub, Nat.reduceBEq, Nat.reduceEqDiff, reduceCtorEq, Nat.reduceAdd, Nat.reduceSub, Nat.reduceMul, Nat.reduceLeDiff, Int.reduceToNat, Int.reduceLT, Int.reduceLE, Int.reduceNeg, reduceIte, I, S, tv, nv, tyT, RawV.tv, R1.row, rowsGet, rowsLen, row4, Vk, Vn, Vs, Vl]
    (with_reducible apply v_call); (· simp only [vcA, Int.reduceEq, Int.reduceAdd, Int.reduceSub, Nat.reduceBEq, Nat.reduceEqDiff, reduceCtorEq, Nat.reduceAdd, Nat.reduceSub, Nat.reduceMul, Nat.reduceLeDiff, Int.reduceToNat, Int.reduceLT, Int.reduceLE, Int.reduceNeg, reduceIte, I, S, tv, nv, tyT, RawV.tv, R1.row, rowsGet, rowsLen, row4, Vk, Vn, Vs, Vl]; with_reducible rfl); (· exact HP); (· rfl); (· simp only [vcA, Int.reduceEq, Int.reduceAdd, Int.reduceSub, Nat.reduceBEq, Nat.reduceEqDiff, reduceCtorEq, Nat.reduceAdd, Nat.reduceSub, Nat.reduceMul, Nat.reduceLeDiff, Int.reduceToNat, Int.reduceLT, Int.reduceLE, Int.reduceNeg, reduceIte, I, S, tv, nv, tyT, RawV.tv, R1.row, rowsGet, rowsLen, row4, Vk, Vn, Vs, Vl]; with_reducible rfl)
    simp only [vcA, Int.reduceEq, Int.reduceAdd, Int.reduceSub, Nat.reduceBEq, Nat.reduceEqDiff, reduceCtorEq, Nat.reduceAdd, Nat.reduceSub, Nat.reduceMul, Nat.reduceLeDiff, Int.reduceToNat, Int.reduceLT, Int.reduceLE, Int.reduceNeg, reduceIte, I, S, tv, nv, tyT, RawV.tv, R1.row, rowsGet, rowsLen, row4, Vk, Vn, Vs, Vl]
    have hp := pickI_lt (n := 14) (by decide) hn
    obtain ⟨N, hN⟩ : ∃ N : Nat, pickI n 14 = N := ⟨(pickI n 14).toNat, by omega⟩
    have HQ := pickI_ok g n 14 hn (by decide)
    rw [hN] at HQ hp ⊢
    refine v_loop (σ := { i : Nat // i ≤ N })
      (fun i => ⟨[(2, I n), (4, .ptr 4 0), (8, .ptr 8 0), (9, I (i.1 : Int))], [(4, [I v.k, I v.n, S (str v.s), .pv (.sl 4 (V.rows (v.l ++ numsTo i.1)))]), (8, [I 0, I 0, S ⟨#[]⟩, nilT])], [], []⟩)
      (fun i => N - i.1) ⟨0, Nat.zero_le _⟩ (lw_eq (by simp only [show v.l ++ numsTo 0 = v.l by simp [numsTo]]; rfl)) ?_
    rintro ⟨i, hi⟩
    have hlen : (v.l ++ numsTo i).length = v.l.length + i := by simp [numsTo]
    simp only [vcA, Int.reduceEq, Int.reduceAdd, Int.reduceSub, Nat.reduceBEq, Nat.reduceEqDiff, reduceCtorEq, Nat.reduceAdd, Nat.reduceSub, Nat.reduceMul, Nat.reduceLeDiff, Int.reduceToNat, Int.reduceLT, Int.reduceLE, Int.reduceNeg, reduceIte, I, S, tv, nv, tyT, RawV.tv, R1.row, rowsGet, rowsLen, row4, Vk, Vn, Vs, Vl, nilT]
    (with_reducible apply v_call); (· simp only [vcA, Int.reduceEq, Int.reduceAdd, Int.reduceSub, Nat.reduceBEq, Nat.reduceEqDiff, reduceCtorEq, Nat.reduceAdd, Nat.reduceSub, Nat.reduceMul, Nat.reduceLeDiff, Int.reduceToNat, Int.reduceLT, Int.reduceLE, Int.reduceNeg, reduceIte, I, S, tv, nv, tyT, RawV.tv, R1.row, rowsGet, rowsLen, row4, Vk, Vn, Vs, Vl]; with_reducible rfl); (· exact HQ); (· rfl); (· simp only [vcA, Int.reduceEq, Int.reduceAdd, Int.reduceSub, Nat.reduceBEq, Nat.reduceEqDiff, reduceCtorEq, Nat.reduceAdd, Nat.reduceSub, Nat.reduceMul, Nat.reduceLeDiff, Int.reduceToNat, Int.reduceLT, Int.reduceLE, Int.reduceNeg, reduceIte, I, S, tv, nv, tyT, RawV.tv, R1.row, rowsGet, rowsLen, row4, Vk, Vn, Vs, Vl]; with_reducible rfl)
    generalize hL : v.l ++ numsTo i = L at hlen
    simp only [vcA, Int.reduceEq, Int.reduceAdd, Int.reduceSub, Nat.reduceBEq, Nat.reduceEqDiff, reduceCtorEq, Nat.reduceAdd, Nat.reduceSub, Nat.reduceMul, Nat.reduceLeDiff, Int.reduceToNat, Int.reduceLT, Int.reduceLE, Int.reduceNeg, reduceIte, I, S, tv, nv, tyT, RawV.tv, R1.row, rowsGet, rowsLen, row4, Vk, Vn, Vs, Vl]
    refine ⟨fun hlt => ⟨⟨by omega, by omega⟩, ⟨by omega, by omega⟩, ?_⟩, fun hge => ?_⟩
    · refine loopK_of ⟨i + 1, by omega⟩ (by show N - (i + 1) < N - i; omega) ?_
      have w1 : IntKind.i64.wrap ((i : Int) + 1) = ((i + 1 : Nat) : Int) := by rw [wrap64 (by omega) (by omega)]; omega
      refine ES.Lw.trans ?_ (reB_lw (k := 4) (ds := [I v.k, I v.n, S (str v.s), .pv (.sl 4 (V.rows (L ++ [.mk 1 (i : Int) [] []])))]) rfl rfl (fun j c d hc hd => ?_))
      · rw [show v.l ++ numsTo (i + 1) = L ++ [.mk 1 (i : Int) [] []] by rw [numsTo_succ, ← List.append_assoc, hL], w1]
        apply lw_of <;> simp [leL, lk, sv, Nat.beq, I, S, ES.kill, has, drp, nilT]
      · match j with
        | 0 => simp at hc hd; subst hc; subst hd; exact .refl _
        | 1 => simp at hc hd; subst hc; subst hd; exact .refl _
        | 2 => simp at hc hd; subst hc; subst hd; exact .refl _
        | 3 => simp at hc hd; subst hc; subst hd; exact wk_own_pv (pwk_row L 1 (i : Int))
        | j + 4 => simp at hc
    · obtain rfl : i = N := by omega
      rw [← hL]
  · refine call_of1 hmix tf_morainelaw03_odd rfl rfl ?_
    simp only [vcA, Int.reduceEq, Int.reduceAdd, Int.reduceSub, Nat.reduceBEq, Nat.reduceEqDiff, reduceCtorEq, Nat.reduceAdd, Nat.reduceSub, Nat.reduceMul, Nat.reduceLeDiff, Int.reduceToNat, Int.reduceLT, Int.reduceLE, Int.reduceNeg, reduceIte, I, S, tv, nv, tyT, RawV.tv, R1.row, rowsGet, rowsLen, row4, Vk, Vn, Vs, Vl]
    (with_reducible apply v_call); (· simp only [vcA, Int.reduceEq, Int.reduceAdd, Int.reduceSub, Nat.reduceBEq, Nat.reduceEqDiff, reduceCtorEq, Nat.reduceAdd, Nat.reduceSub, Nat.reduceMul, Nat.reduceLeDiff, Int.reduceToNat, Int.reduceLT, Int.reduceLE, Int.reduceNeg, reduceIte, I, S, tv, nv, tyT, RawV.tv, R1.row, rowsGet, rowsLen, row4, Vk, Vn, Vs, Vl]; with_reducible rfl); (· exact HP); (· rfl); (· simp only [vcA, Int.reduceEq, Int.reduceAdd, Int.reduceSub, Nat.reduceBEq, Nat.reduceEqDiff, reduceCtorEq, Nat.reduceAdd, Nat.reduceSub, Nat.reduceMul, Nat.reduceLeDiff, Int.reduceToNat, Int.reduceLT, Int.reduceLE, Int.reduceNeg, reduceIte, I, S, tv, nv, tyT, RawV.tv, R1.row, rowsGet, rowsLen, row4, Vk, Vn, Vs, Vl]; with_reducible rfl)
    simp only [vcA, Int.reduceEq, Int.reduceAdd, Int.reduceSub, Nat.reduceBEq, Nat.reduceEqDiff, reduceCtorEq, Nat.reduceAdd, Nat.reduceSub, Nat.reduceMul, Nat.reduceLeDiff, Int.reduceToNat, Int.reduceLT, Int.reduceLE, Int.reduceNeg, reduceIte, I, S, tv, nv, tyT, RawV.tv, R1.row, rowsGet, rowsLen, row4, Vk, Vn, Vs, Vl, h0, h1, h2, h3, h4, V.rows_one]
end Go.Proofs.YtdlolkogifigpaaDoor
end

section
/- The order of values is one order. No statement of the program is proved here. -/
namespace Go.Proofs.YtdlolkogifigpaaDoor
open Go Go.Mor
/-- Three answers that fit each other. -/
structure Tri (p q r : Int) : Prop where
  a : -1 ≤ p ∧ p ≤ 1
  b : -1 ≤ q ∧ q ≤ 1
  c : -1 ≤ r ∧ r ≤ 1
  d : p = 0 → r = q
  e : q = 0 → r = p
  f : p = -1 → q = -1 → r = -1
  g : p = 1 → q = 1 → r = 1
theorem Tri.lex {p q r p' q' r' : Int} (h : Tri p q r) (h' : Tri p' q' r') : Tri (thenI p p') (thenI q q') (thenI r r') := by
  obtain ⟨a, b, c, d, e, f, g⟩ := h
  obtain ⟨a', b', c', d', e', f', g'⟩ := h'
  unfold thenI
  constructor <;> (repeat' split) <;> omega
theorem ordI_tri (a b c : Int) : Tri (ordI a b) (ordI b c) (ordI a c) := by
  unfold ordI
  constructor <;> (repeat' split) <;> omega
theorem ordI_anti (a b : Int) : ordI b a = -ordI a b := by
  unfold ordI; (repeat' split) <;> omega
/-- The order of texts, byte by byte. -/
def lexB : List UInt8 → List UInt8 → Int
  | [], [] => 0
  | [], _ :: _ => -1
  | _ :: _, [] => 1
  | a :: x, b :: y => thenI (ordI a.toNat b.toNat) (lexB x y)
theorem ordS_lex : ∀ (x y : List UInt8), ordS x y = lexB x y
  | [], [] => by simp [ordS, lexB, Op.bytesLess]
  | [], b :: y => by simp [ordS, lexB, Op.bytesLess]
  | a :: x, [] => by simp [ordS, lexB, Op.bytesLess]
  | a :: x, b :: y => by
    have ih := ordS_lex x y
    simp only [lexB, ← ih]
    unfold ordS ordI thenI
    simp only [Op.bytesLess]
    have hlt : (a < b) ↔ a.toNat < b.toNat := UInt8.lt_iff_toNat_lt
    have heq : (a = b) ↔ a.toNat = b.toNat := ⟨fun h => by rw [h], fun h => UInt8.toNat_inj.1 h⟩
    by_cases h1 : a.toNat < b.toNat
    · have : a < b := hlt.2 h1
      simp [this]; omega
    · have n1 : ¬ a < b := fun h => h1 (hlt.1 h)
      by_cases h2 : a = b
      · subst h2; simp
      · have n2 : ¬ a.toNat = b.toNat := fun h => h2 (heq.2 h)
        have h3 : b.toNat < a.toNat := by omega
        simp [n1, h2]; omega
def Rng (p : Int) : Prop := -1 ≤ p ∧ p ≤ 1
theorem Rng.lex {p q : Int} (h : Rng p) (h' : Rng q) : Rng (thenI p q) := by unfold thenI; split <;> assumption
theorem ordI_rng (a b : Int) : Rng (ordI a b) := (ordI_tri a a b).c
theorem tri_nxx {q : Int} (h : Rng q) : Tri (-1) q (-1) := by obtain ⟨h1, h2⟩ := h; constructor <;> omega
theorem tri_pnx {r : Int} (h : Rng r) : Tri 1 (-1) r := by obtain ⟨h1, h2⟩ := h; constructor <;> omega
theorem tri_xpp {p : Int} (h : Rng p) : Tri p 1 1 := by obtain ⟨h1, h2⟩ := h; constructor <;> omega
theorem lexB_rng : ∀ (x y : List UInt8), Rng (lexB x y)
  | [], [] => by simp [lexB, Rng]
  | [], b :: y => by simp [lexB, Rng]
  | a :: x, [] => by simp [lexB, Rng]
  | a :: x, b :: y => by simp only [lexB]; exact (ordI_rng _ _).lex (lexB_rng x y)
theorem lexB_tri : ∀ (x y z : List UInt8), Tri (lexB x y) (lexB y z) (lexB x z)
  | [], [], [] => by constructor <;> simp [lexB]
  | [], [], c :: z => by constructor <;> simp [lexB]
  | [], b :: y, [] => by constructor <;> simp [lexB]
  | a :: x, [], [] => by constructor <;> simp [lexB]
  | a :: x, [], c :: z => by have := lexB_rng (a :: x) (c :: z); exact tri_pnx this
  | [], b :: y, c :: z => by have := lexB_rng (b :: y) (c :: z); exact tri_nxx this
  | a :: x, b :: y, [] => by have := lexB_rng (a :: x) (b :: y); exact tri_xpp this
  | a :: x, b :: y, c :: z => by
    simp only [lexB]; exact (ordI_tri _ _ _).lex (lexB_tri x y z)
theorem thenI_anti {a b c d : Int} (h : b = -a) (h' : d = -c) : thenI b d = -thenI a c := by
  unfold thenI; (repeat' split) <;> omega
theorem lexB_anti : ∀ (x y : List UInt8), lexB y x = -lexB x y
  | [], [] => by simp [lexB]
  | [], b :: y => by simp [lexB]
  | a :: x, [] => by simp [lexB]
  | a :: x, b :: y => by simp only [lexB]; exact thenI_anti (ordI_anti _ _) (lexB_anti x y)
theorem ordS_tri (a b c : List UInt8) : Tri (ordS a b) (ordS b c) (ordS a c) := by rw [ordS_lex, ordS_lex, ordS_lex]; exact lexB_tri a b c
theorem ordS_anti (a b : List UInt8) : ordS b a = -ordS a b := by rw [ordS_lex, ordS_lex]; exact lexB_anti a b
theorem ordS_rng (a b : List UInt8) : Rng (ordS a b) := by rw [ordS_lex]; exact lexB_rng a b
theorem cmpL_rng : ∀ (x y : List V), (∀ a ∈ x, ∀ b, Rng (cmpV a b)) → Rng (cmpL x y)
  | [], [], _ => by simp [cmpL, Rng]
  | [], b :: y, _ => by simp [cmpL, Rng]
  | a :: x, [], _ => by simp [cmpL, Rng]
  | a :: x, b :: y, h => by simp only [cmpL]; exact (h a (by simp) b).lex (cmpL_rng x y fun c hc => h c (by simp [hc]))
theorem cmpV_rngN (n : Nat) : ∀ x y : V, SizeOf.sizeOf x ≤ n → Rng (cmpV x y) := by
  induction n with
  | zero => intro x y h; cases x; simp at h
  | succ n ih =>
    intro x y h
    rw [cmpV_eq]
    refine (ordI_rng _ _).lex ((ordI_rng _ _).lex ((ordS_rng _ _).lex (cmpL_rng _ _ fun a ha b => ih a b ?_)))
    have := List.sizeOf_lt_of_mem ha
    cases x; simp [V.l] at h this ⊢; omega
theorem cmpV_rng (x y : V) : Rng (cmpV x y) := cmpV_rngN _ x y (Nat.le_refl _)
theorem cmpL_rng' (x y : List V) : Rng (cmpL x y) := cmpL_rng x y fun a _ b => cmpV_rng a b
theorem cmpL_tri : ∀ (x y z : List V), (∀ a ∈ x, ∀ b c, Tri (cmpV a b) (cmpV b c) (cmpV a c)) → Tri (cmpL x y) (cmpL y z) (cmpL x z)
  | [], [], [], _ => by constructor <;> simp [cmpL]
  | [], [], c :: z, _ => by constructor <;> simp [cmpL]
  | [], b :: y, [], _ => by constructor <;> simp [cmpL]
  | a :: x, [], [], _ => by constructor <;> simp [cmpL]
  | a :: x, [], c :: z, _ => by have := cmpL_rng' (a :: x) (c :: z); rw [show cmpL (a :: x) [] = 1 by simp [cmpL], show cmpL [] (c :: z) = -1 by simp [cmpL]]; exact tri_pnx this
  | [], b :: y, c :: z, _ => by have := cmpL_rng' (b :: y) (c :: z); rw [show cmpL [] (b :: y) = -1 by simp [cmpL], show cmpL [] (c :: z) = -1 by simp [cmpL]]; exact tri_nxx this
  | a :: x, b :: y, [], _ => by have := cmpL_rng' (a :: x) (b :: y); rw [show cmpL (b :: y) [] = 1 by simp [cmpL], show cmpL (a :: x) [] = 1 by simp [cmpL]]; exact tri_xpp this
  | a :: x, b :: y, c :: z, h => by
    simp only [cmpL]; exact (h a (by simp) b c).lex (cmpL_tri x y z fun d hd => h d (by simp [hd]))
theorem cmpV_triN (n : Nat) : ∀ x y z : V, SizeOf.sizeOf x ≤ n → Tri (cmpV x y) (cmpV y z) (cmpV x z) := by
  induction n with
  | zero => intro x y z h; cases x; simp at h
  | succ n ih =>
    intro x y z h
    rw [cmpV_eq x y, cmpV_eq y z, cmpV_eq x z]
    refine (ordI_tri _ _ _).lex ((ordI_tri _ _ _).lex ((ordS_tri _ _ _).lex (cmpL_tri _ _ _ fun a ha b c => ih a b c ?_)))
    have := List.sizeOf_lt_of_mem ha
    cases x; simp [V.l] at h this ⊢; omega
theorem cmpV_tri (x y z : V) : Tri (cmpV x y) (cmpV y z) (cmpV x z) := cmpV_triN _ x y z (Nat.le_refl _)
theorem cmpL_anti : ∀ (x y : List V), (∀ a ∈ x, ∀ b, cmpV b a = -cmpV a b) → cmpL y x = -cmpL x y
  | [], [], _ => by simp [cmpL]
  | [], b :: y, _ => by simp [cmpL]
  | a :: x, [], _ => by simp [cmpL]
  | a :: x, b :: y, h => by simp only [cmpL]; exact thenI_anti (h a (by simp) b) (cmpL_anti x y fun c hc => h c (by simp [hc]))
theorem cmpV_antiN (n : Nat) : ∀ x y : V, SizeOf.sizeOf x ≤ n → cmpV y x = -cmpV x y := by
  induction n with
  | zero => intro x y h; cases x; simp at h
  | succ n ih =>
    intro x y h
    rw [cmpV_eq x y, cmpV_eq y x]
    refine thenI_anti (ordI_anti _ _) (thenI_anti (ordI_anti _ _) (thenI_anti (ordS_anti _ _) (cmpL_anti _ _ fun a ha b => ih a b ?_)))
    have := List.sizeOf_lt_of_mem ha
    cases x; simp [V.l] at h this ⊢; omega
theorem cmpV_anti (x y : V) : cmpV y x = -cmpV x y := cmpV_antiN _ x y (Nat.le_refl _)
theorem cmpV_self (x : V) : cmpV x x = 0 := by have := cmpV_anti x x; omega
end Go.Proofs.YtdlolkogifigpaaDoor
end

section
/- The code of Cd1 is the program's; the examples run. No statement of the program is proved here. -/
namespace Go.Proofs.YtdlolkogifigpaaDoor
open Go Go.RowKit Go.Mor Go.Sh Go.Sh.Cd1
set_option maxRecDepth 100000
set_option maxHeartbeats 8000000

theorem funcs_ok : FuncsOk Tryd.prog funcs := by
  intro f G h
  unfold funcs at h
  split at h
  · cases h; exact ⟨_, _, _, _, tf_morainelaw03_ValBack⟩
  · cases h; exact ⟨_, _, _, _, tf_morainelaw03_ValOrder⟩
  · cases h; exact ⟨_, _, _, _, tf_morainelaw03_ValCut⟩
  · cases h; exact ⟨_, _, _, _, tf_morainelaw03_ValKinds⟩
  · cases h; exact ⟨_, _, _, _, tf_morainelaw03_ValFits⟩
  · cases h; exact ⟨_, _, _, _, tf_val_Zero⟩
  · cases h; exact ⟨_, _, _, _, tf_morainelaw03_awake⟩
  · cases h; exact ⟨_, _, _, _, tf_morainelaw03_ValOf⟩
  · cases h; exact ⟨_, _, _, _, tf_val_Encode⟩
  · cases h; exact ⟨_, _, _, _, tf_val_Decode⟩
  · cases h; exact ⟨_, _, _, _, tf_moraineref03_Same⟩
  · cases h; exact ⟨_, _, _, _, tf_morainelaw03_odd⟩
  · cases h; exact ⟨_, _, _, _, tf_val_Compare⟩
  · cases h; exact ⟨_, _, _, _, tf_val_Same⟩
  · cases h; exact ⟨_, _, _, _, tf_morainelaw03_pick⟩
  · cases h; exact ⟨_, _, _, _, tf_morainelaw03_ValType⟩
  · cases h; exact ⟨_, _, _, _, tf_morainelaw03_ValFit⟩
  · cases h; exact ⟨_, _, _, _, tf_val_Fits⟩
  · cases h; exact ⟨_, _, _, _, tf_val_rightType⟩
  · cases h; exact ⟨_, _, _, _, tf_val_Read⟩
  · cases h; exact ⟨_, _, _, _, tf_val_Right⟩
  · cases h; exact ⟨_, _, _, _, tf_morainelaw03_ValOne⟩
  · cases h; exact ⟨_, _, _, _, tf_val_lay⟩
  · cases h; exact ⟨_, _, _, _, tf___val_decoder__value⟩
  · cases h; exact ⟨_, _, _, _, tf_moraineref03_Compare⟩
  · cases h; exact ⟨_, _, _, _, tf_cmp_Compare_int_⟩
  · cases h; exact ⟨_, _, _, _, tf_cmp_Compare_string_⟩
  · cases h; exact ⟨_, _, _, _, tf_val_byItems_api_Val_⟩
  · cases h; exact ⟨_, _, _, _, tf_morainelaw03_fit⟩
  · cases h; exact ⟨_, _, _, _, tf_val_ofKind⟩
  · cases h; exact ⟨_, _, _, _, tf_slices_ContainsFunc___api_Val_api_Val_⟩
  · cases h; exact ⟨_, _, _, _, tf_val_Fits_1⟩
  · cases h; exact ⟨_, _, _, _, tf_moraineref03_IsText⟩
  · cases h; exact ⟨_, _, _, _, tf_val_reader⟩
  · cases h; exact ⟨_, _, _, _, tf_val_value⟩
  · cases h; exact ⟨_, _, _, _, tf_val_items⟩
  · cases h; exact ⟨_, _, _, _, tf_val_bare⟩
  · cases h; exact ⟨_, _, _, _, tf_val_rightText⟩
  · cases h; exact ⟨_, _, _, _, tf_val_rightID⟩
  · cases h; exact ⟨_, _, _, _, tf_val_noItem⟩
  · cases h; exact ⟨_, _, _, _, tf_morainelaw03_ValText⟩
  · cases h; exact ⟨_, _, _, _, tf___val_decoder__number⟩
  · cases h; exact ⟨_, _, _, _, tf___val_decoder__text⟩
  · cases h; exact ⟨_, _, _, _, tf___val_decoder__items⟩
  · cases h; exact ⟨_, _, _, _, tf_moraineref03_Order⟩
  · cases h; exact ⟨_, _, _, _, tf_cmp_isNaN_int_⟩
  · cases h; exact ⟨_, _, _, _, tf_cmp_isNaN_string_⟩
  · cases h; exact ⟨_, _, _, _, tf_slices_IndexFunc___api_Val_api_Val_⟩
  · cases h; exact ⟨_, _, _, _, tf_moraineref03_Sign⟩
  · cases h; exact ⟨_, _, _, _, tf_val_reader_1⟩
  · cases h; exact ⟨_, _, _, _, tf_val_first⟩
  · cases h; exact ⟨_, _, _, _, tf_val_quoted⟩
  · cases h; exact ⟨_, _, _, _, tf_val_reference⟩
  · cases h; exact ⟨_, _, _, _, tf_val_number⟩
  · cases h; exact ⟨_, _, _, _, tf_val_sign⟩
  · cases h; exact ⟨_, _, _, _, tf_val_plain⟩
  · cases h; exact ⟨_, _, _, _, tf_val_sign_1⟩
  · cases h
theorem hmix0 : Tryd.prog.follows .mixedOrders = true := by kernel_rfl
theorem awake_run : callF Tryd.prog funcs prim1 100 14 26 [] [] = some (.pv (.v (.bool true)), []) := by kernel_rfl
theorem awake_ok (a0 a1 : Addr) (n : Nat) : SCalls Tryd.prog (gl a0 a1 n) 26 [] [] (.pv (.v (.bool true))) [] :=
  callF_sound hmix0 funcs_ok (prim1_sound a0 a1 n) 14 _ _ _ _ _ awake_run
end Go.Proofs.YtdlolkogifigpaaDoor
end

section
/- The law ValOrder, walked. No statement of the program is proved here. -/
namespace Go.Proofs.YtdlolkogifigpaaDoor
open Go Go.RowKit Go.Mor Go.Sh Go.Sh.Cd1
set_option maxRecDepth 100000
set_option maxHeartbeats 4000000
theorem bbEql (p q : Bool) : scal Tryd.prog (do eqGuard .eql 4 (.const (.bool p)) (.const (.bool q)) (.bool p) (.bool q); binOp .eql 4 (.bool p) (.bool q)) = some (.pv (.v (.bool (p == q))), .no) := by
  cases p <;> cases q <;> kernel_rfl
theorem small_flat {x : V} (h : x.l.length ≤ 1000) (hs : ∀ y ∈ x.l, y.l = []) : VSmall x := by
  obtain ⟨k, n, s, l⟩ := x
  have hm : maxLen = 9223372036854775807 := rfl
  refine .mk (by simp only [V.l] at h; omega) (fun y hy => ?_)
  have := hs y hy
  obtain ⟨k', n', s', l'⟩ := y
  simp only [V.l] at this; subst this
  exact .mk (by simp) (by simp)
theorem oneL_flat (l : List R1) : ∀ y ∈ oneL l, y.l = [] := by
  intro y hy
  simp only [oneL, List.mem_map] at hy
  obtain ⟨r, _, rfl⟩ := hy
  exact valOne_l _ _ _
theorem valOf_flat (x : RawV) : (valOf x).l.length ≤ 12 ∧ ∀ y ∈ (valOf x).l, y.l = [] := by
  by_cases h : pickI x.k 7 < 5
  · rw [valOf_l_small h]; simp
  · have : (valOf x).l = oneL x.l := by unfold valOf; rw [if_neg h]; rfl
    rw [this]
    exact ⟨by simp [oneL]; omega, oneL_flat _⟩
theorem valOf_vsmall (x : RawV) : VSmall (valOf x) := small_flat (by have := (valOf_flat x).1; omega) (valOf_flat x).2
theorem oddV_small (v : V) (which n : Int) (s : List UInt8) (hn : I64 n) (hl : v.l.length ≤ 12) (hf : ∀ y ∈ v.l, y.l = []) : VSmall (oddV v which n s) := by
  have hp := pickI_lt (n := 14) (by decide) hn
  unfold oddV
  split
  · exact small_flat (by rw [Vl]; omega) hf
  split
  · exact small_flat (by rw [Vl]; omega) hf
  split
  · exact small_flat (by rw [Vl]; omega) hf
  split
  · refine small_flat (by rw [Vl, List.length_append]; simp; omega) (fun y hy => ?_)
    simp only [Vl, List.mem_append, List.mem_singleton] at hy
    rcases hy with hy | rfl
    · exact hf y hy
    · rfl
  split
  · refine small_flat (by rw [Vl, List.length_append]; simp [numsTo]; omega) (fun y hy => ?_)
    simp only [Vl, numsTo, List.mem_append, List.mem_map] at hy
    rcases hy with hy | ⟨j, _, rfl⟩
    · exact hf y hy
    · rfl
  · refine .mk (by have hm : maxLen = 9223372036854775807 := rfl; simp; omega) (fun y hy => ?_)
    simp only [List.mem_singleton] at hy; subst hy
    exact small_flat (by omega) hf
theorem valOrder_ok (a0 a1 : Addr) (m : Nat) (x y z : RawV) (which n : Int) (s : List UInt8) (hx : x.ok) (hy : y.ok) (hz : z.ok) (hw : I64 which) (hn : I64 n) (hs : s.length ≤ 9223372036854775807) :
    SCalls Tryd.prog (gl a0 a1 m) 8 [x.tv, y.tv, z.tv, I which, I n, S (str s)] [] (.pv (.v (.bool true))) [] := by
  refine call_of0 hmix tf_morainelaw03_ValOrder rfl ?_
  have HA := awake_ok a0 a1 m
  have HX := valOf_ok (gl a0 a1 m) x hx
  have HY := valOf_ok (gl a0 a1 m) y hy
  have HZ := valOf_ok (gl a0 a1 m) z hz
  have sx := valOf_vsmall x
  have sy := valOf_vsmall y
  have fz := valOf_flat z
  have so := oddV_small (valOf z) which n (s.take 70) hn fz.1 fz.2
  have HO := odd_ok (gl a0 a1 m) (valOf z) which n (s.take 70) hw hn (by omega)
  unfold RawV.tv at HX HY HZ ⊢
  generalize valOf x = a at HX sx
  generalize valOf y = b at HY sy
  generalize valOf z = v at HZ HO so
  generalize oddV v which n (s.take 70) = c at HO so
  have T := cmpV_tri a b c
  have HAB := compare_ok (gl a0 a1 m) a b sx
  have HBC := compare_ok (gl a0 a1 m) b c sy
  have HAC := compare_ok (gl a0 a1 m) a c sx
  have HBA := compare_ok (gl a0 a1 m) b a sy
  have HCB := compare_ok (gl a0 a1 m) c b so
  have HCA := compare_ok (gl a0 a1 m) c a so
  rw [cmpV_anti a b] at HBA
  rw [cmpV_anti b c] at HCB
  rw [cmpV_anti a c] at HCA
  have SAB := same_ok (gl a0 a1 m) a b sx
  have SAC := same_ok (gl a0 a1 m) a c sx
  have SAA := same_ok (gl a0 a1 m) a a sx
  have HCC := compare_ok (gl a0 a1 m) c c so
  rw [cmpV_self] at SAA HCC
  generalize cmpV a b = ab at *
  generalize cmpV b c = bc at *
  generalize cmpV a c = ac at *
  obtain ⟨Ta, Tb, Tc, Td, Te, Tf, Tg⟩ := T
  have et : s.take (min (s.length : Int) 70).toNat = s.take 70 := by
    rcases Nat.le_total s.length 70 with h | h
    · rw [List.take_of_length_le (by omega), List.take_of_length_le h]
    · congr 1; omega
  simp only [vcA, Int.reduceEq, Int.reduceAdd, Int.reduceSub, Nat.reduceBEq, Nat.reduceEqDiff, reduceCtorEq, Nat.reduceAdd, Nat.reduceSub, Nat.reduceMul, Nat.reduceLeDiff, Int.reduceToNat, Int.reduceLT, Int.reduceLE, Int.reduceNeg, reduceIte, I, S, tv, nv, tyT, RawV.tv, R1.row, rowsGet, rowsLen, row4, Vk, Vn, Vs, Vl]
  (with_reducible apply v_call); (· simp only [vcA, Int.reduceEq, Int.reduceAdd, Int.reduceSub, Nat.reduceBEq, Nat.reduceEqDiff, reduceCtorEq, Nat.reduceAdd, Nat.reduceSub, Nat.reduceMul, Nat.reduceLeDiff, Int.reduceToNat, Int.reduceLT, Int.reduceLE, Int.reduceNeg, reduceIte, I, S, tv, nv, tyT, RawV.tv, R1.row, rowsGet, rowsLen, row4, Vk, Vn, Vs, Vl]; with_reducible rfl); (· exact HA); (· rfl); (· simp only [vcA, Int.reduceEq, Int.reduceAdd, Int.reduceSub, Nat.reduceBEq, Nat.reduceEqDiff, reduceCtorEq, Nat.reduceAdd, Nat.reduceSub, Nat.reduceMul, Nat.reduceLeDiff, Int.reduceToNat, Int.reduceLT, Int.reduceLE, Int.reduceNeg, reduceIte, I, S, tv, nv, tyT, RawV.tv, R1.row, rowsGet, rowsLen, row4, Vk, Vn, Vs, Vl]; with_reducible rfl)
  simp only [vcA, Int.reduceEq, Int.reduceAdd, Int.reduceSub, Nat.reduceBEq, Nat.reduceEqDiff, reduceCtorEq, Nat.reduceAdd, Nat.reduceSub, Nat.reduceMul, Nat.reduceLeDiff, Int.reduceToNat, Int.reduceLT, Int.reduceLE, Int.reduceNeg, reduceIte, I, S, tv, nv, tyT, RawV.tv, R1.row, rowsGet, rowsLen, row4, Vk, Vn, Vs, Vl]
  (with_reducible apply v_call); (· simp only [vcA, Int.reduceEq, Int.reduceAdd, Int.reduceSub, Nat.reduceBEq, Nat.reduceEqDiff, reduceCtorEq, Nat.reduceAdd, Nat.reduceSub, Nat.reduceMul, Nat.reduceLeDiff, Int.reduceToNat, Int.reduceLT, Int.reduceLE, Int.reduceNeg, reduceIte, I, S, tv, nv, tyT, RawV.tv, R1.row, rowsGet, rowsLen, row4, Vk, Vn, Vs, Vl]; with_reducible rfl); (· exact HX); (· rfl); (· simp only [vcA, Int.reduceEq, Int.reduceAdd, Int.reduceSub, Nat.reduceBEq, Nat.reduceEqDiff, reduceCtorEq, Nat.reduceAdd, Nat.reduceSub, Nat.reduceMul, Nat.reduceLeDiff, Int.reduceToNat, Int.reduceLT, Int.reduceLE, Int.reduceNeg, reduceIte, I, S, tv, nv, tyT, RawV.tv, R1.row, rowsGet, rowsLen, row4, Vk, Vn, Vs, Vl]; with_reducible rfl)
  simp only [vcA, Int.reduceEq, Int.reduceAdd, Int.reduceSub, Nat.reduceBEq, Nat.reduceEqDiff, reduceCtorEq, Nat.reduceAdd, Nat.reduceSub, Nat.reduceMul, Nat.reduceLeDiff, Int.reduceToNat, Int.reduceLT, Int.reduceLE, Int.reduceNeg, reduceIte, I, S, tv, nv, tyT, RawV.tv, R1.row, rowsGet, rowsLen, row4, Vk, Vn, Vs, Vl]
  (with_reducible apply v_call); (· simp only [vcA, Int.reduceEq, Int.reduceAdd, Int.reduceSub, Nat.reduceBEq, Nat.reduceEqDiff, reduceCtorEq, Nat.reduceAdd, Nat.reduceSub, Nat.reduceMul, Nat.reduceLeDiff, Int.reduceToNat, Int.reduceLT, Int.reduceLE, Int.reduceNeg, reduceIte, I, S, tv, nv, tyT, RawV.tv, R1.row, rowsGet, rowsLen, row4, Vk, Vn, Vs, Vl]; with_reducible rfl); (· exact HY); (· rfl); (· simp only [vcA, Int.reduceEq, Int.reduceAdd, Int.reduceSub, Nat.reduceBEq, Nat.reduceEqDiff, reduceCtorEq, Nat.reduceAdd, Nat.reduceSub, Nat.reduceMul, Nat.reduceLeDiff, Int.reduceToNat, Int.reduceLT, Int.reduceLE, Int.reduceNeg, reduceIte, I, S, tv, nv, tyT, RawV.tv, R1.row, rowsGet, rowsLen, row4, Vk, Vn, Vs, Vl]; with_reducible rfl)
  simp only [vcA, Int.reduceEq, Int.reduceAdd, Int.reduceSub, Nat.reduceBEq, Nat.reduceEqDiff, reduceCtorEq, Nat.reduceAdd, Nat.reduceSub, Nat.reduceMul, Nat.reduceLeDiff, Int.reduceToNat, Int.reduceLT, Int.reduceLE, Int.reduceNeg, reduceIte, I, S, tv, nv, tyT, RawV.tv, R1.row, rowsGet, rowsLen, row4, Vk, Vn, Vs, Vl]
  (with_reducible apply v_call); (· simp only [vcA, Int.reduceEq, Int.reduceAdd, Int.reduceSub, Nat.reduceBEq, Nat.reduceEqDiff, reduceCtorEq, Nat.reduceAdd, Nat.reduceSub, Nat.reduceMul, Nat.reduceLeDiff, Int.reduceToNat, Int.reduceLT, Int.reduceLE, Int.reduceNeg, reduceIte, I, S, tv, nv, tyT, RawV.tv, R1.row, rowsGet, rowsLen, row4, Vk, Vn, Vs, Vl]; with_reducible rfl); (· exact HZ); (· rfl); (· simp only [vcA, Int.reduceEq, Int.reduceAdd, Int.reduceSub, Nat.reduceBEq, Nat.reduceEqDiff, reduceCtorEq, Nat.reduceAdd, Nat.reduceSub, Nat.reduceMul, Nat.reduceLeDiff, Int.reduceToNat, Int.reduceLT, Int.reduceLE, Int.reduceNeg, reduceIte, I, S, tv, nv, tyT, RawV.tv, R1.row, rowsGet, rowsLen, row4, Vk, Vn, Vs, Vl]; with_reducible rfl)
  simp only [vcA, Int.reduceEq, Int.reduceAdd, Int.reduceSub, Nat.reduceBEq, Nat.reduceEqDiff, reduceCtorEq, Nat.reduceAdd, Nat.reduceSub, Nat.reduceMul, Nat.reduceLeDiff, Int.reduceToNat, Int.reduceLT, Int.reduceLE, Int.reduceNeg, reduceIte, I, S, tv, nv, tyT, RawV.tv, R1.row, rowsGet, rowsLen, row4, Vk, Vn, Vs, Vl]
  refine ⟨by omega, by omega, ?_⟩
  rw [et]
  (with_reducible apply v_call); (· simp only [vcA, Int.reduceEq, Int.reduceAdd, Int.reduceSub, Nat.reduceBEq, Nat.reduceEqDiff, reduceCtorEq, Nat.reduceAdd, Nat.reduceSub, Nat.reduceMul, Nat.reduceLeDiff, Int.reduceToNat, Int.reduceLT, Int.reduceLE, Int.reduceNeg, reduceIte, I, S, tv, nv, tyT, RawV.tv, R1.row, rowsGet, rowsLen, row4, Vk, Vn, Vs, Vl]; with_reducible rfl); (· exact HO); (· rfl); (· simp only [vcA, Int.reduceEq, Int.reduceAdd, Int.reduceSub, Nat.reduceBEq, Nat.reduceEqDiff, reduceCtorEq, Nat.reduceAdd, Nat.reduceSub, Nat.reduceMul, Nat.reduceLeDiff, Int.reduceToNat, Int.reduceLT, Int.reduceLE, Int.reduceNeg, reduceIte, I, S, tv, nv, tyT, RawV.tv, R1.row, rowsGet, rowsLen, row4, Vk, Vn, Vs, Vl]; with_reducible rfl)
  simp only [vcA, Int.reduceEq, Int.reduceAdd, Int.reduceSub, Nat.reduceBEq, Nat.reduceEqDiff, reduceCtorEq, Nat.reduceAdd, Nat.reduceSub, Nat.reduceMul, Nat.reduceLeDiff, Int.reduceToNat, Int.reduceLT, Int.reduceLE, Int.reduceNeg, reduceIte, I, S, tv, nv, tyT, RawV.tv, R1.row, rowsGet, rowsLen, row4, Vk, Vn, Vs, Vl]
  (with_reducible apply v_call); (· simp only [vcA, Int.reduceEq, Int.reduceAdd, Int.reduceSub, Nat.reduceBEq, Nat.reduceEqDiff, reduceCtorEq, Nat.reduceAdd, Nat.reduceSub, Nat.reduceMul, Nat.reduceLeDiff, Int.reduceToNat, Int.reduceLT, Int.reduceLE, Int.reduceNeg, reduceIte, I, S, tv, nv, tyT, RawV.tv, R1.row, rowsGet, rowsLen, row4, Vk, Vn, Vs, Vl]; with_reducible rfl); (· exact HAB); (· rfl); (· simp only [vcA, Int.reduceEq, Int.reduceAdd, Int.reduceSub, Nat.reduceBEq, Nat.reduceEqDiff, reduceCtorEq, Nat.reduceAdd, Nat.reduceSub, Nat.reduceMul, Nat.reduceLeDiff, Int.reduceToNat, Int.reduceLT, Int.reduceLE, Int.reduceNeg, reduceIte, I, S, tv, nv, tyT, RawV.tv, R1.row, rowsGet, rowsLen, row4, Vk, Vn, Vs, Vl]; with_reducible rfl)
  simp only [vcA, Int.reduceEq, Int.reduceAdd, Int.reduceSub, Nat.reduceBEq, Nat.reduceEqDiff, reduceCtorEq, Nat.reduceAdd, Nat.reduceSub, Nat.reduceMul, Nat.reduceLeDiff, Int.reduceToNat, Int.reduceLT, Int.reduceLE, Int.reduceNeg, reduceIte, I, S, tv, nv, tyT, RawV.tv, R1.row, rowsGet, rowsLen, row4, Vk, Vn, Vs, Vl]
  (with_reducible apply v_call); (· simp only [vcA, Int.reduceEq, Int.reduceAdd, Int.reduceSub, Nat.reduceBEq, Nat.reduceEqDiff, reduceCtorEq, Nat.reduceAdd, Nat.reduceSub, Nat.reduceMul, Nat.reduceLeDiff, Int.reduceToNat, Int.reduceLT, Int.reduceLE, Int.reduceNeg, reduceIte, I, S, tv, nv, tyT, RawV.tv, R1.row, rowsGet, rowsLen, row4, Vk, Vn, Vs, Vl]; with_reducible rfl); (· exact HBC); (· rfl); (· simp only [vcA, Int.reduceEq, Int.reduceAdd, Int.reduceSub, Nat.reduceBEq, Nat.reduceEqDiff, reduceCtorEq, Nat.reduceAdd, Nat.reduceSub, Nat.reduceMul, Nat.reduceLeDiff, Int.reduceToNat, Int.reduceLT, Int.reduceLE, Int.reduceNeg, reduceIte, I, S, tv, nv, tyT, RawV.tv, R1.row, rowsGet, rowsLen, row4, Vk, Vn, Vs, Vl]; with_reducible rfl)
  simp only [vcA, Int.reduceEq, Int.reduceAdd, Int.reduceSub, Nat.reduceBEq, Nat.reduceEqDiff, reduceCtorEq, Nat.reduceAdd, Nat.reduceSub, Nat.reduceMul, Nat.reduceLeDiff, Int.reduceToNat, Int.reduceLT, Int.reduceLE, Int.reduceNeg, reduceIte, I, S, tv, nv, tyT, RawV.tv, R1.row, rowsGet, rowsLen, row4, Vk, Vn, Vs, Vl]
  (with_reducible apply v_call); (· simp only [vcA, Int.reduceEq, Int.reduceAdd, Int.reduceSub, Nat.reduceBEq, Nat.reduceEqDiff, reduceCtorEq, Nat.reduceAdd, Nat.reduceSub, Nat.reduceMul, Nat.reduceLeDiff, Int.reduceToNat, Int.reduceLT, Int.reduceLE, Int.reduceNeg, reduceIte, I, S, tv, nv, tyT, RawV.tv, R1.row, rowsGet, rowsLen, row4, Vk, Vn, Vs, Vl]; with_reducible rfl); (· exact HAC); (· rfl); (· simp only [vcA, Int.reduceEq, Int.reduceAdd, Int.reduceSub, Nat.reduceBEq, Nat.reduceEqDiff, reduceCtorEq, Nat.reduceAdd, Nat.reduceSub, Nat.reduceMul, Nat.reduceLeDiff, Int.reduceToNat, Int.reduceLT, Int.reduceLE, Int.reduceNeg, reduceIte, I, S, tv, nv, tyT, RawV.tv, R1.row, rowsGet, rowsLen, row4, Vk, Vn, Vs, Vl]; with_reducible rfl)
  simp only [vcA, Int.reduceEq, Int.reduceAdd, Int.reduceSub, Nat.reduceBEq, Nat.reduceEqDiff, reduceCtorEq, Nat.reduceAdd, Nat.reduceSub, Nat.reduceMul, Nat.reduceLeDiff, Int.reduceToNat, Int.reduceLT, Int.reduceLE, Int.reduceNeg, reduceIte, I, S, tv, nv, tyT, RawV.tv, R1.row, rowsGet, rowsLen, row4, Vk, Vn, Vs, Vl]
  (with_reducible apply v_call); (· simp only [vcA, Int.reduceEq, Int.reduceAdd, Int.reduceSub, Nat.reduceBEq, Nat.reduceEqDiff, reduceCtorEq, Nat.reduceAdd, Nat.reduceSub, Nat.reduceMul, Nat.reduceLeDiff, Int.reduceToNat, Int.reduceLT, Int.reduceLE, Int.reduceNeg, reduceIte, I, S, tv, nv, tyT, RawV.tv, R1.row, rowsGet, rowsLen, row4, Vk, Vn, Vs, Vl]; with_reducible rfl); (· exact HBA); (· rfl); (· simp only [vcA, Int.reduceEq, Int.reduceAdd, Int.reduceSub, Nat.reduceBEq, Nat.reduceEqDiff, reduceCtorEq, Nat.reduceAdd, Nat.reduceSub, Nat.reduceMul, Nat.reduceLeDiff, Int.reduceToNat, Int.reduceLT, Int.reduceLE, Int.reduceNeg, reduceIte, I, S, tv, nv, tyT, RawV.tv, R1.row, rowsGet, rowsLen, row4, Vk, Vn, Vs, Vl]; with_reducible rfl)
  have w1 : IntKind.i64.wrap (0 - -ab) = ab := by rw [wrap64 (by omega) (by omega)]; omega
  have w2 : IntKind.i64.wrap (0 - -bc) = bc := by rw [wrap64 (by omega) (by omega)]; omega
  have w3 : IntKind.i64.wrap (0 - -ac) = ac := by rw [wrap64 (by omega) (by omega)]; omega
  have l1 : ¬ ab < -1 := by omega
  have l2 : ¬ 1 < ab := by omega
  simp only [vcA, Int.reduceEq, Int.reduceAdd, Int.reduceSub, Nat.reduceBEq, Nat.reduceEqDiff, reduceCtorEq, Nat.reduceAdd, Nat.reduceSub, Nat.reduceMul, Nat.reduceLeDiff, Int.reduceToNat, Int.reduceLT, Int.reduceLE, Int.reduceNeg, reduceIte, I, S, tv, nv, tyT, RawV.tv, R1.row, rowsGet, rowsLen, row4, Vk, Vn, Vs, Vl, w1]
  (with_reducible apply v_call); (· simp only [vcA, Int.reduceEq, Int.reduceAdd, Int.reduceSub, Nat.reduceBEq, Nat.reduceEqDiff, reduceCtorEq, Nat.reduceAdd, Nat.reduceSub, Nat.reduceMul, Nat.reduceLeDiff, Int.reduceToNat, Int.reduceLT, Int.reduceLE, Int.reduceNeg, reduceIte, I, S, tv, nv, tyT, RawV.tv, R1.row, rowsGet, rowsLen, row4, Vk, Vn, Vs, Vl]; with_reducible rfl); (· exact HCB); (· rfl); (· simp only [vcA, Int.reduceEq, Int.reduceAdd, Int.reduceSub, Nat.reduceBEq, Nat.reduceEqDiff, reduceCtorEq, Nat.reduceAdd, Nat.reduceSub, Nat.reduceMul, Nat.reduceLeDiff, Int.reduceToNat, Int.reduceLT, Int.reduceLE, Int.reduceNeg, reduceIte, I, S, tv, nv, tyT, RawV.tv, R1.row, rowsGet, rowsLen, row4, Vk, Vn, Vs, Vl]; with_reducible rfl)
  simp only [vcA, Int.reduceEq, Int.reduceAdd, Int.reduceSub, Nat.reduceBEq, Nat.reduceEqDiff, reduceCtorEq, Nat.reduceAdd, Nat.reduceSub, Nat.reduceMul, Nat.reduceLeDiff, Int.reduceToNat, Int.reduceLT, Int.reduceLE, Int.reduceNeg, reduceIte, I, S, tv, nv, tyT, RawV.tv, R1.row, rowsGet, rowsLen, row4, Vk, Vn, Vs, Vl, w2]
  (with_reducible apply v_call); (· simp only [vcA, Int.reduceEq, Int.reduceAdd, Int.reduceSub, Nat.reduceBEq, Nat.reduceEqDiff, reduceCtorEq, Nat.reduceAdd, Nat.reduceSub, Nat.reduceMul, Nat.reduceLeDiff, Int.reduceToNat, Int.reduceLT, Int.reduceLE, Int.reduceNeg, reduceIte, I, S, tv, nv, tyT, RawV.tv, R1.row, rowsGet, rowsLen, row4, Vk, Vn, Vs, Vl]; with_reducible rfl); (· exact HCA); (· rfl); (· simp only [vcA, Int.reduceEq, Int.reduceAdd, Int.reduceSub, Nat.reduceBEq, Nat.reduceEqDiff, reduceCtorEq, Nat.reduceAdd, Nat.reduceSub, Nat.reduceMul, Nat.reduceLeDiff, Int.reduceToNat, Int.reduceLT, Int.reduceLE, Int.reduceNeg, reduceIte, I, S, tv, nv, tyT, RawV.tv, R1.row, rowsGet, rowsLen, row4, Vk, Vn, Vs, Vl]; with_reducible rfl)
  simp only [vcA, Int.reduceEq, Int.reduceAdd, Int.reduceSub, Nat.reduceBEq, Nat.reduceEqDiff, reduceCtorEq, Nat.reduceAdd, Nat.reduceSub, Nat.reduceMul, Nat.reduceLeDiff, Int.reduceToNat, Int.reduceLT, Int.reduceLE, Int.reduceNeg, reduceIte, I, S, tv, nv, tyT, RawV.tv, R1.row, rowsGet, rowsLen, row4, Vk, Vn, Vs, Vl, w3, l1, l2]
  have hbb := bbEql
  repeat' (first | (apply And.intro) | (intro _))
  all_goals first
    | (exfalso; omega)
    | ((with_reducible apply v_call); (· simp only [vcA, Int.reduceEq, Int.reduceAdd, Int.reduceSub, Nat.reduceBEq, Nat.reduceEqDiff, reduceCtorEq, Nat.reduceAdd, Nat.reduceSub, Nat.reduceMul, Nat.reduceLeDiff, Int.reduceToNat, Int.reduceLT, Int.reduceLE, Int.reduceNeg, reduceIte, I, S, tv, nv, tyT, RawV.tv, R1.row, rowsGet, rowsLen, row4, Vk, Vn, Vs, Vl]; with_reducible rfl); (· exact SAB); (· rfl); (· simp only [vcA, Int.reduceEq, Int.reduceAdd, Int.reduceSub, Nat.reduceBEq, Nat.reduceEqDiff, reduceCtorEq, Nat.reduceAdd, Nat.reduceSub, Nat.reduceMul, Nat.reduceLeDiff, Int.reduceToNat, Int.reduceLT, Int.reduceLE, Int.reduceNeg, reduceIte, I, S, tv, nv, tyT, RawV.tv, R1.row, rowsGet, rowsLen, row4, Vk, Vn, Vs, Vl]; with_reducible rfl); simp only [vcA, Int.reduceEq, Int.reduceAdd, Int.reduceSub, Nat.reduceBEq, Nat.reduceEqDiff, reduceCtorEq, Nat.reduceAdd, Nat.reduceSub, Nat.reduceMul, Nat.reduceLeDiff, Int.reduceToNat, Int.reduceLT, Int.reduceLE, Int.reduceNeg, reduceIte, I, S, tv, nv, tyT, RawV.tv, R1.row, rowsGet, rowsLen, row4, Vk, Vn, Vs, Vl, hbb]; (with_reducible apply v_call); (· simp only [vcA, Int.reduceEq, Int.reduceAdd, Int.reduceSub, Nat.reduceBEq, Nat.reduceEqDiff, reduceCtorEq, Nat.reduceAdd, Nat.reduceSub, Nat.reduceMul, Nat.reduceLeDiff, Int.reduceToNat, Int.reduceLT, Int.reduceLE, Int.reduceNeg, reduceIte, I, S, tv, nv, tyT, RawV.tv, R1.row, rowsGet, rowsLen, row4, Vk, Vn, Vs, Vl]; with_reducible rfl); (· exact SAC); (· rfl); (· simp only [vcA, Int.reduceEq, Int.reduceAdd, Int.reduceSub, Nat.reduceBEq, Nat.reduceEqDiff, reduceCtorEq, Nat.reduceAdd, Nat.reduceSub, Nat.reduceMul, Nat.reduceLeDiff, Int.reduceToNat, Int.reduceLT, Int.reduceLE, Int.reduceNeg, reduceIte, I, S, tv, nv, tyT, RawV.tv, R1.row, rowsGet, rowsLen, row4, Vk, Vn, Vs, Vl]; with_reducible rfl); simp only [vcA, Int.reduceEq, Int.reduceAdd, Int.reduceSub, Nat.reduceBEq, Nat.reduceEqDiff, reduceCtorEq, Nat.reduceAdd, Nat.reduceSub, Nat.reduceMul, Nat.reduceLeDiff, Int.reduceToNat, Int.reduceLT, Int.reduceLE, Int.reduceNeg, reduceIte, I, S, tv, nv, tyT, RawV.tv, R1.row, rowsGet, rowsLen, row4, Vk, Vn, Vs, Vl, hbb]; (with_reducible apply v_call); (· simp only [vcA, Int.reduceEq, Int.reduceAdd, Int.reduceSub, Nat.reduceBEq, Nat.reduceEqDiff, reduceCtorEq, Nat.reduceAdd, Nat.reduceSub, Nat.reduceMul, Nat.reduceLeDiff, Int.reduceToNat, Int.reduceLT, Int.reduceLE, Int.reduceNeg, reduceIte, I, S, tv, nv, tyT, RawV.tv, R1.row, rowsGet, rowsLen, row4, Vk, Vn, Vs, Vl]; with_reducible rfl); (· exact HX); (· rfl); (· simp only [vcA, Int.reduceEq, Int.reduceAdd, Int.reduceSub, Nat.reduceBEq, Nat.reduceEqDiff, reduceCtorEq, Nat.reduceAdd, Nat.reduceSub, Nat.reduceMul, Nat.reduceLeDiff, Int.reduceToNat, Int.reduceLT, Int.reduceLE, Int.reduceNeg, reduceIte, I, S, tv, nv, tyT, RawV.tv, R1.row, rowsGet, rowsLen, row4, Vk, Vn, Vs, Vl]; with_reducible rfl); simp only [vcA, Int.reduceEq, Int.reduceAdd, Int.reduceSub, Nat.reduceBEq, Nat.reduceEqDiff, reduceCtorEq, Nat.reduceAdd, Nat.reduceSub, Nat.reduceMul, Nat.reduceLeDiff, Int.reduceToNat, Int.reduceLT, Int.reduceLE, Int.reduceNeg, reduceIte, I, S, tv, nv, tyT, RawV.tv, R1.row, rowsGet, rowsLen, row4, Vk, Vn, Vs, Vl]; (with_reducible apply v_call); (· simp only [vcA, Int.reduceEq, Int.reduceAdd, Int.reduceSub, Nat.reduceBEq, Nat.reduceEqDiff, reduceCtorEq, Nat.reduceAdd, Nat.reduceSub, Nat.reduceMul, Nat.reduceLeDiff, Int.reduceToNat, Int.reduceLT, Int.reduceLE, Int.reduceNeg, reduceIte, I, S, tv, nv, tyT, RawV.tv, R1.row, rowsGet, rowsLen, row4, Vk, Vn, Vs, Vl]; with_reducible rfl); (· exact SAA); (· rfl); (· simp only [vcA, Int.reduceEq, Int.reduceAdd, Int.reduceSub, Nat.reduceBEq, Nat.reduceEqDiff, reduceCtorEq, Nat.reduceAdd, Nat.reduceSub, Nat.reduceMul, Nat.reduceLeDiff, Int.reduceToNat, Int.reduceLT, Int.reduceLE, Int.reduceNeg, reduceIte, I, S, tv, nv, tyT, RawV.tv, R1.row, rowsGet, rowsLen, row4, Vk, Vn, Vs, Vl]; with_reducible rfl); simp only [vcA, Int.reduceEq, Int.reduceAdd, Int.reduceSub, Nat.reduceBEq, Nat.reduceEqDiff, reduceCtorEq, Nat.reduceAdd, Nat.reduceSub, Nat.reduceMul, Nat.reduceLeDiff, Int.reduceToNat, Int.reduceLT, Int.reduceLE, Int.reduceNeg, reduceIte, I, S, tv, nv, tyT, RawV.tv, R1.row, rowsGet, rowsLen, row4, Vk, Vn, Vs, Vl]; (with_reducible apply v_call); (· simp only [vcA, Int.reduceEq, Int.reduceAdd, Int.reduceSub, Nat.reduceBEq, Nat.reduceEqDiff, reduceCtorEq, Nat.reduceAdd, Nat.reduceSub, Nat.reduceMul, Nat.reduceLeDiff, Int.reduceToNat, Int.reduceLT, Int.reduceLE, Int.reduceNeg, reduceIte, I, S, tv, nv, tyT, RawV.tv, R1.row, rowsGet, rowsLen, row4, Vk, Vn, Vs, Vl]; with_reducible rfl); (· exact HCC); (· rfl); (· simp only [vcA, Int.reduceEq, Int.reduceAdd, Int.reduceSub, Nat.reduceBEq, Nat.reduceEqDiff, reduceCtorEq, Nat.reduceAdd, Nat.reduceSub, Nat.reduceMul, Nat.reduceLeDiff, Int.reduceToNat, Int.reduceLT, Int.reduceLE, Int.reduceNeg, reduceIte, I, S, tv, nv, tyT, RawV.tv, R1.row, rowsGet, rowsLen, row4, Vk, Vn, Vs, Vl]; with_reducible rfl); simp only [vcA, Int.reduceEq, Int.reduceAdd, Int.reduceSub, Nat.reduceBEq, Nat.reduceEqDiff, reduceCtorEq, Nat.reduceAdd, Nat.reduceSub, Nat.reduceMul, Nat.reduceLeDiff, Int.reduceToNat, Int.reduceLT, Int.reduceLE, Int.reduceNeg, reduceIte, I, S, tv, nv, tyT, RawV.tv, R1.row, rowsGet, rowsLen, row4, Vk, Vn, Vs, Vl])
end Go.Proofs.YtdlolkogifigpaaDoor
end
