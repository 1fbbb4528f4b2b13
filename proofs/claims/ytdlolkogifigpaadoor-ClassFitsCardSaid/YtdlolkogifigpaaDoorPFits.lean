/- Chapter 4: values that fit a class, in plain words. -/
import Derived.Test.YtdlolkogifigpaaDoorPVals
namespace Go.Mor
open Go Go.RowKit
set_option maxHeartbeats 1000000

theorem checkGo_ok : ∀ (fs : List Fld) (vs : List V) (k : Nat), (∀ (i : Nat) f v, fs[i]? = some f → vs[i]? = some v → fitsV v f.t = true) → checkGo k fs vs = (0, 0) := by
  intro fs
  induction fs with
  | nil => intro vs k _; simp [checkGo]
  | cons f r ih =>
    intro vs k h
    cases vs with
    | nil => simp [checkGo]
    | cons v q =>
      rw [checkGo, if_pos (h 0 f v rfl rfl)]
      exact ih q (k + 1) fun i f v hf hv => h (i + 1) f v (by simpa using hf) (by simpa using hv)
theorem checkGo_at : ∀ (fs : List Fld) (vs : List V) (k j : Nat) (f : Fld) (v : V), fs[j]? = some f → vs[j]? = some v → fitsV v f.t = false → (∀ (i : Nat) f v, i < j → fs[i]? = some f → vs[i]? = some v → fitsV v f.t = true) → checkGo k fs vs = (((k + j : Nat) : Int), 42) := by
  intro fs
  induction fs with
  | nil => intro vs k j f v hf; simp at hf
  | cons g r ih =>
    intro vs k j f v hf hv hno h
    cases vs with
    | nil => simp at hv
    | cons u q =>
      cases j with
      | zero =>
        obtain rfl : g = f := by simpa using hf
        obtain rfl : u = v := by simpa using hv
        rw [checkGo, hno]; simp
      | succ j =>
        rw [checkGo, if_pos (h 0 g u (by omega) rfl rfl)]
        rw [ih q (k + 1) j f v (by simpa using hf) (by simpa using hv) hno fun i f v hi hf hv => h (i + 1) f v (by omega) (by simpa using hf) (by simpa using hv)]
        congr 2; omega
theorem check_ok {c : Cls} {vs : List V} (hc : rightClass c = true) (hl : vs.length = c.fs.length) (h : ∀ (i : Nat) f v, c.fs[i]? = some f → vs[i]? = some v → fitsV v f.t = true) : check c vs = (0, 0) := by
  simp only [check, hc, Bool.not_true, Bool.false_eq_true, if_false, hl, ne_eq, not_true_eq_false]
  exact checkGo_ok _ _ _ h
theorem check_at {c : Cls} {vs : List V} (hc : rightClass c = true) (hl : vs.length = c.fs.length) {j : Nat} {f : Fld} {v : V} (hf : c.fs[j]? = some f) (hv : vs[j]? = some v) (hno : fitsV v f.t = false)
    (h : ∀ (i : Nat) f v, i < j → c.fs[i]? = some f → vs[i]? = some v → fitsV v f.t = true) : check c vs = ((j : Int), 42) := by
  simp only [check, hc, Bool.not_true, Bool.false_eq_true, if_false, hl, ne_eq, not_true_eq_false]
  rw [checkGo_at _ _ _ j f v hf hv hno h]; simp

theorem fits_mkVal (t : Ty) (n many : Int) (ht : rightType t = true) (hm : many ≤ 100000) : fitsV (mkVal t n many) t = true ∧ (mkVal t n many).s.length ≤ 60 ∧ ∀ y ∈ (mkVal t n many).l, y.s.length ≤ 60 := by
  obtain ⟨k, o⟩ := t
  by_cases h5 : k = 5
  · subst h5
    have ho : 1 ≤ o ∧ o ≤ 4 := by simpa [rightType] using ht
    have hp := pick_bound n 4 (by omega)
    have hall : ∀ y ∈ (List.range (pick n 4).toNat).map (fun i : Nat => mkVal1 o (n.tdiv 4 + (i : Int)) many), noItem y = false ∧ ofKind y o = true ∧ y.s.length ≤ 60 := by
      intro y hy
      obtain ⟨i, _, rfl⟩ := List.mem_map.1 hy
      obtain ⟨h1, _, h3, h4, h6⟩ := right1_of o (n.tdiv 4 + (i : Int)) many ho hm
      exact ⟨by simp [noItem, h1, h4], h3, h6⟩
    have e : mkVal ⟨5, o⟩ n many = .mk 5 0 [] ((List.range (pick n 4).toNat).map (fun i : Nat => mkVal1 o (n.tdiv 4 + (i : Int)) many)) := if_pos rfl
    rw [e]
    refine ⟨?_, by simp [V.s], fun y hy => (hall y hy).2.2⟩
    simp only [fitsV, Bool.and_eq_true]
    refine ⟨⟨⟨?_, ht⟩, by simp [ofKind, V.k]⟩, ?_⟩
    · simp only [rightV, V.k, V.n, V.s, V.l, if_true, Bool.and_eq_true, Bool.not_eq_true', List.any_eq_false]
      refine ⟨⟨⟨rfl, rfl⟩, by simp; omega⟩, fun y hy => by simpa using (hall y hy).1⟩
    · simp only [V.l, Bool.not_eq_true', List.any_eq_false]
      intro y hy
      simp [(hall y hy).2.1]
  · have hk : 1 ≤ k ∧ k ≤ 4 := by simp [rightType, h5] at ht; omega
    obtain ⟨h1, h2, h3, h4, h6⟩ := right1_of k n many hk hm
    have e : mkVal ⟨k, o⟩ n many = mkVal1 k n many := if_neg h5
    rw [e]
    refine ⟨?_, h6, by rw [h2]; intro y hy; cases hy⟩
    simp only [fitsV, rightV, if_neg h4, h1, ht, h3, h2]; simp
theorem fits_zero (t : Ty) (ht : rightType t = true) : fitsV (zeroV t) t = true := by
  obtain ⟨k, o⟩ := t
  by_cases h5 : k = 5
  · subst h5
    have ho : 1 ≤ o ∧ o ≤ 4 := by simpa [rightType] using ht
    simp [zeroV, ht, fitsV, rightV, ofKind, V.k, V.n, V.s, V.l]
  · have hk : (1 ≤ k ∧ k ≤ 4) ∧ o = 0 := by simp [rightType, h5] at ht; omega
    obtain ⟨hk, rfl⟩ := hk
    have : k = 1 ∨ k = 2 ∨ k = 3 ∨ k = 4 := by omega
    rcases this with rfl | rfl | rfl | rfl <;> rfl
theorem fits_nil (t : Ty) (ht : rightType t = true) : fitsV V.nil t = (t.k == 3 || t.k == 4) := by
  obtain ⟨k, o⟩ := t
  have h1 : rightV V.nil = true := rfl
  simp only [fitsV, h1, ht, Bool.true_and, ofKind, V.nil, V.k, V.l, List.any_nil, Bool.not_false, Bool.and_true]
  have : ((0 : Int) == k) = false := by
    rw [beq_eq_false_iff_ne]
    rintro rfl
    simp [rightType] at ht
  rw [this]; simp; intro _; rfl
/-- The field's other name. -/
def quite : List UInt8 := [113, 117, 105, 116, 101, 95, 110, 101, 119]
def other : List UInt8 := [111, 116, 104, 101, 114]
theorem quite_ne (f : Fld) (h : f.n.length ≤ 8) : f.n ≠ quite := by
  intro e; rw [e] at h; simp [quite] at h
theorem renamed_right (c : Cls) (h : GoodC c) {k : Nat} {f : Fld} (hk : c.fs[k]? = some f) : rightClass ⟨other, c.fs.set k ⟨quite, f.t, f.ix⟩⟩ = true := by
  have hf := h.fs f (List.mem_of_getElem? hk)
  have ho : rightName other = true := by decide
  refine (right_iff _).2 ⟨ho, by have := h.len; simp; omega, fun y hy => ?_, dist_set h.di hk fun i y hi hy he => ?_⟩
  · rcases mem_set' hy with rfl | hy
    · have h1 := hf.1
      simp only [rightField, Bool.and_eq_true] at h1 ⊢
      exact ⟨⟨by decide, h1.1.2⟩, h1.2⟩
    · exact (h.fs y hy).1
  · exact quite_ne y (h.fs y (List.mem_of_getElem? hy)).2 he
end Go.Mor
