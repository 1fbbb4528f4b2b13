/- slices.IndexFunc and slices.ContainsFunc over lists of values. -/
import Derived.Test.YtdlolkogifigpaaDoorVal1
set_option linter.unusedSimpArgs false
set_option linter.unusedVariables false
namespace Go.Proofs.YtdlolkogifigpaaDoor
open Go Go.RowKit Go.Mor
set_option maxHeartbeats 400000

theorem firstAt_none {α : Type} (p : α → Bool) (l : List α) (h : ∀ (i : Nat) x, l[i]? = some x → p x = false) : firstAt p l = -1 := by
  have : l.findIdx? p = none := by
    rw [List.findIdx?_eq_none_iff]
    intro x hx
    obtain ⟨i, hi⟩ := List.getElem?_of_mem hx
    exact h i x hi
  simp [firstAt, this]
theorem firstAt_some {α : Type} (p : α → Bool) (l : List α) (k : Nat) (x : α) (hx : l[k]? = some x) (hp : p x = true) (h : ∀ (i : Nat) y, i < k → l[i]? = some y → p y = false) : firstAt p l = k := by
  have : l.findIdx? p = some k := by
    rw [List.findIdx?_eq_some_iff_getElem]
    obtain ⟨hk, rfl⟩ := List.getElem?_eq_some_iff.1 hx
    refine ⟨hk, hp, fun j hj => ?_⟩
    have := h j _ hj (List.getElem?_eq_getElem (by omega))
    simp [this]
  simp [firstAt, this]
theorem firstAt_nonneg {α : Type} (p : α → Bool) (l : List α) : decide (0 ≤ firstAt p l) = l.any p := by
  unfold firstAt
  cases h : l.findIdx? p with
  | none =>
    rw [List.findIdx?_eq_none_iff] at h
    have : l.any p = false := by simpa using h
    rw [this]; simp
  | some i =>
    rw [List.findIdx?_eq_some_iff_getElem] at h
    obtain ⟨hi, hp, _⟩ := h
    have : l.any p = true := List.any_eq_true.2 ⟨_, List.getElem_mem hi, hp⟩
    rw [this]; simp

/-- The function value asks p of a value: whatever has been made since w. -/
def Asks (w : World) (f : FuncId) (caps : Array Value) (l : List V) (p : V → Bool) : Prop :=
  ∀ (x : V) (c : Value) (w1 : World), x ∈ l → IsL (fun _ => True) w1 x.l c → Below w.heap.size w w1 →
    Calls Tryd.prog f (#[.agg #[.int .i64 x.k, .int .i64 x.n, .string (str x.s), c]] ++ caps) w1 fun e w2 => e = .returned (.bool (p x)) ∧ Below w1.heap.size w1 w2

set_option maxRecDepth 4000 in
theorem indexV_any (l : List V) (c : Value) (f : FuncId) (caps : Array Value) (p : V → Bool) (w : World) (hL : IsL (fun _ => True) w l c) (hf : Asks w f caps l p) (hen : Enters Tryd.prog f) :
    Calls Tryd.prog 97 #[c, .func (.func f) #[] caps] w fun e w' => e = .returned (.int .i64 (firstAt p l)) ∧ Below w.heap.size w w' := by
  cases hL with
  | mk l b off cap q sub hcap hmax hp hc hs =>
  unfold maxLen at hmax
  go_enter Tryd.func97, Tryd.ntmps97
  go_wp2_with fail
  go_loopw [8] (fun i wr => ∃ k : Nat, k ≤ l.length ∧ i = .int .i64 k ∧ Below w.heap.size w wr ∧ Hid (∀ (i : Nat) y, i < k → l[i]? = some y → p y = false)) (fun i _ => l.length - (intOf i).toNat)
  case atStart => exact ⟨0, Nat.zero_le _, rfl, Below.refl _ _, fun i y h => absurd h (by omega)⟩
  case round =>
    obtain ⟨k, hk, rfl, hb, hno⟩ := hrel
    by_cases hlt : k < l.length
    · obtain ⟨x, hx⟩ : ∃ x, l[k]? = some x := ⟨_, List.getElem?_eq_getElem hlt⟩
      obtain ⟨rfl, _⟩ := hp (by rintro rfl; simp at hlt)
      obtain ⟨h0, h1, h2, h3⟩ := hc k x hx
      have e0 := (hb.cell (cell_lt h0)).trans h0
      have e1 := (hb.cell (cell_lt h1)).trans h1
      have e2 := (hb.cell (cell_lt h2)).trans h2
      have e3 := (hb.cell (cell_lt h3)).trans h3
      have HF := Lib.hid (hf x (sub k) wr (List.mem_of_getElem? hx) ((hs k x hx).ext hb) hb)
      have HX := Lib.hid hx
      have hen' := fun args w => hen args w
      clear hx h0 h1 h2 h3 hc hs hp hf hen
      go_wp2_with fail
      refine HF.out.mono ?_
      rintro e w2 ⟨rfl, hb2⟩
      have hb3 := hb.trans (hb2.mono hb.size)
      cases hpx : p x
      · clear hen'
        have HP := Lib.hid hpx
        clear hpx
        go_wp2_with fail
        go_roundw
        case rel =>
          refine ⟨k + 1, by omega, by go_num, hb3, fun i y hi hy => ?_⟩
          rcases Nat.lt_or_ge i k with h | h
          · exact hno i y h hy
          · obtain rfl : i = k := by omega
            have := hy.symm.trans HX.out
            injection this with this
            subst this
            exact HP.out
        case measure => simp [intOf]; omega
      · clear hen'
        have HP := Lib.hid hpx
        clear hpx
        go_wp2_with fail
        go_ret
        exact ⟨iret (firstAt_some p l k x HX.out HP.out hno).symm, hb3⟩
    · clear hp hc hs hf hen
      go_wp2_with fail
      go_ret
      refine ⟨iret (firstAt_none p l fun i y hy => hno.out i y ?_ hy).symm, hb⟩
      have := (List.getElem?_eq_some_iff.1 hy).1
      omega

theorem containsV_any (l : List V) (c : Value) (f : FuncId) (caps : Array Value) (p : V → Bool) (w : World) (hL : IsL (fun _ => True) w l c) (hf : Asks w f caps l p) (hen : Enters Tryd.prog f) :
    Calls Tryd.prog 69 #[c, .func (.func f) #[] caps] w fun e w' => e = .returned (.bool (l.any p)) ∧ Below w.heap.size w w' := by
  have H := Lib.hid (indexV_any l c f caps p w hL hf hen)
  clear hL hf hen
  go_enter Tryd.func69, Tryd.ntmps69
  go_wp2_with fail
  refine H.out.mono ?_
  rintro e w2 ⟨rfl, hb2⟩
  go_wp2_with fail
  all_goals go_ret
  all_goals exact ⟨bret (by rw [← firstAt_nonneg]), hb2⟩
end Go.Proofs.YtdlolkogifigpaaDoor
