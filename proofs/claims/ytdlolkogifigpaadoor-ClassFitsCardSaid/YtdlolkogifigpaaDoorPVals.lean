/- Chapter 4's made values in plain words: they fit their types. -/
import Derived.Test.YtdlolkogifigpaaDoorPCls
namespace Go.Mor
open Go Go.RowKit
set_option maxHeartbeats 1000000

def txts (i : Int) : List UInt8 := ([[], [97], [98, 99], [195, 169, 116, 195, 169], [97, 32, 98], [122, 122, 32, 116, 111, 112], [48], [45, 55]] : List (List UInt8)).getD i.toNat []
/-- A value of a kind that is no list. -/
def mkVal1 (k n many : Int) : V :=
  if k = 1 then .mk 1 (pick n 41 - 20) [] []
  else if k = 2 then .mk 2 0 (txts (pick n 8)) []
  else if many < 1 ∨ pick n 5 = 4 then V.nil
  else .mk k (1 + pick n many) [] []
def mkVal (t : Ty) (n many : Int) : V :=
  if t.k = 5 then .mk 5 0 [] ((List.range (pick n 4).toNat).map fun i : Nat => mkVal1 t.o (n.tdiv 4 + (i : Int)) many) else mkVal1 t.k n many
def rawN (l : List Int) (i : Nat) : Int := if l = [] then i else IntKind.i64.wrap (l.getD (i % l.length) 0 + i)
def mkVals (fs : List Fld) (l : List Int) (many : Int) : List V := fs.mapIdx fun i f => mkVal f.t (rawN l i) many

theorem txts_right (j : Int) (h0 : 0 ≤ j) (h1 : j < 8) : rightText (txts j) = true := by
  have : j = 0 ∨ j = 1 ∨ j = 2 ∨ j = 3 ∨ j = 4 ∨ j = 5 ∨ j = 6 ∨ j = 7 := by omega
  rcases this with rfl | rfl | rfl | rfl | rfl | rfl | rfl | rfl <;> rfl
theorem right1_of (k n many : Int) (hk : 1 ≤ k ∧ k ≤ 4) (hm : many ≤ 100000) : right1 (mkVal1 k n many) = true ∧ (mkVal1 k n many).l = [] ∧ ofKind (mkVal1 k n many) k = true ∧ (mkVal1 k n many).k ≠ 5 ∧ (mkVal1 k n many).s.length ≤ 60 := by
  unfold mkVal1
  by_cases h1 : k = 1
  · subst h1
    have := pick_bound n 41 (by omega)
    simp [right1, bare, ofKind, V.k, V.n, V.s, V.l]
    omega
  · rw [if_neg h1]
    by_cases h2 : k = 2
    · subst h2
      have h8 := pick_bound n 8 (by omega)
      have := txts_right _ h8.1 h8.2
      have hl : (txts (pick n 8)).length ≤ 60 := by simp only [rightText, Bool.and_eq_true, decide_eq_true_iff] at this; exact this.1
      simp [right1, ofKind, V.k, V.n, V.s, V.l, this, hl]
    · rw [if_neg h2]
      by_cases h3 : many < 1 ∨ pick n 5 = 4
      · rw [if_pos h3]
        have hk34 : k = 3 ∨ k = 4 := by omega
        refine ⟨by decide, rfl, ?_, by decide, by decide⟩
        rcases hk34 with rfl | rfl <;> decide
      · rw [if_neg h3]
        have := pick_bound n many (by omega)
        have hk34 : k = 3 ∨ k = 4 := by omega
        have hid : rightID (1 + pick n many) = true := by simp [rightID]; omega
        refine ⟨?_, rfl, by simp [ofKind, V.k], by simp [V.k]; omega, by simp [V.s]⟩
        rcases hk34 with rfl | rfl <;> simp [right1, bare, V.k, V.n, V.s, V.l, hid]
end Go.Mor
