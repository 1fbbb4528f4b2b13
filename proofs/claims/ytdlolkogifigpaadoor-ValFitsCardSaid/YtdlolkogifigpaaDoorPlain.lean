/- The plain functions of the given program's layers 1, 3 and 4: what its calls answer, on lists and numbers. -/
import Derived.Lib.ValidU
import Derived.Lib.TrimUEq
import Derived.Lib.ValidLaws
import Derived.Test.YtdlolkogifigpaaDoorBase
set_option linter.unusedSimpArgs false
set_option linter.unusedVariables false
namespace Go.Mor

/-- May a sign stand in a text? -/
def plainR (r : Nat) : Bool := decide (32 ≤ r) && r != 127
def plainGo : Nat → List UInt8 → Bool
  | 0, _ => true
  | n + 1, l => if l = [] then true else plainR (Lib.decodeL l).1 && plainGo n (l.drop (Lib.decodeL l).2)
def plainD (l : List UInt8) : Bool := plainGo l.length l
theorem plainGo_more : ∀ (n : Nat) (l : List UInt8), l.length ≤ n → plainGo n l = plainD l := by
  intro n
  induction n using Nat.strongRecOn with
  | _ n ih =>
    intro l hl
    unfold plainD
    cases l with
    | nil => cases n <;> simp [plainGo]
    | cons b t =>
      obtain ⟨m, rfl⟩ : ∃ m, n = m + 1 := ⟨n - 1, by simp at hl; omega⟩
      have hw := Lib.decodeL_width (b :: t)
      simp only [plainGo, List.length_cons, reduceCtorEq, if_false]
      have h1 : (List.drop (Lib.decodeL (b :: t)).2 (b :: t)).length ≤ t.length := by simp; omega
      simp at hl
      rw [ih m (by omega) _ (by omega)]
      by_cases he : t.length = m
      · rw [he, ih m (by omega) _ (by omega)]
      · rw [ih t.length (by omega) _ h1]
theorem plainD_step (l : List UInt8) (hne : l ≠ []) : plainD l = (plainR (Lib.decodeL l).1 && plainD (l.drop (Lib.decodeL l).2)) := by
  cases l with
  | nil => exact absurd rfl hne
  | cons b t =>
    have hw := Lib.decodeL_width (b :: t)
    conv => lhs; unfold plainD
    simp only [plainGo, List.length_cons, reduceCtorEq, if_false]
    rw [plainGo_more t.length _ (by simp; omega)]
def rightText (s : List UInt8) : Bool := decide (s.length ≤ 60) && (Lib.validD s && plainD s)

def rightID (n : Int) : Bool := decide (1 ≤ n ∧ n ≤ 100000 ∨ -20 ≤ n ∧ n ≤ -1)
def bare (x : V) : Bool := x.s == [] && x.l.length == 0

/-- A value that is no list. -/
def right1 (x : V) : Bool :=
  if x.k = 0 then bare x && x.n == 0
  else if x.k = 1 then bare x && decide (-1000000000000000 ≤ x.n) && decide (x.n ≤ 1000000000000000)
  else if x.k = 2 then x.n == 0 && x.l.length == 0 && rightText x.s
  else if x.k = 3 ∨ x.k = 4 then bare x && rightID x.n
  else false
def noItem (x : V) : Bool := x.k == 5 || !right1 x
def rightV (x : V) : Bool :=
  if x.k = 5 then x.n == 0 && x.s == [] && decide (x.l.length ≤ 12) && !x.l.any noItem else right1 x

/-- A type. -/
structure Ty where
  k : Int
  o : Int
def rightType (t : Ty) : Bool := if t.k = 5 then decide (1 ≤ t.o ∧ t.o ≤ 4) else decide (1 ≤ t.k ∧ t.k ≤ 4 ∧ t.o = 0)
def ofKind (x : V) (k : Int) : Bool := x.k == k || (x.k == 0 && (k == 3 || k == 4))
def fitsV (x : V) (t : Ty) : Bool := rightV x && rightType t && ofKind x t.k && !x.l.any (fun y => !ofKind y t.o)
def zeroV (t : Ty) : V := if !rightType t || t.k == 3 || t.k == 4 then V.nil else .mk t.k 0 [] []

end Go.Mor
