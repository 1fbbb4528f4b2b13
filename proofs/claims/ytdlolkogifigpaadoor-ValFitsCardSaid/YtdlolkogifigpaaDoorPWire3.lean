/- Layer 1 in plain words: what ReadNum, Text and ReadText answer. -/
import Derived.Test.YtdlolkogifigpaaDoorPWire2
set_option linter.unusedSimpArgs false
set_option linter.unusedVariables false
namespace Go.Mor

/-- ReadNum: the number, the place behind it. -/
def readNum (s : List UInt8) (a : Int) : Option (Int × Int) :=
  match rd s a with
  | .ok (n, z) => some (n, a + z)
  | .error _ => none
/-- (*reader).words. -/
def rdW (s : List UInt8) (a : Int) : Except Bool (List UInt8 × Int) :=
  match rd s a with
  | .error e => .error e
  | .ok (n, z) => if n < 0 ∨ 10000 < n then .error true else if s.length - (a + z) < n then .error false else .ok ((s.drop (a + z).toNat).take n.toNat, a + z + n)
def readText (s : List UInt8) (a : Int) : Option (List UInt8 × Int) :=
  match rdW s a with
  | .ok (t, b) => some (t, b)
  | .error _ => none
def numRes (r : Option (Int × Int)) : Value := match r with | some (n, b) => .tuple #[.int .i64 n, .int .i64 b, .int .i64 0] | none => .tuple #[.int .i64 0, .int .i64 0, .int .i64 10]
def readRes (r : Option (List UInt8 × Int)) : Value := match r with | some (t, b) => .tuple #[.string (str t), .int .i64 b, .int .i64 0] | none => .tuple #[.string (str []), .int .i64 0, .int .i64 10]
def text (s : List UInt8) : List UInt8 := num s.length ++ s
def textRes (s : List UInt8) : Value := if s.length ≤ 10000 then .tuple #[.string (str (text s)), .int .i64 0] else .tuple #[.string (str []), .int .i64 10]
theorem rd_bound {s : List UInt8} {a : Int} {n : Int} {z : Nat} (h : rd s a = .ok (n, z)) : 0 ≤ a ∧ a + z ≤ s.length ∧ -9223372036854775808 ≤ n ∧ n ≤ 9223372036854775807 ∧ 0 < z ∧ z ≤ 10 := by
  unfold rd at h
  split at h
  · rename_i hin
    split at h
    · cases h
    · rename_i m sg z' he
      simp only [Except.ok.injEq, Prod.mk.injEq] at h
      obtain ⟨rfl, rfl⟩ := h
      have := rdGo_bound _ 0 (0, 0) (by omega) (by decide) (.inl rfl) he
      simp only [List.length_drop] at this
      refine ⟨by omega, by omega, ?_, ?_, by omega, by omega⟩ <;> split <;> omega
  · cases h
theorem readNum_bound {s : List UInt8} {a n b : Int} (h : readNum s a = some (n, b)) : 0 ≤ a ∧ a < b ∧ b ≤ s.length ∧ -9223372036854775808 ≤ n ∧ n ≤ 9223372036854775807 := by
  unfold readNum at h
  split at h
  · rename_i n' z he
    simp only [Option.some.injEq, Prod.mk.injEq] at h
    obtain ⟨rfl, rfl⟩ := h
    have := rd_bound he
    omega
  · cases h
theorem readText_bound {s t : List UInt8} {a b : Int} (h : readText s a = some (t, b)) : 0 ≤ a ∧ a < b ∧ b ≤ s.length ∧ t.length ≤ 10000 := by
  unfold readText at h
  split at h
  · rename_i t' b' he
    simp only [Option.some.injEq, Prod.mk.injEq] at h
    obtain ⟨rfl, rfl⟩ := h
    unfold rdW at he
    split at he
    · cases he
    · rename_i n z hr
      have := rd_bound hr
      split at he
      · cases he
      · split at he
        · cases he
        · simp only [Except.ok.injEq, Prod.mk.injEq] at he
          obtain ⟨rfl, rfl⟩ := he
          refine ⟨by omega, by omega, by omega, ?_⟩
          rw [List.length_take]
          omega
  · cases h
end Go.Mor
