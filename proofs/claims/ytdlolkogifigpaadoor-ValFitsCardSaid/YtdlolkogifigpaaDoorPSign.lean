/- The document's signs of texts, and Go's own decoder: the same. -/
import Derived.Test.YtdlolkogifigpaaDoorPlain
set_option linter.unusedSimpArgs false
set_option linter.unusedVariables false
namespace Go.Mor
open Go
set_option maxHeartbeats 4000000

/-- How many bytes the first sign has: of so many bytes, by its first four. -/
def signN (n b0 b1 b2 b3 : Nat) : Nat :=
  if b0 < 128 then 1
  else if 194 ≤ b0 ∧ b0 ≤ 223 then (if n < 2 ∨ b1 < 128 ∨ 191 < b1 then 0 else 2)
  else if 224 ≤ b0 ∧ b0 ≤ 239 then (if n < 3 ∨ b1 < (if b0 = 224 then 160 else 128) ∨ (if b0 = 237 then 159 else 191) < b1 ∨ b2 < 128 ∨ 191 < b2 then 0 else 3)
  else if 240 ≤ b0 ∧ b0 ≤ 244 then (if n < 4 ∨ b1 < (if b0 = 240 then 144 else 128) ∨ (if b0 = 244 then 143 else 191) < b1 ∨ b2 < 128 ∨ 191 < b2 ∨ b3 < 128 ∨ 191 < b3 then 0 else 4)
  else 0
def signL (l : List UInt8) : Nat := if l = [] then 0 else signN l.length (l.getD 0 0).toNat (l.getD 1 0).toNat (l.getD 2 0).toNat (l.getD 3 0).toNat
theorem signN_decode (n b0 b1 b2 b3 : Nat) (h0 : b0 < 256) (h1 : b1 < 256) (h2 : b2 < 256) (h3 : b3 < 256) :
    signN n b0 b1 b2 b3 = if (Lib.decodeN n b0 b1 b2 b3).1 = 65533 ∧ (Lib.decodeN n b0 b1 b2 b3).2 = 1 then 0 else (Lib.decodeN n b0 b1 b2 b3).2 := by
  unfold signN Lib.decodeN
  repeat' split
  all_goals (simp_all <;> omega)
end Go.Mor
