/- Layer 3, the parts that hold no memory of their own: which values may be. -/
import Derived.Test.YtdlolkogifigpaaDoorProg
import Derived.Test.YtdlolkogifigpaaDoorPlain
set_option linter.unusedSimpArgs false
set_option linter.unusedVariables false
namespace Go.Proofs.YtdlolkogifigpaaDoor
open Go Go.RowKit Go.Mor
set_option maxHeartbeats 400000

theorem bret {a b : Bool} (h : a = b) : Ending.returned (.bool a) = .returned (.bool b) := by rw [h]
theorem iret {k : IntKind} {a b : Int} (h : a = b) : Ending.returned (.int k a) = .returned (.int k b) := by rw [h]

theorem small_any (b : Int) (w : World) (h0 : 0 ≤ b) (h1 : b ≤ 255) :
    Calls Tryd.prog 79 #[.int .u8 b] w fun e w' => e = .returned (.bool (decide (97 ≤ b ∧ b ≤ 122))) ∧ w = w' := by
  go_enter Tryd.func79, Tryd.ntmps79
  go_wp2
  all_goals go_ret
  all_goals exact ⟨bret (by simp; omega), rfl⟩

theorem plain_any (r : Int) (w : World) :
    Calls Tryd.prog 110 #[.int .i32 r] w fun e w' => e = .returned (.bool (decide (32 ≤ r ∧ r ≠ 127))) ∧ w = w' := by
  go_enter Tryd.func110, Tryd.ntmps110
  go_wp2
  all_goals go_ret
  all_goals exact ⟨bret (by rw [Bool.eq_iff_iff]; simp_all [] <;> omega), rfl⟩

theorem rightID_any (n : Int) (w : World) :
    Calls Tryd.prog 85 #[.int .i64 n] w fun e w' => e = .returned (.bool (rightID n)) ∧ w = w' := by
  go_enter Tryd.func85, Tryd.ntmps85
  go_wp2
  all_goals go_ret
  all_goals exact ⟨bret (by rw [Bool.eq_iff_iff]; simp_all [rightID] <;> omega), rfl⟩

theorem bare_any (x : V) (p : Option Addr) (cap : Nat) (w : World) :
    Calls Tryd.prog 83 #[.agg #[.int .i64 x.k, .int .i64 x.n, .string (str x.s), .slice p x.l.length cap]] w fun e w' => e = .returned (.bool (bare x)) ∧ Below w.heap.size w w' := by
  go_enter Tryd.func83, Tryd.ntmps83
  go_wp2
  all_goals go_ret
  all_goals refine ⟨bret ?_, by go_grown⟩
  all_goals (rw [Bool.eq_iff_iff]; simp_all [bare] <;> omega)

theorem ofKind_any (x : V) (c : Value) (k : Int) (w : World) :
    Calls Tryd.prog 68 #[.agg #[.int .i64 x.k, .int .i64 x.n, .string (str x.s), c], .int .i64 k] w fun e w' => e = .returned (.bool (ofKind x k)) ∧ Below w.heap.size w w' := by
  go_enter Tryd.func68, Tryd.ntmps68
  go_wp2
  all_goals go_ret
  all_goals refine ⟨bret ?_, by go_grown⟩
  all_goals (rw [Bool.eq_iff_iff]; simp_all [ofKind] <;> omega)

theorem rightType_any (t : Ty) (w : World) :
    Calls Tryd.prog 55 #[.agg #[.int .i64 t.k, .int .i64 t.o]] w fun e w' => e = .returned (.bool (rightType t)) ∧ Below w.heap.size w w' := by
  go_enter Tryd.func55, Tryd.ntmps55
  go_wp2
  all_goals go_ret
  all_goals refine ⟨bret ?_, by go_grown⟩
  all_goals (rw [Bool.eq_iff_iff]; simp_all [rightType] <;> omega)
end Go.Proofs.YtdlolkogifigpaaDoor
