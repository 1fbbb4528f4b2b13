/- ClassChecks: for all arguments, the law returns true and leaves its arguments as they read. The listed package variables start as the program's z05 lays them (the tie is given). -/
import Derived.Test.YtcpaleaajdilgaaDoorM20
set_option linter.unusedSimpArgs false
set_option linter.unusedVariables false
set_option maxRecDepth 100000
set_option maxHeartbeats 8000000
namespace Go.Proofs.YtcpaleaajdilgaaDoor.ClassChecks
open Go.ChangeShapes Go.WideShapes Go.ChangeAt Go.RowKit Go.Lib Go.Mor Go.Deep Go.Joins
open Go.ChangeMaps (open_string shut_string)
theorem plain (f : FuncId) (fn : Func) (hf : Tryd.pinned.checked.prog.funcNamed "moraine/morainelaw04.ClassChecks" = some f) (hfn : Tryd.pinned.checked.prog.funcs[f]? = some fn) :
    true = Tryd.pinned.checked.prog.looks [] ∧ ∀ (j : Nat) t, fn.params[j]? = some t → Tryd.pinned.checked.prog.wantsStandIn t = false := by
  obtain rfl : f = 3 := Option.some.inj ((show Tryd.prog.funcNamed "moraine/morainelaw04.ClassChecks" = some 3 by kernel_rfl).symm.trans hf) |>.symm
  obtain rfl : fn = Tryd.f3 := (Option.some.inj (Tryd.func3.symm.trans hfn)).symm
  refine ⟨by kernel_rfl, fun j t ht => ?_⟩
  rw [Tryd.params3] at ht
  have hall : (Tryd.f3.params.all fun t => !Tryd.prog.wantsStandIn t) = true := by kernel_rfl
  rw [Tryd.params3, Array.all_eq_true] at hall
  obtain ⟨hj, rfl⟩ := Array.getElem?_eq_some_iff.1 ht
  have hj2 := hall j hj
  rw [Bool.not_eq_true'] at hj2
  exact hj2
theorem card : Rows.ClassChecksCardSaid :=
  Claim7.holds_tied_plain_at .later [] _ _ _ _ zbM (fun _ h => by cases h) (by kernel_rfl) (fun _ h => by cases h) classChecks_row_tie rfl ⟨rfl, rfl⟩ (by kernel_rfl) rfl plain (by kernel_rfl)
end Go.Proofs.YtcpaleaajdilgaaDoor.ClassChecks
