/- What the package-level variables hold; errors.Is at the two errors of layer 1; wire.wrong. -/
import Derived.LaidEql
import Derived.Stop.Asserts
import Derived.RowKitTokens
import Derived.Lib.LaidU8
import Derived.Test.YtdlolkogifigpaaDoorWire2
set_option linter.unusedSimpArgs false
set_option linter.unusedVariables false
namespace Go.Proofs.YtdlolkogifigpaaDoor
open Go Go.RowKit Go.Mor Go.Stop Go.Extern

/-- The two errors of layer 1 and the tables of unicode/utf8, as the program's text lays them. -/
structure Glob (w : World) (a0 a1 : Addr) : Prop where
  e0 : w.cell? ⟨0, 0, none⟩ = some (.iface 184 (.pointer (some a0)))
  e1 : w.cell? ⟨1, 0, none⟩ = some (.iface 184 (.pointer (some a1)))
  ne : a0 ≠ a1
  b0 : ∃ ca ta, w.heap[a0.block]? = some (.cells ca ta (0, 0))
  b1 : ∃ ca ta, w.heap[a1.block]? = some (.cells ca ta (0, 0))
  tabs : Lib.Utf8Tabs 2 3 w
theorem heap_lt {w : World} {b : Nat} {o : Obj} (h : w.heap[b]? = some o) : b < w.heap.size := (Array.getElem?_eq_some_iff.1 h).1
theorem Glob.ext {w w' : World} {a0 a1 : Addr} (h : Glob w a0 a1) (hb : Below w.heap.size w w') : Glob w' a0 a1 where
  e0 := (hb.cell (cell_lt h.e0)).trans h.e0
  e1 := (hb.cell (cell_lt h.e1)).trans h.e1
  ne := h.ne
  b0 := by obtain ⟨ca, ta, h0⟩ := h.b0; exact ⟨ca, ta, (hb.block _ (heap_lt h0)).trans h0⟩
  b1 := by obtain ⟨ca, ta, h0⟩ := h.b1; exact ⟨ca, ta, (hb.block _ (heap_lt h0)).trans h0⟩
  tabs := Utf8Tabs_below h.tabs hb

theorem isTypeOf (v : Value) (w : World) : (callFunc 112 #[.iface 184 v]).run Tryd.prog w = .ok (.value (.iface 175 (.agg #[.pointer (some ⟨4, 184, none⟩)]))) w := by kernel_rfl
theorem isComparable (w : World) : (callFunc 136 #[.agg #[.pointer (some ⟨4, 184, none⟩)]]).run Tryd.prog w = .ok (.value (.bool true)) w := by kernel_rfl
theorem isComp : (Tryd.prog.info? 184).map (·.comparable) = some true := by kernel_rfl
theorem isSize : (Tryd.prog.info? 208).map (·.size) = some 1 := by kernel_rfl
theorem noIsE (v : Value) (xT : TypeId) (w : World) : (Instr.typeAssert (.iface 184 v) xT 177 true).run Tryd.prog w = .ok (.tuple #[.nilIface, .bool false]) w := run_typeAssert_lacksB Tryd.underlying177 (by kernel_rfl) (by kernel_rfl) v xT w
theorem noUnwrapE (v : Value) (xT : TypeId) (w : World) : (Instr.typeAssert (.iface 184 v) xT 179 true).run Tryd.prog w = .ok (.tuple #[.nilIface, .bool false]) w := run_typeAssert_lacksB Tryd.underlying179 (by kernel_rfl) (by kernel_rfl) v xT w
theorem noUnwrapsE (v : Value) (xT : TypeId) (w : World) : (Instr.typeAssert (.iface 184 v) xT 181 true).run Tryd.prog w = .ok (.tuple #[.nilIface, .bool false]) w := run_typeAssert_lacksB Tryd.underlying181 (by kernel_rfl) (by kernel_rfl) v xT w

theorem is_same (a : Addr) (w : World) :
    Calls Tryd.prog 96 #[.iface 184 (.pointer (some a)), .iface 184 (.pointer (some a))] w fun e w' => e = .returned (.bool true) ∧ w = w' := by
  obtain ⟨i, hi, hcmp⟩ := Option.map_eq_some_iff.1 isComp
  obtain ⟨j, hj, hjs⟩ := Option.map_eq_some_iff.1 isSize
  have tT := isTypeOf
  have cT := isComparable
  have heq := run_eql_iface_ptr_same (P := Tryd.prog) w a Tryd.underlying112 Tryd.underlying184 hi hcmp hj
  go_enter Tryd.func96, Tryd.ntmps96
  go_wp2
  refine wp_loop_rounds 1 ?_
  rw [rounds_succ]
  go_wp2
  go_ret
  exact ⟨rfl, rfl⟩
theorem is_nil (b : Addr) (w : World) :
    Calls Tryd.prog 96 #[.nilIface, .iface 184 (.pointer (some b))] w fun e w' => e = .returned (.bool false) ∧ w = w' := by
  have hn := run_eql_iface_nil_left (P := Tryd.prog) w 184 (.pointer (some b)) Tryd.underlying112
  go_enter Tryd.func96, Tryd.ntmps96
  go_wp2
  go_ret
  exact ⟨rfl, rfl⟩
theorem is_other (a b : Addr) (ca cb : Array Value) (ta tb : TypeId) (w : World) (hne : a ≠ b) (ha : w.heap[a.block]? = some (.cells ca ta (0, 0))) (hb : w.heap[b.block]? = some (.cells cb tb (0, 0))) :
    Calls Tryd.prog 96 #[.iface 184 (.pointer (some a)), .iface 184 (.pointer (some b))] w fun e w' => e = .returned (.bool false) ∧ w = w' := by
  obtain ⟨i, hi, hcmp⟩ := Option.map_eq_some_iff.1 isComp
  obtain ⟨j, hj, hjs⟩ := Option.map_eq_some_iff.1 isSize
  have tT := isTypeOf
  have cT := isComparable
  have nE := noIsE
  have uE := noUnwrapE
  have vE := noUnwrapsE
  have heq := run_eql_iface_ptr_other (P := Tryd.prog) w Tryd.underlying112 Tryd.underlying184 hi hcmp hj (by rw [hjs]; decide) hne ha hb
  go_enter Tryd.func96, Tryd.ntmps96
  go_wp2
  refine wp_loop_rounds 1 ?_
  rw [rounds_succ]
  go_wp2
  go_ret
  exact ⟨rfl, rfl⟩

theorem wrong_nil (w : World) (a0 a1 : Addr) (hG : Glob w a0 a1) :
    Calls Tryd.prog 66 #[.nilIface] w fun e w' => e = .returned (.bool false) ∧ w = w' := by
  have e0 := hG.e0
  have e1 := hG.e1
  clear hG
  go_enter Tryd.func66, Tryd.ntmps66
  go_wp2_with fail
  refine (is_nil _ _).mono ?_
  rintro e w' ⟨rfl, rfl⟩
  go_wp2_with fail
  refine (is_nil _ _).mono ?_
  rintro e w' ⟨rfl, rfl⟩
  go_wp2_with fail
  go_ret
  exact ⟨rfl, rfl⟩
theorem wrong_end (w : World) (a0 a1 : Addr) (hG : Glob w a0 a1) :
    Calls Tryd.prog 66 #[.iface 184 (.pointer (some a0))] w fun e w' => e = .returned (.bool true) ∧ w = w' := by
  have e0 := hG.e0
  have e1 := hG.e1
  clear hG
  go_enter Tryd.func66, Tryd.ntmps66
  go_wp2_with fail
  refine (is_same _ _).mono ?_
  rintro e w' ⟨rfl, rfl⟩
  go_wp2_with fail
  go_ret
  exact ⟨rfl, rfl⟩
theorem wrong_form (w : World) (a0 a1 : Addr) (hG : Glob w a0 a1) :
    Calls Tryd.prog 66 #[.iface 184 (.pointer (some a1))] w fun e w' => e = .returned (.bool true) ∧ w = w' := by
  have e0 := hG.e0
  have e1 := hG.e1
  obtain ⟨c0, t0, h0⟩ := hG.b0
  obtain ⟨c1, t1, h1⟩ := hG.b1
  have H := Lib.hid (is_other a1 a0 c1 c0 t1 t0 w hG.ne.symm h1 h0)
  clear hG h0 h1
  go_enter Tryd.func66, Tryd.ntmps66
  go_wp2_with fail
  refine H.out.mono ?_
  rintro e w' ⟨rfl, rfl⟩
  go_wp2_with fail
  refine (is_same _ _).mono ?_
  rintro e w' ⟨rfl, rfl⟩
  go_wp2_with fail
  go_ret
  exact ⟨rfl, rfl⟩
end Go.Proofs.YtdlolkogifigpaaDoor
