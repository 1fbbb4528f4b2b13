/- Layer 1: wire.groups and its iterator; wire.Num. -/
import Derived.RangeFuncNested
import Derived.RangeFuncBound
import Derived.RangeFuncCalls
import Derived.RangeFuncLeaves
import Derived.RangeFuncBox
import Derived.Shelf.Abstract
import Derived.Shelf.RegionOpen
import Derived.OwnWalkIn
import Derived.TacticsInMore
import Derived.LoopNIn
import Derived.LoopIn
import Derived.Maps.AppendAt
import Derived.Test.YtdlolkogifigpaaDoorProg
import Derived.Test.YtdlolkogifigpaaDoorPWire
set_option linter.unusedSimpArgs false
set_option linter.unusedVariables false
namespace Go.Proofs.YtdlolkogifigpaaDoor
open Go Go.RowKit Go.Mor Go.Shelf
attribute [local go_sem] Oper.semAt_some

theorem u64_small (n : Int) (h0 : 0 ≤ n) (h1 : n < 9223372036854775808) : IntKind.u64.wrap n = n := IntWalk.u64_in n (by omega)

set_option maxRecDepth 100000 in
set_option maxHeartbeats 1000000 in
theorem groups1_in (F : Fence) (n : Nat) (h6 : F.fn 101) (hro : F.round = none) (hn : 1 ≤ n) (l Bn : Nat) (x : Int) (hx0 : -9223372036854775808 ≤ x) (hx1 : x ≤ 9223372036854775807) (Kp : World → World → Prop) (J Jx : List UInt8 → World → Prop)
    (hY : ∀ pre (g : UInt8) W, J pre W → pre.length < 10 → YieldAt F (n - 1) Tryd.prog l #[.int .u8 g.toNat] W fun e W' =>
      (e = .returned (.bool true) ∧ J (pre ++ [g]) W' ∧ Kp W W') ∨ (e = .returned (.bool false) ∧ Jx (pre ++ [g]) W'))
    (W : World) (hBn : W.cell? ⟨Bn, 0, none⟩ = some (.int .i64 x)) (h0 : J [] W) :
    CallsIn F n Tryd.prog 101 #[.func (.yield l) #[] #[], .pointer (some ⟨Bn, 0, none⟩)] W fun e W' => (∃ v, e = .returned v) ∧
      ((∃ ys, ys = groups x ∧ J ys W') ∨ (∃ pre, True ∧ Jx pre W')) := by
  refine callsIn_of_wp Tryd.func101 rfl h6 ?_ hro
  simp only [Tryd.ntmps101, List.size_toArray, List.length_cons, List.length_nil, Nat.reduceAdd, Nat.reduceSub, Array.replicate_succ, Array.replicate_zero, List.push_toArray, List.append_toArray, List.nil_append, List.cons_append]
  obtain ⟨fn, tmps, assign, body, hy, hR⟩ := hY [] (UInt8.ofNat (mag x % 64 * 2 + sgn x)) W h0 (by simp)
  by_cases hneg : x < 0
  all_goals
    first | rw [first_neg x hneg] at hy | rw [first_pos x hneg] at hy
    have HY := Lib.hid hY
    clear hY
    gi_wp2
    refine hR.mono ?_
    clear hR hy
    rintro e W1 (⟨rfl, hJ1, _⟩ | ⟨rfl, hx1⟩)
    · gi_wp2
      gi_loopw [3] (fun p wr => ∃ (pre : List UInt8) (m f : Nat), p = .int .u64 m ∧ Hid (groups x = pre ++ tailN f m) ∧ Hid (m < 128 ^ f) ∧ m < 9223372036854775808 ∧ Hid (pre.length + f = 10) ∧ J pre wr)
        (fun p _ => (intOf p).toNat)
      case atStart =>
        have hml := mag_lt x hx0 hx1
        have hme := mag_eq x
        refine ⟨[UInt8.ofNat (mag x % 64 * 2 + sgn x)], mag x / 64, 9, ?_, rfl, ?_, by omega, rfl, hJ1⟩
        · congr 1
          split at hme <;> omega
        · show _ < 9223372036854775808
          omega
      case round =>
        obtain ⟨pre, m, f, rfl, hg, hlt, hm, hl, hJs⟩ := hrel
        by_cases hm0 : m = 0
        · subst hm0
          gi_wp2
          go_end0
          exact ⟨⟨_, rfl⟩, .inl ⟨pre, by rw [hg.out, tailN_zero]; simp, hJs⟩⟩
        · have hne : ((m : Int) == 0) = false := by simpa using hm0
          have hne' : ((m : Int) != 0) = true := by simpa using hm0
          cases f with
          | zero => exact absurd hlt.out (by simp; omega)
          | succ f =>
          obtain ⟨fn, tmps, assign, body, hy, hR⟩ := HY.out pre (UInt8.ofNat (m % 128)) wr hJs (by have := hl.out; omega)
          rw [next_byte] at hy
          gi_wp2
          refine hR.mono ?_
          clear hR hy
          rintro e W3 (⟨rfl, hJ3, _⟩ | ⟨rfl, hJx3⟩)
          · gi_wp2
            go_roundw
            case rel =>
              refine ⟨pre ++ [UInt8.ofNat (m % 128)], m / 128, f, by simp, ?_, ?_, by omega, ?_, hJ3⟩
              · show _ = _
                rw [hg.out]; simp [tailN, hm0]
              · show _ < _
                have := hlt.out
                rw [Nat.pow_succ] at this
                exact Nat.div_lt_of_lt_mul (by rw [Nat.mul_comm]; exact this)
              · show _ = _
                have := hl.out
                simp; omega
            case measure => simp [intOf]; omega
          · gi_wp2
            refine bodyPost_ret (results_none rfl _ _ _) rfl ?_
            exact ⟨⟨_, rfl⟩, .inr ⟨_, trivial, hJx3⟩⟩
    · gi_wp2
      refine bodyPost_ret (results_none rfl _ _ _) rfl ?_
      exact ⟨⟨_, rfl⟩, .inr ⟨_, trivial, hx1⟩⟩

theorem groups_in (F : Fence) (n : Nat) (h5 : F.fn 77) (hro : F.round = none) (x : Int) (w : World) :
    CallsIn F n Tryd.prog 77 #[.int .i64 x] w fun e w' => e = .returned (.func (.func 101) #[] #[.pointer (some ⟨w.heap.size, 0, none⟩)]) ∧ w' = w.alloc (.cells #[.int .i64 x] 3) := by
  refine callsIn_of_wp Tryd.func77 rfl h5 ?_ hro
  simp only [Tryd.ntmps77, List.size_toArray, List.length_cons, List.length_nil, Nat.reduceAdd, Nat.reduceSub, Array.replicate_succ, Array.replicate_zero, List.push_toArray, List.append_toArray, List.nil_append, List.cons_append]
  gi_wp2
  go_ret
  exact ⟨rfl, rfl⟩

theorem groups_stops (F : Fence) (n : Nat) (Kp : World → World → Prop) (h6 : F.fn 101) (hro : F.round = none) (hn : 1 ≤ n) (Bn : Nat) (x : Int) (hx0 : -9223372036854775808 ≤ x) (hx1 : x ≤ 9223372036854775807) (w : World) (hBn : Bn < w.heap.size)
    (hc : w.cell? ⟨Bn, 0, none⟩ = some (.int .i64 x)) :
    SeqStopsK F n Tryd.prog 101 #[.pointer (some ⟨Bn, 0, none⟩)] (fun g : UInt8 => #[Value.int .u8 g.toNat]) Kp (fun ys => ys = groups x) (fun _ => True) 10 w := fun l J Jx W hW _ _ hY h0 =>
  groups1_in F n h6 hro hn l Bn x hx0 hx1 Kp J Jx hY W ((hW.cell (p := ⟨Bn, 0, none⟩) hBn).trans hc) h0
end Go.Proofs.YtdlolkogifigpaaDoor
