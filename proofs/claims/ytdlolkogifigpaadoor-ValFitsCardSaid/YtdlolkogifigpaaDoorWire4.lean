/- Layer 1: the iterator of wire's reader. -/
import Derived.Test.YtdlolkogifigpaaDoorWire3
import Derived.Test.YtdlolkogifigpaaDoorRegIn
set_option linter.unusedSimpArgs false
set_option linter.unusedVariables false
namespace Go.Proofs.YtdlolkogifigpaaDoor
open Go Go.RowKit Go.Mor Go.Shelf
attribute [local go_sem] Oper.semAt_some

theorem bretw {a b : Bool} (h : a = b) : Ending.returned (.bool a) = .returned (.bool b) := by rw [h]
/-- Two blocks lie as they lay. -/
def Keep2 (Ba Bt : Nat) (W W' : World) : Prop := W'.heap[Ba]? = W.heap[Ba]? ∧ W'.heap[Bt]? = W.heap[Bt]?

set_option maxRecDepth 100000 in
set_option maxHeartbeats 1000000 in
theorem from1_in (n : Nat) (l Ba Bt : Nat) (s : List UInt8) (a : Nat) (ha : a ≤ s.length) (hs : s.length < 1125899906842624) (J Jx : List (Mor.Ix × UInt8) → World → Prop)
    (hY : ∀ pre (g : Mor.Ix × UInt8) W, J pre W → pre.length < s.length → YieldAt Fence.wide (n - 1) Tryd.prog l #[.int .i64 g.1.val, .int .u8 g.2.toNat] W fun e W' =>
      (e = .returned (.bool true) ∧ J (pre ++ [g]) W' ∧ Keep2 Ba Bt W W') ∨ (e = .returned (.bool false) ∧ Jx (pre ++ [g]) W'))
    (W : World) (hBa : W.cell? ⟨Ba, 0, none⟩ = some (.int .i64 a)) (hBt : W.cell? ⟨Bt, 0, none⟩ = some (.string (str s))) (hJd : ∀ pre W, J pre W → J pre W.drew) (h0 : J [] W) :
    CallsIn Fence.wide n Tryd.prog 111 #[.func (.yield l) #[] #[], .pointer (some ⟨Ba, 0, none⟩), .pointer (some ⟨Bt, 0, none⟩)] W fun e W' => (∃ v, e = .returned v) ∧
      ((∃ ys, ys = pairs s a ∧ J ys W') ∨ (∃ pre, pre <+: pairs s a ∧ Jx pre W')) := by
  refine callsIn_of_wp Tryd.func111 rfl trivial ?_ rfl
  simp only [Tryd.ntmps111, List.size_toArray, List.length_cons, List.length_nil, Nat.reduceAdd, Nat.reduceSub, Array.replicate_succ, Array.replicate_zero, List.push_toArray, List.append_toArray, List.nil_append, List.cons_append]
  have HY := Lib.hid hY
  have HJ := Lib.hid hJd
  clear hY hJd
  gi_wp2
  gi_loopw [4] (fun p wr => ∃ (k : Nat), p = .int .i64 ((a : Int) + k) ∧ a + k ≤ s.length ∧ J ((pairs s a).take k) wr ∧ wr.cell? ⟨Ba, 0, none⟩ = some (.int .i64 a) ∧ wr.cell? ⟨Bt, 0, none⟩ = some (.string (str s)))
        (fun p _ => s.length - (intOf p).toNat)
  case atStart => exact ⟨0, by simp, by omega, by simpa using h0, hBa, hBt⟩
  case round =>
    obtain ⟨k, rfl, hk, hJs, hBa, hBt⟩ := hrel
    by_cases hlt2 : a + k < s.length
    · obtain ⟨fn, tmps, assign, body, hy, hR⟩ := HY.out ((pairs s a).take k) (Fin.ofNat _ k, s[a + k]) wr.drew (HJ.out _ _ hJs) (by rw [List.length_take, pairs_length]; omega)
      have hfin : ((Fin.ofNat 1125899906842624 k).val : Int) = k := by simp [Fin.ofNat]; omega
      rw [hfin] at hy
      clear hfin
      have hR' : RoundIn Fence.wide (n - 1) Tryd.prog l fn tmps assign body wr.drew fun e W' => ∃ t, e = .returned (.bool t) ∧ Hid ((t = true → J ((pairs s a).take k ++ [(Fin.ofNat _ k, s[a + k])]) W' ∧ Keep2 Ba Bt wr.drew W') ∧ (t = false → Jx ((pairs s a).take k ++ [(Fin.ofNat _ k, s[a + k])]) W')) := by
        refine hR.mono ?_
        rintro e W' (⟨rfl, h1, h2⟩ | ⟨rfl, h1⟩)
        · exact ⟨true, rfl, fun _ => ⟨h1, h2⟩, fun h => by cases h⟩
        · exact ⟨false, rfl, fun h => (by cases h), fun _ => h1⟩
      have HR := Lib.hid hR'
      clear hR hR'
      have hmix : Tryd.prog.follows .mixedOrders = true := by kernel_rfl
      gi_wp2_with fail
      have hw1 : IntKind.i64.wrap ((a : Int) + k - a) = k := by rw [IntWalk.i64_in _ (by omega)]; omega
      have hw2 : (0 : Int) ≤ (a : Int) + k := by omega
      have hw3 : (a : Int) + k < s.length := by omega
      have hw4 : ((a : Int) + k).toNat = a + k := by omega
      refine wpIn_region_still_tail open_wide 7 hmix (by kernel_rfl) ?_
      simp only [List.take_succ_cons, List.take_zero, List.drop_succ_cons, List.drop_zero]
      repeat still_step
      refine wpStill_nil ?_
      clear hw1
      gi_wp2
      refine ⟨fun h => (by cases h), HR.out.mono ?_⟩
      rintro e W3 ⟨t, rfl, ht⟩
      cases t
      · gi_wp2
        refine bodyPost_ret (results_none rfl _ _ _) rfl ?_
        refine ⟨⟨_, rfl⟩, .inr ⟨_, ?_, ht.2 (by simp)⟩⟩
        rw [← pairs_take s a k hlt2]
        exact List.take_prefix _ _
      · obtain ⟨hJ3, hB3⟩ := ht.1 (by simp)
        have hBa3 := (World.cell?_of_block (w := wr) (a := ⟨Ba, 0, none⟩) hB3.1).trans hBa
        have hBt3 := (World.cell?_of_block (w := wr) (a := ⟨Bt, 0, none⟩) hB3.2).trans hBt
        gi_wp2
        go_roundw
        case rel => exact ⟨k + 1, by go_num, by omega, by rw [pairs_take s a k hlt2]; exact hJ3, hBa3, hBt3⟩
        case measure => simp [intOf]; omega
    · gi_wp2
      go_end0
      exact ⟨⟨_, rfl⟩, .inl ⟨_, (List.take_of_length_le (by rw [pairs_length]; omega)), hJs⟩⟩

theorem from_in (n : Nat) (s : List UInt8) (a : Int) (w : World) :
    CallsIn Fence.wide n Tryd.prog 95 #[.string (str s), .int .i64 a] w fun e w' => e = .returned (.func (.func 111) #[] #[.pointer (some ⟨w.heap.size + 1, 0, none⟩), .pointer (some ⟨w.heap.size, 0, none⟩)]) ∧ w' = (w.alloc (.cells #[.string (str s)] 108)).alloc (.cells #[.int .i64 a] 3) := by
  refine callsIn_of_wp Tryd.func95 rfl trivial ?_ rfl
  simp only [Tryd.ntmps95, List.size_toArray, List.length_cons, List.length_nil, Nat.reduceAdd, Nat.reduceSub, Array.replicate_succ, Array.replicate_zero, List.push_toArray, List.append_toArray, List.nil_append, List.cons_append]
  gi_wp2
  go_ret
  exact ⟨rfl, rfl⟩

theorem has_any (s : List UInt8) (a m : Int) (w : World) (hs : s.length ≤ 9223372036854775807) (ha : -9223372036854775808 ≤ a) (ha1 : a ≤ 9223372036854775807) :
    Calls Tryd.prog 94 #[.string (str s), .int .i64 a, .int .i64 m] w fun e w' => e = .returned (.bool (decide (0 ≤ a ∧ a ≤ s.length ∧ m ≤ s.length - a))) ∧ w' = w := by
  go_enter Tryd.func94, Tryd.ntmps94
  go_wp2
  all_goals go_ret
  all_goals exact ⟨bretw (by rw [Bool.eq_iff_iff]; simp_all [] <;> omega), rfl⟩
end Go.Proofs.YtdlolkogifigpaaDoor
