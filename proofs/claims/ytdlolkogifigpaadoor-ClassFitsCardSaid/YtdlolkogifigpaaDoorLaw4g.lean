/- Chapter 4's helpers: ValOf of a list. -/
import Derived.Test.YtdlolkogifigpaaDoorLaw4f
import Derived.Deep.RegionLaw
namespace Go.Proofs.YtdlolkogifigpaaDoor
open Go Go.RowKit Go.Mor
set_option maxHeartbeats 4000000

def ValPost (w : World) (x : V) (e : Ending) (w' : World) : Prop :=
  (∃ p cap L, e = .returned (.agg #[.int .i64 x.k, .int .i64 x.n, .string (str x.s), .slice p x.l.length cap]) ∧ L.map VC.v = x.l ∧ OwnR VR w.heap.size w' (.slice p x.l.length cap) L ∧ ∀ y ∈ L, y.v.l = [] ∧ y.cap = 0) ∧ Below w.heap.size w w'
theorem tdiv4 (n : Int) (h0 : -9223372036854775808 ≤ n) (h1 : n ≤ 9223372036854775807) : -2305843009213693952 ≤ n.tdiv 4 ∧ n.tdiv 4 ≤ 2305843009213693952 := by
  rcases Int.le_total 0 n with h | h
  · rw [Int.tdiv_eq_ediv_of_nonneg h]; omega
  · have e : n = -(-n) := by omega
    rw [e, Int.neg_tdiv, Int.tdiv_eq_ediv_of_nonneg (by omega)]; omega
set_option maxRecDepth 10000 in
theorem ValOfL_any (o n many : Int) (w : World) (hk : 1 ≤ o ∧ o ≤ 4) (h0 : -9223372036854775808 ≤ n) (h1 : n ≤ 9223372036854775807) (hm : many ≤ 100000) (hm0 : -1000 ≤ many) :
    Calls Tryd.prog 41 #[.agg #[.int .i64 5, .int .i64 o], .int .i64 n, .int .i64 many] w fun e w' => ValPost w (mkVal ⟨5, o⟩ n many) e w' := by
  have hB := Below.refl w.heap.size w
  obtain ⟨m, hm4, HM⟩ := pick_nat n 4 (by omega)
  have HP : Hid (∀ W, Calls Tryd.prog 15 #[.int .i64 n, .int .i64 4] W fun e w' => e = .returned (.int .i64 m) ∧ w' = W) := fun W => by
    have := pick_any n 4 W h0 h1 (by omega) (by omega)
    rwa [show pick n 4 = m from HM.out] at this
  obtain ⟨q, hq⟩ : ∃ q, n.tdiv 4 = q := ⟨_, rfl⟩
  obtain ⟨hq0, hq1⟩ := tdiv4 n h0 h1
  rw [hq] at hq0 hq1
  have HC : Hid (∀ (k : Nat) W, k < 4 → Calls Tryd.prog 41 #[.agg #[.int .i64 o, .int .i64 0], .int .i64 (q + k), .int .i64 many] W fun e w' => e = .returned (vval (mkVal1 o (q + k) many)) ∧ Below W.heap.size W w') :=
    fun k W hk4 => ValOf1_any o 0 (q + k) many W hk (by omega) (by omega) (by omega) hm0
  have HQ := Lib.hid hq
  go_enter Tryd.func41, Tryd.ntmps41
  go_wp2_with fail
  have hBa : Below (w).heap.size (w) ((w).alloc (.cells #[.int .i64 5, .int .i64 o] 51)) := (Below.refl _ _).alloc (Nat.le_refl _) _
  have N0 := World.alloc_heap_new (w) (.cells #[.int .i64 5, .int .i64 o] 51)
  replace N0 := Lib.hid N0
  replace hB := hB.trans (hBa.mono hB.size)
  clear hBa
  have hBa : Below ((w).alloc (.cells #[.int .i64 5, .int .i64 o] 51)).heap.size ((w).alloc (.cells #[.int .i64 5, .int .i64 o] 51)) (((w).alloc (.cells #[.int .i64 5, .int .i64 o] 51)).alloc (.cells #[.int .i64 0, .int .i64 0, .string ⟨#[]⟩, .slice none 0 0] 31)) := (Below.refl _ _).alloc (Nat.le_refl _) _
  have N1 := World.alloc_heap_new ((w).alloc (.cells #[.int .i64 5, .int .i64 o] 51)) (.cells #[.int .i64 0, .int .i64 0, .string ⟨#[]⟩, .slice none 0 0] 31)
  rw [World.size_alloc] at N1
  replace N1 := Lib.hid N1
  replace hB := hB.trans (hBa.mono hB.size)
  replace N0 := Lib.hid ((hBa.block _ (heap_lt N0.out)).trans N0.out)
  clear hBa
  have hBa : Below (((w).alloc (.cells #[.int .i64 5, .int .i64 o] 51)).alloc (.cells #[.int .i64 0, .int .i64 0, .string ⟨#[]⟩, .slice none 0 0] 31)).heap.size (((w).alloc (.cells #[.int .i64 5, .int .i64 o] 51)).alloc (.cells #[.int .i64 0, .int .i64 0, .string ⟨#[]⟩, .slice none 0 0] 31)) ((((w).alloc (.cells #[.int .i64 5, .int .i64 o] 51)).alloc (.cells #[.int .i64 0, .int .i64 0, .string ⟨#[]⟩, .slice none 0 0] 31)).alloc (.cells txtsA 9)) := (Below.refl _ _).alloc (Nat.le_refl _) _
  have N2 := World.alloc_heap_new (((w).alloc (.cells #[.int .i64 5, .int .i64 o] 51)).alloc (.cells #[.int .i64 0, .int .i64 0, .string ⟨#[]⟩, .slice none 0 0] 31)) (.cells txtsA 9)
  rw [World.size_alloc, World.size_alloc] at N2
  replace N2 := Lib.hid N2
  replace hB := hB.trans (hBa.mono hB.size)
  replace N0 := Lib.hid ((hBa.block _ (heap_lt N0.out)).trans N0.out)
  replace N1 := Lib.hid ((hBa.block _ (heap_lt N1.out)).trans N1.out)
  clear hBa
  have hBa : Below ((((w).alloc (.cells #[.int .i64 5, .int .i64 o] 51)).alloc (.cells #[.int .i64 0, .int .i64 0, .string ⟨#[]⟩, .slice none 0 0] 31)).alloc (.cells txtsA 9)).heap.size ((((w).alloc (.cells #[.int .i64 5, .int .i64 o] 51)).alloc (.cells #[.int .i64 0, .int .i64 0, .string ⟨#[]⟩, .slice none 0 0] 31)).alloc (.cells txtsA 9)) (((((w).alloc (.cells #[.int .i64 5, .int .i64 o] 51)).alloc (.cells #[.int .i64 0, .int .i64 0, .string ⟨#[]⟩, .slice none 0 0] 31)).alloc (.cells txtsA 9)).alloc (.cells #[.int .i64 5, .int .i64 0, .string ⟨#[]⟩, .slice none 0 0] 31)) := (Below.refl _ _).alloc (Nat.le_refl _) _
  have N3 := World.alloc_heap_new ((((w).alloc (.cells #[.int .i64 5, .int .i64 o] 51)).alloc (.cells #[.int .i64 0, .int .i64 0, .string ⟨#[]⟩, .slice none 0 0] 31)).alloc (.cells txtsA 9)) (.cells #[.int .i64 5, .int .i64 0, .string ⟨#[]⟩, .slice none 0 0] 31)
  rw [World.size_alloc, World.size_alloc, World.size_alloc] at N3
  replace N3 := Lib.hid N3
  replace hB := hB.trans (hBa.mono hB.size)
  replace N0 := Lib.hid ((hBa.block _ (heap_lt N0.out)).trans N0.out)
  replace N1 := Lib.hid ((hBa.block _ (heap_lt N1.out)).trans N1.out)
  replace N2 := Lib.hid ((hBa.block _ (heap_lt N2.out)).trans N2.out)
  clear hBa
  obtain ⟨U1, hV⟩ : ∃ V, ((((w).alloc (.cells #[.int .i64 5, .int .i64 o] 51)).alloc (.cells #[.int .i64 0, .int .i64 0, .string ⟨#[]⟩, .slice none 0 0] 31)).alloc (.cells txtsA 9)).alloc (.cells #[.int .i64 5, .int .i64 0, .string ⟨#[]⟩, .slice none 0 0] 31) = V := ⟨_, rfl⟩
  obtain ⟨B, hV2⟩ : ∃ B, w.heap.size = B := ⟨_, rfl⟩
  rw [hV] at N0 N1 N2 N3 hB ⊢
  rw [hV2] at N0 N1 N2 N3 ⊢
  have le_B := Nat.le_of_eq hV2
  clear hV hV2
  have hO : Hid (OwnR VR (B + 4) U1 (.slice none 0 0) []) := OwnR.nil _ _
  have hlt3 : B + 3 < U1.heap.size := heap_lt N3.out
  go_loopw [9] (fun i wr => ∃ (k : Nat) (L : List VC) (p : Option Addr) (cap : Nat), k ≤ m ∧ i = .int .i64 k ∧ Hid (wr.heap[B]? = some (.cells #[.int .i64 5, .int .i64 o] 51 (0, 0))) ∧ Hid (wr.heap[B + 1]? = some (.cells #[.int .i64 0, .int .i64 0, .string ⟨#[]⟩, .slice none 0 0] 31 (0, 0))) ∧ Hid (wr.heap[B + 3]? = some (.cells #[.int .i64 5, .int .i64 0, .string ⟨#[]⟩, .slice p L.length cap] 31 (0, 0))) ∧ Hid (OwnR VR (B + 4) wr (.slice p L.length cap) L) ∧ Hid (L.map VC.v = (List.range k).map fun i : Nat => mkVal1 o (q + (i : Int)) many) ∧ Hid (∀ y ∈ L, y.v.l = [] ∧ y.cap = 0) ∧ Below w.heap.size w wr ∧ L.length ≤ k) (fun i _ => m - (intOf i).toNat)
  case atStart => exact ⟨0, [], none, 0, Nat.zero_le _, rfl, N0, N1, N3, hO, rfl, (fun y hy => by cases hy), hB, by simp⟩
  case round =>
    obtain ⟨k, L, p, cap, hk5, rfl, P0, P1, P3, hO, HL, HY, hb, hlk⟩ := hrel
    have hsz : B + 4 ≤ wr.heap.size := heap_lt P3.out
    go_wp2_with fail
    refine (HP.out _).mono ?_
    rintro e w1 ⟨rfl, hw1⟩
    obtain rfl : wr = w1 := hw1.symm
    clear hw1
    by_cases hlt : k < m
    · obtain ⟨x, hx⟩ : ∃ x, mkVal1 o (q + k) many = x := ⟨_, rfl⟩
      have HC2 : Hid (∀ W, Calls Tryd.prog 41 #[.agg #[.int .i64 o, .int .i64 0], .int .i64 (q + k), .int .i64 many] W fun e w' => e = .returned (.agg #[.int .i64 x.k, .int .i64 x.n, .string (str x.s), .slice none 0 0]) ∧ Below W.heap.size W w') := fun W => by
        have := HC.out k W (by omega)
        rw [hx] at this
        exact this
      have hxl : Hid (x.l = []) := by show _ = _; rw [← hx]; exact (right1_of o _ many hk hm).2.1
      have HX := Lib.hid hx
      clear hx
      obtain ⟨d0, d1⟩ := blk2 P0.out
      obtain ⟨g0, g1, g2, g3⟩ := blk4 P3.out
      have hw1 : IntKind.i64.wrap q = q := IntWalk.i64_in _ (by omega)
      have hw2 : IntKind.i64.wrap (q + k) = q + k := IntWalk.i64_in _ (by omega)
      have hcs : Hid ((#[.int .i64 x.k, .int .i64 x.n, .string (str x.s), .slice none 0 0] : Array Value).toList = VR.cells (VC.of x)) := by show _ = _; simp [VR, cellsV, VC.of, hxl.out]
      have hlen : L.length + [VC.of x].length ≤ 1000000 := by simp; omega
      go_wp2_with fail
      go_region_law (first
        | (go_simp; go_at_call 41; (with_reducible refine (HC2.out _).mono ?_); rintro e W1 ⟨rfl, hb1⟩; have hbr : Below wr.heap.size wr W1 := (Below.refl _ _).drew.trans hb1; have hal : Below W1.heap.size W1 (W1.alloc (.cells #[.int .i64 x.k, .int .i64 x.n, .string (str x.s), .slice none 0 0] 31)) := (Below.refl _ _).alloc (Nat.le_refl _) _; have R3 := Lib.hid ((hbr.block _ (heap_lt P3.out)).trans P3.out); have R3b := blk_cells' R3.out 3; simp only [List.getElem?_toArray, List.getElem?_cons_zero, List.getElem?_cons_succ] at R3b; have hl3 : B + 3 < W1.heap.size := heap_lt R3.out)
        | (refine step_appR (R := VR) (o := ⟨some 64, _, _, _, _, _⟩) rfl (.tmp 53) (.tmp 63) rfl ((hO.out.ext hbr).ext hal) (isR_one (VC.of x) (World.alloc_heap_new W1 _) hcs.out) rfl rfl hlen (by simp; omega) ?_; intro v2 W2 hO2 hg2; obtain ⟨L2, p2, k2, rfl, hL2, hO2'⟩ := hO2.formL; clear hO2; have q3 := ((hO.out.ext hbr).ext hal).stay hg2 ((hal.block _ (heap_lt R3.out)).trans R3.out) (by omega); have e3 := blk_cells' q3 3; have f3 := blk_frozen q3 3; simp only [List.getElem?_toArray, List.getElem?_cons_zero, List.getElem?_cons_succ] at e3; have Q3 := Lib.hid q3; clear q3))
      all_goals
        go_wp2_with fail
        have hOa := (hO.out.ext hbr).ext hal
        have r0 := (hbr.block _ (heap_lt P0.out)).trans P0.out
        have r1 := (hbr.block _ (heap_lt P1.out)).trans P1.out
        have t0 := hOa.stay hg2 ((hal.block _ (heap_lt r0)).trans r0) (by omega)
        have t1 := hOa.stay hg2 ((hal.block _ (heap_lt r1)).trans r1) (by omega)
        have hBx := (hb.trans ((hbr.trans (hal.mono hbr.size)).mono hb.size)).grown hg2 (Nat.le_trans hb.size (Nat.le_trans hbr.size hal.size)) (fun j hj => by have := hOa.below j hj; omega)
        refine ⟨⟨k + 1, L2, p2, k2, by omega, by go_num, keepSet t0 _ _ _ (by omega), keepSet t1 _ _ _ (by omega), heap_setCell_same _ _ _ _ _ _ Q3.out, hO2'.out.set ?_, ?_, ?_, hBx.setCell (by show w.heap.size ≤ B + 3; omega) _, by rw [hL2.out]; simp; omega⟩, by simp [intOf]; omega⟩
        · intro h
          have := hO2'.out.below _ h.symm
          omega
        · show _ = _
          rw [hL2.out, List.map_append, HL.out, List.range_succ, List.map_append]
          simp [VC.of, HX.out]
        · intro y hy
          rw [hL2.out] at hy
          rcases List.mem_append.1 hy with hy | hy
          · exact HY.out y hy
          · obtain rfl := List.mem_singleton.1 hy
            exact ⟨hxl.out, rfl⟩
    · obtain rfl : k = m := by omega
      obtain ⟨g0, g1, g2, g3⟩ := blk4 P3.out
      have c0 := blk_cells' P1.out 0
      have cf0 := blk_frozen P1.out 0
      have c1 := blk_cells' P1.out 1
      have cf1 := blk_frozen P1.out 1
      have c2 := blk_cells' P1.out 2
      have cf2 := blk_frozen P1.out 2
      have c3 := blk_cells' P1.out 3
      have cf3 := blk_frozen P1.out 3
      simp only [List.getElem?_toArray, List.getElem?_cons_zero, List.getElem?_cons_succ] at c0 c1 c2 c3
      go_wp2_with fail
      refine bodyPost_ret (v := .agg #[.int .i64 5, .int .i64 0, .string (str []), .slice p L.length cap]) (by simp [results, Tryd.results41, go_sem, c0, c1, c2, c3, cf0, cf1, cf2, cf3, str]) rfl ?_
      have hl : Hid (L.length = (mkVal ⟨5, o⟩ n many).l.length) := by
        show _ = _
        have := congrArg List.length HL.out
        simp [mkVal, V.l] at this ⊢
        rw [this, show pick n 4 = k from HM.out]; simp
      have hv : Hid (L.map VC.v = (mkVal ⟨5, o⟩ n many).l) := by
        show _ = _
        rw [HL.out]
        simp [mkVal, V.l, show pick n 4 = k from HM.out, HQ.out]
      refine ⟨⟨p, cap, L, ?_, hv.out, ?_, HY.out⟩, below_set4 hb (by omega) _ _ _ _⟩
      · rw [← hl.out]; rfl
      · rw [← hl.out]
        have hne : some (B + 1) ≠ (Value.slice p L.length cap).ownBlock := fun h => by have := hO.out.below _ h.symm; omega
        exact ((((hO.out.set hne).set hne).set hne).set hne).lower (by omega)
end Go.Proofs.YtdlolkogifigpaaDoor
