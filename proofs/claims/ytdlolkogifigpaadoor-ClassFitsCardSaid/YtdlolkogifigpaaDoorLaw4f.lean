/- Chapter 4's helpers: ValOf of a kind that is no list; val.Zero. -/
import Derived.Test.YtdlolkogifigpaaDoorOwnV
import Derived.Test.YtdlolkogifigpaaDoorPVals
import Derived.Test.YtdlolkogifigpaaDoorLaw4b
import Derived.Deep.RegionWith
namespace Go.Proofs.YtdlolkogifigpaaDoor
open Go Go.RowKit Go.Mor
set_option maxHeartbeats 4000000

abbrev txtsA : Array Value := #[.string ⟨#[]⟩, .string ⟨#[97]⟩, .string ⟨#[98, 99]⟩, .string ⟨#[195, 169, 116, 195, 169]⟩, .string ⟨#[97, 32, 98]⟩, .string ⟨#[122, 122, 32, 116, 111, 112]⟩, .string ⟨#[48]⟩, .string ⟨#[45, 55]⟩]
theorem txts_at {j : Nat} (h : j < 8) : txtsA[j]? = some (.string (str (txts j))) := by
  have : j = 0 ∨ j = 1 ∨ j = 2 ∨ j = 3 ∨ j = 4 ∨ j = 5 ∨ j = 6 ∨ j = 7 := by omega
  rcases this with rfl | rfl | rfl | rfl | rfl | rfl | rfl | rfl <;> rfl
/-- A value by value whose list is empty. -/
def vval (x : V) : Value := .agg #[.int .i64 x.k, .int .i64 x.n, .string (str x.s), .slice none 0 0]
theorem below_set4 {B0 C : Nat} {w0 w : World} (h : Below B0 w0 w) (hC : B0 ≤ C) (v0 v1 v2 v3 : Value) : Below B0 w0 ((((w.setCell ⟨C, 0, none⟩ v0).setCell ⟨C, 1, none⟩ v1).setCell ⟨C, 2, none⟩ v2).setCell ⟨C, 3, none⟩ v3) :=
  (((h.setCell (p := ⟨C, 0, none⟩) hC _).setCell (p := ⟨C, 1, none⟩) hC _).setCell (p := ⟨C, 2, none⟩) hC _).setCell (p := ⟨C, 3, none⟩) hC _
set_option maxRecDepth 10000 in
theorem ValOf1_any (k o n many : Int) (w : World) (hk : 1 ≤ k ∧ k ≤ 4) (h0 : -9223372036854775808 ≤ n) (h1 : n ≤ 9223372036854775807) (hm : many ≤ 1000000) (hm0 : -1000 ≤ many) :
    Calls Tryd.prog 41 #[.agg #[.int .i64 k, .int .i64 o], .int .i64 n, .int .i64 many] w fun e w' => e = .returned (vval (mkVal1 k n many)) ∧ Below w.heap.size w w' := by
  obtain ⟨hk1, hk4⟩ := hk
  have hB := Below.refl w.heap.size w
  have HP := Lib.hid (fun m W (hm : 0 < m) hm1 => pick_any n m W h0 h1 hm hm1)
  by_cases e1 : k = 1
  · subst e1
    obtain ⟨j, hj, HJ⟩ := pick_nat n 41 (by omega)
    go_enter Tryd.func41, Tryd.ntmps41
    go_wp2_with fail
    have hBa : Below (w).heap.size (w) ((w).alloc (.cells #[.int .i64 1, .int .i64 o] 51)) := (Below.refl _ _).alloc (Nat.le_refl _) _
    have N0 := World.alloc_heap_new (w) (.cells #[.int .i64 1, .int .i64 o] 51)
    replace N0 := Lib.hid N0
    replace hB := hB.trans (hBa.mono hB.size)
    clear hBa
    have hBa : Below ((w).alloc (.cells #[.int .i64 1, .int .i64 o] 51)).heap.size ((w).alloc (.cells #[.int .i64 1, .int .i64 o] 51)) (((w).alloc (.cells #[.int .i64 1, .int .i64 o] 51)).alloc (.cells #[.int .i64 0, .int .i64 0, .string ⟨#[]⟩, .slice none 0 0] 31)) := (Below.refl _ _).alloc (Nat.le_refl _) _
    have N1 := World.alloc_heap_new ((w).alloc (.cells #[.int .i64 1, .int .i64 o] 51)) (.cells #[.int .i64 0, .int .i64 0, .string ⟨#[]⟩, .slice none 0 0] 31)
    rw [World.size_alloc] at N1
    replace N1 := Lib.hid N1
    replace hB := hB.trans (hBa.mono hB.size)
    replace N0 := Lib.hid ((hBa.block _ (heap_lt N0.out)).trans N0.out)
    clear hBa
    have hBa : Below (((w).alloc (.cells #[.int .i64 1, .int .i64 o] 51)).alloc (.cells #[.int .i64 0, .int .i64 0, .string ⟨#[]⟩, .slice none 0 0] 31)).heap.size (((w).alloc (.cells #[.int .i64 1, .int .i64 o] 51)).alloc (.cells #[.int .i64 0, .int .i64 0, .string ⟨#[]⟩, .slice none 0 0] 31)) ((((w).alloc (.cells #[.int .i64 1, .int .i64 o] 51)).alloc (.cells #[.int .i64 0, .int .i64 0, .string ⟨#[]⟩, .slice none 0 0] 31)).alloc (.cells txtsA 9)) := (Below.refl _ _).alloc (Nat.le_refl _) _
    have N2 := World.alloc_heap_new (((w).alloc (.cells #[.int .i64 1, .int .i64 o] 51)).alloc (.cells #[.int .i64 0, .int .i64 0, .string ⟨#[]⟩, .slice none 0 0] 31)) (.cells txtsA 9)
    rw [World.size_alloc, World.size_alloc] at N2
    replace N2 := Lib.hid N2
    replace hB := hB.trans (hBa.mono hB.size)
    replace N0 := Lib.hid ((hBa.block _ (heap_lt N0.out)).trans N0.out)
    replace N1 := Lib.hid ((hBa.block _ (heap_lt N1.out)).trans N1.out)
    clear hBa
    obtain ⟨U1, hV⟩ : ∃ V, (((w).alloc (.cells #[.int .i64 1, .int .i64 o] 51)).alloc (.cells #[.int .i64 0, .int .i64 0, .string ⟨#[]⟩, .slice none 0 0] 31)).alloc (.cells txtsA 9) = V := ⟨_, rfl⟩
    obtain ⟨B, hV2⟩ : ∃ B, w.heap.size = B := ⟨_, rfl⟩
    rw [hV] at N0 N1 N2 hB ⊢
    rw [hV2] at N0 N1 N2 ⊢
    have le_B := Nat.le_of_eq hV2
    clear hV hV2
    refine (HP.out 41 _ (by omega) (by omega)).mono ?_
    rintro e w1 ⟨rfl, hw1⟩
    obtain rfl : U1 = w1 := hw1.symm
    rw [show pick n 41 = j from HJ.out]
    clear hw1
    have g0 := blk_cells' N1.out 0
    have gf0 := blk_frozen N1.out 0
    have g1 := blk_cells' N1.out 1
    have gf1 := blk_frozen N1.out 1
    have g2 := blk_cells' N1.out 2
    have gf2 := blk_frozen N1.out 2
    have g3 := blk_cells' N1.out 3
    have gf3 := blk_frozen N1.out 3
    simp only [List.getElem?_toArray, List.getElem?_cons_zero, List.getElem?_cons_succ] at g0 g1 g2 g3
    go_wp2_with fail
    refine bodyPost_ret (v := vval (.mk 1 (j - 20) [] [])) (by simp [results, Tryd.results41, go_sem, g0, g1, g2, g3, gf0, gf1, gf2, gf3, vval, V.k, V.n, V.s, str]) rfl ⟨?_, below_set4 hB (by omega) _ _ _ _⟩
    rw [mkVal1, if_pos rfl, show pick n 41 = j from HJ.out]
  by_cases e2 : k = 2
  · subst e2
    obtain ⟨j, hj, HJ⟩ := pick_nat n 8 (by omega)
    go_enter Tryd.func41, Tryd.ntmps41
    go_wp2_with fail
    have hBa : Below (w).heap.size (w) ((w).alloc (.cells #[.int .i64 2, .int .i64 o] 51)) := (Below.refl _ _).alloc (Nat.le_refl _) _
    have N0 := World.alloc_heap_new (w) (.cells #[.int .i64 2, .int .i64 o] 51)
    replace N0 := Lib.hid N0
    replace hB := hB.trans (hBa.mono hB.size)
    clear hBa
    have hBa : Below ((w).alloc (.cells #[.int .i64 2, .int .i64 o] 51)).heap.size ((w).alloc (.cells #[.int .i64 2, .int .i64 o] 51)) (((w).alloc (.cells #[.int .i64 2, .int .i64 o] 51)).alloc (.cells #[.int .i64 0, .int .i64 0, .string ⟨#[]⟩, .slice none 0 0] 31)) := (Below.refl _ _).alloc (Nat.le_refl _) _
    have N1 := World.alloc_heap_new ((w).alloc (.cells #[.int .i64 2, .int .i64 o] 51)) (.cells #[.int .i64 0, .int .i64 0, .string ⟨#[]⟩, .slice none 0 0] 31)
    rw [World.size_alloc] at N1
    replace N1 := Lib.hid N1
    replace hB := hB.trans (hBa.mono hB.size)
    replace N0 := Lib.hid ((hBa.block _ (heap_lt N0.out)).trans N0.out)
    clear hBa
    have hBa : Below (((w).alloc (.cells #[.int .i64 2, .int .i64 o] 51)).alloc (.cells #[.int .i64 0, .int .i64 0, .string ⟨#[]⟩, .slice none 0 0] 31)).heap.size (((w).alloc (.cells #[.int .i64 2, .int .i64 o] 51)).alloc (.cells #[.int .i64 0, .int .i64 0, .string ⟨#[]⟩, .slice none 0 0] 31)) ((((w).alloc (.cells #[.int .i64 2, .int .i64 o] 51)).alloc (.cells #[.int .i64 0, .int .i64 0, .string ⟨#[]⟩, .slice none 0 0] 31)).alloc (.cells txtsA 9)) := (Below.refl _ _).alloc (Nat.le_refl _) _
    have N2 := World.alloc_heap_new (((w).alloc (.cells #[.int .i64 2, .int .i64 o] 51)).alloc (.cells #[.int .i64 0, .int .i64 0, .string ⟨#[]⟩, .slice none 0 0] 31)) (.cells txtsA 9)
    rw [World.size_alloc, World.size_alloc] at N2
    replace N2 := Lib.hid N2
    replace hB := hB.trans (hBa.mono hB.size)
    replace N0 := Lib.hid ((hBa.block _ (heap_lt N0.out)).trans N0.out)
    replace N1 := Lib.hid ((hBa.block _ (heap_lt N1.out)).trans N1.out)
    clear hBa
    obtain ⟨U1, hV⟩ : ∃ V, (((w).alloc (.cells #[.int .i64 2, .int .i64 o] 51)).alloc (.cells #[.int .i64 0, .int .i64 0, .string ⟨#[]⟩, .slice none 0 0] 31)).alloc (.cells txtsA 9) = V := ⟨_, rfl⟩
    obtain ⟨B, hV2⟩ : ∃ B, w.heap.size = B := ⟨_, rfl⟩
    rw [hV] at N0 N1 N2 hB ⊢
    rw [hV2] at N0 N1 N2 ⊢
    have le_B := Nat.le_of_eq hV2
    clear hV hV2
    refine (HP.out 8 _ (by omega) (by omega)).mono ?_
    rintro e w1 ⟨rfl, hw1⟩
    obtain rfl : U1 = w1 := hw1.symm
    rw [show pick n 8 = j from HJ.out]
    clear hw1
    have g0 := blk_cells' N1.out 0
    have gf0 := blk_frozen N1.out 0
    have g1 := blk_cells' N1.out 1
    have gf1 := blk_frozen N1.out 1
    have g2 := blk_cells' N1.out 2
    have gf2 := blk_frozen N1.out 2
    have g3 := blk_cells' N1.out 3
    have gf3 := blk_frozen N1.out 3
    simp only [List.getElem?_toArray, List.getElem?_cons_zero, List.getElem?_cons_succ] at g0 g1 g2 g3
    have t0 := (blk_cells' N2.out j).trans (txts_at hj)
    go_wp2_with fail
    refine bodyPost_ret (v := vval (.mk 2 0 (txts j) [])) (by simp [results, Tryd.results41, go_sem, g0, g1, g2, g3, gf0, gf1, gf2, gf3, vval, V.k, V.n, V.s, str]) rfl ⟨?_, below_set4 hB (by omega) _ _ _ _⟩
    rw [mkVal1, if_neg (by omega), if_pos rfl, show pick n 8 = j from HJ.out]
  have b1 : (k == 1) = false := by simp; omega
  have b2 : (k == 2) = false := by simp; omega
  have hV : Hid (mkVal1 k n many = if many < 1 ∨ pick n 5 = 4 then V.nil else .mk k (1 + pick n many) [] []) := by show _ = _; rw [mkVal1, if_neg e1, if_neg e2]
  have e3 : k = 3 ∨ k = 4 := by omega
  clear e1 e2 b1 b2 hk1 hk4
  rcases e3 with rfl | rfl
  · by_cases hm1 : many < 1
    · have hd : decide (many < 1) = true := by simp; omega
      go_enter Tryd.func41, Tryd.ntmps41
      go_wp2_with fail
      refine bodyPost_ret (v := vval V.nil) (by simp [results, Tryd.results41, go_sem, vval, V.k, V.n, V.s, V.nil, str]) rfl ⟨?_, by go_grown⟩
      rw [hV.out, if_pos (.inl hm1)]
    have hd : decide (many < 1) = false := by simp; omega
    obtain ⟨j, hj, HJ⟩ := pick_nat n 5 (by omega)
    by_cases hj4 : j = 4
    · subst hj4
      go_enter Tryd.func41, Tryd.ntmps41
      go_wp2_with fail
      have hBa : Below (w).heap.size (w) ((w).alloc (.cells #[.int .i64 3, .int .i64 o] 51)) := (Below.refl _ _).alloc (Nat.le_refl _) _
      have N0 := World.alloc_heap_new (w) (.cells #[.int .i64 3, .int .i64 o] 51)
      replace N0 := Lib.hid N0
      replace hB := hB.trans (hBa.mono hB.size)
      clear hBa
      have hBa : Below ((w).alloc (.cells #[.int .i64 3, .int .i64 o] 51)).heap.size ((w).alloc (.cells #[.int .i64 3, .int .i64 o] 51)) (((w).alloc (.cells #[.int .i64 3, .int .i64 o] 51)).alloc (.cells #[.int .i64 0, .int .i64 0, .string ⟨#[]⟩, .slice none 0 0] 31)) := (Below.refl _ _).alloc (Nat.le_refl _) _
      have N1 := World.alloc_heap_new ((w).alloc (.cells #[.int .i64 3, .int .i64 o] 51)) (.cells #[.int .i64 0, .int .i64 0, .string ⟨#[]⟩, .slice none 0 0] 31)
      rw [World.size_alloc] at N1
      replace N1 := Lib.hid N1
      replace hB := hB.trans (hBa.mono hB.size)
      replace N0 := Lib.hid ((hBa.block _ (heap_lt N0.out)).trans N0.out)
      clear hBa
      have hBa : Below (((w).alloc (.cells #[.int .i64 3, .int .i64 o] 51)).alloc (.cells #[.int .i64 0, .int .i64 0, .string ⟨#[]⟩, .slice none 0 0] 31)).heap.size (((w).alloc (.cells #[.int .i64 3, .int .i64 o] 51)).alloc (.cells #[.int .i64 0, .int .i64 0, .string ⟨#[]⟩, .slice none 0 0] 31)) ((((w).alloc (.cells #[.int .i64 3, .int .i64 o] 51)).alloc (.cells #[.int .i64 0, .int .i64 0, .string ⟨#[]⟩, .slice none 0 0] 31)).alloc (.cells txtsA 9)) := (Below.refl _ _).alloc (Nat.le_refl _) _
      have N2 := World.alloc_heap_new (((w).alloc (.cells #[.int .i64 3, .int .i64 o] 51)).alloc (.cells #[.int .i64 0, .int .i64 0, .string ⟨#[]⟩, .slice none 0 0] 31)) (.cells txtsA 9)
      rw [World.size_alloc, World.size_alloc] at N2
      replace N2 := Lib.hid N2
      replace hB := hB.trans (hBa.mono hB.size)
      replace N0 := Lib.hid ((hBa.block _ (heap_lt N0.out)).trans N0.out)
      replace N1 := Lib.hid ((hBa.block _ (heap_lt N1.out)).trans N1.out)
      clear hBa
      obtain ⟨U1, hV⟩ : ∃ V, (((w).alloc (.cells #[.int .i64 3, .int .i64 o] 51)).alloc (.cells #[.int .i64 0, .int .i64 0, .string ⟨#[]⟩, .slice none 0 0] 31)).alloc (.cells txtsA 9) = V := ⟨_, rfl⟩
      obtain ⟨B, hV2⟩ : ∃ B, w.heap.size = B := ⟨_, rfl⟩
      rw [hV] at N0 N1 N2 hB ⊢
      rw [hV2] at N0 N1 N2 ⊢
      have le_B := Nat.le_of_eq hV2
      clear hV hV2
      refine (HP.out 5 _ (by omega) (by omega)).mono ?_
      rintro e w1 ⟨rfl, hw1⟩
      obtain rfl : U1 = w1 := hw1.symm
      rw [show pick n 5 = _ from HJ.out]
      clear hw1
      have g0 := blk_cells' N1.out 0
      have gf0 := blk_frozen N1.out 0
      have g1 := blk_cells' N1.out 1
      have gf1 := blk_frozen N1.out 1
      have g2 := blk_cells' N1.out 2
      have gf2 := blk_frozen N1.out 2
      have g3 := blk_cells' N1.out 3
      have gf3 := blk_frozen N1.out 3
      simp only [List.getElem?_toArray, List.getElem?_cons_zero, List.getElem?_cons_succ] at g0 g1 g2 g3
      go_wp2_with fail
      refine bodyPost_ret (v := vval (V.nil)) (by simp [results, Tryd.results41, go_sem, g0, g1, g2, g3, gf0, gf1, gf2, gf3, vval, V.k, V.n, V.s, V.nil, str]) rfl ⟨?_, below_set4 hB (by omega) _ _ _ _⟩
      rw [hV.out, if_pos (.inr HJ.out)]
    · have hj4' : ((j : Int) == 4) = false := by simp; omega
      have hmix : Tryd.prog.follows .mixedOrders = true := by kernel_rfl
      obtain ⟨i, hi, HI⟩ := pick_nat n many.toNat (by omega)
      have hmn : (many.toNat : Int) = many := by omega
      rw [hmn] at HI
      have HPM : Hid (∀ W, Calls Tryd.prog 15 #[.int .i64 n, .int .i64 many] W fun e w' => e = .returned (.int .i64 i) ∧ w' = W) := fun W => by
        have := HP.out many W (by omega) (by omega)
        rwa [show pick n many = i from HI.out] at this
      clear hmn
      go_enter Tryd.func41, Tryd.ntmps41
      go_wp2_with fail
      have hBa : Below (w).heap.size (w) ((w).alloc (.cells #[.int .i64 3, .int .i64 o] 51)) := (Below.refl _ _).alloc (Nat.le_refl _) _
      have N0 := World.alloc_heap_new (w) (.cells #[.int .i64 3, .int .i64 o] 51)
      replace N0 := Lib.hid N0
      replace hB := hB.trans (hBa.mono hB.size)
      clear hBa
      have hBa : Below ((w).alloc (.cells #[.int .i64 3, .int .i64 o] 51)).heap.size ((w).alloc (.cells #[.int .i64 3, .int .i64 o] 51)) (((w).alloc (.cells #[.int .i64 3, .int .i64 o] 51)).alloc (.cells #[.int .i64 0, .int .i64 0, .string ⟨#[]⟩, .slice none 0 0] 31)) := (Below.refl _ _).alloc (Nat.le_refl _) _
      have N1 := World.alloc_heap_new ((w).alloc (.cells #[.int .i64 3, .int .i64 o] 51)) (.cells #[.int .i64 0, .int .i64 0, .string ⟨#[]⟩, .slice none 0 0] 31)
      rw [World.size_alloc] at N1
      replace N1 := Lib.hid N1
      replace hB := hB.trans (hBa.mono hB.size)
      replace N0 := Lib.hid ((hBa.block _ (heap_lt N0.out)).trans N0.out)
      clear hBa
      have hBa : Below (((w).alloc (.cells #[.int .i64 3, .int .i64 o] 51)).alloc (.cells #[.int .i64 0, .int .i64 0, .string ⟨#[]⟩, .slice none 0 0] 31)).heap.size (((w).alloc (.cells #[.int .i64 3, .int .i64 o] 51)).alloc (.cells #[.int .i64 0, .int .i64 0, .string ⟨#[]⟩, .slice none 0 0] 31)) ((((w).alloc (.cells #[.int .i64 3, .int .i64 o] 51)).alloc (.cells #[.int .i64 0, .int .i64 0, .string ⟨#[]⟩, .slice none 0 0] 31)).alloc (.cells txtsA 9)) := (Below.refl _ _).alloc (Nat.le_refl _) _
      have N2 := World.alloc_heap_new (((w).alloc (.cells #[.int .i64 3, .int .i64 o] 51)).alloc (.cells #[.int .i64 0, .int .i64 0, .string ⟨#[]⟩, .slice none 0 0] 31)) (.cells txtsA 9)
      rw [World.size_alloc, World.size_alloc] at N2
      replace N2 := Lib.hid N2
      replace hB := hB.trans (hBa.mono hB.size)
      replace N0 := Lib.hid ((hBa.block _ (heap_lt N0.out)).trans N0.out)
      replace N1 := Lib.hid ((hBa.block _ (heap_lt N1.out)).trans N1.out)
      clear hBa
      obtain ⟨U1, hV⟩ : ∃ V, (((w).alloc (.cells #[.int .i64 3, .int .i64 o] 51)).alloc (.cells #[.int .i64 0, .int .i64 0, .string ⟨#[]⟩, .slice none 0 0] 31)).alloc (.cells txtsA 9) = V := ⟨_, rfl⟩
      obtain ⟨B, hV2⟩ : ∃ B, w.heap.size = B := ⟨_, rfl⟩
      rw [hV] at N0 N1 N2 hB ⊢
      rw [hV2] at N0 N1 N2 ⊢
      have le_B := Nat.le_of_eq hV2
      clear hV hV2
      refine (HP.out 5 _ (by omega) (by omega)).mono ?_
      rintro e w1 ⟨rfl, hw1⟩
      obtain rfl : U1 = w1 := hw1.symm
      rw [show pick n 5 = _ from HJ.out]
      clear hw1
      have d0 := blk_cells' N0.out 0
      have d1 := blk_cells' N0.out 1
      simp only [List.getElem?_toArray, List.getElem?_cons_zero, List.getElem?_cons_succ] at d0 d1
      have g0 := blk_cells' N1.out 0
      have gf0 := blk_frozen N1.out 0
      have g1 := blk_cells' N1.out 1
      have gf1 := blk_frozen N1.out 1
      have g2 := blk_cells' N1.out 2
      have gf2 := blk_frozen N1.out 2
      have g3 := blk_cells' N1.out 3
      have gf3 := blk_frozen N1.out 3
      simp only [List.getElem?_toArray, List.getElem?_cons_zero, List.getElem?_cons_succ] at g0 g1 g2 g3
      go_wp2_with fail
      refine wp_region_tail 7 hmix (by kernel_rfl) ?_; simp only [List.take_succ_cons, List.take_zero, List.drop_succ_cons, List.drop_zero]
      iterate 4 still_step
      still_call (HPM.out _)
      iterate 2 still_step
      refine wpStill_nil ?_
      go_wp2_with fail
      refine bodyPost_ret (v := vval (.mk 3 (1 + i) [] [])) (by simp [results, Tryd.results41, go_sem, g0, g1, g2, g3, gf0, gf1, gf2, gf3, vval, V.k, V.n, V.s, V.nil, str]) rfl ⟨?_, below_set4 hB.drew (by omega) _ _ _ _⟩
      rw [hV.out, if_neg (fun h => h.elim (fun h => by omega) (fun h => by have q : pick n 5 = j := HJ.out; omega)), show pick n many = i from HI.out]
  · by_cases hm1 : many < 1
    · have hd : decide (many < 1) = true := by simp; omega
      go_enter Tryd.func41, Tryd.ntmps41
      go_wp2_with fail
      refine bodyPost_ret (v := vval V.nil) (by simp [results, Tryd.results41, go_sem, vval, V.k, V.n, V.s, V.nil, str]) rfl ⟨?_, by go_grown⟩
      rw [hV.out, if_pos (.inl hm1)]
    have hd : decide (many < 1) = false := by simp; omega
    obtain ⟨j, hj, HJ⟩ := pick_nat n 5 (by omega)
    by_cases hj4 : j = 4
    · subst hj4
      go_enter Tryd.func41, Tryd.ntmps41
      go_wp2_with fail
      have hBa : Below (w).heap.size (w) ((w).alloc (.cells #[.int .i64 4, .int .i64 o] 51)) := (Below.refl _ _).alloc (Nat.le_refl _) _
      have N0 := World.alloc_heap_new (w) (.cells #[.int .i64 4, .int .i64 o] 51)
      replace N0 := Lib.hid N0
      replace hB := hB.trans (hBa.mono hB.size)
      clear hBa
      have hBa : Below ((w).alloc (.cells #[.int .i64 4, .int .i64 o] 51)).heap.size ((w).alloc (.cells #[.int .i64 4, .int .i64 o] 51)) (((w).alloc (.cells #[.int .i64 4, .int .i64 o] 51)).alloc (.cells #[.int .i64 0, .int .i64 0, .string ⟨#[]⟩, .slice none 0 0] 31)) := (Below.refl _ _).alloc (Nat.le_refl _) _
      have N1 := World.alloc_heap_new ((w).alloc (.cells #[.int .i64 4, .int .i64 o] 51)) (.cells #[.int .i64 0, .int .i64 0, .string ⟨#[]⟩, .slice none 0 0] 31)
      rw [World.size_alloc] at N1
      replace N1 := Lib.hid N1
      replace hB := hB.trans (hBa.mono hB.size)
      replace N0 := Lib.hid ((hBa.block _ (heap_lt N0.out)).trans N0.out)
      clear hBa
      have hBa : Below (((w).alloc (.cells #[.int .i64 4, .int .i64 o] 51)).alloc (.cells #[.int .i64 0, .int .i64 0, .string ⟨#[]⟩, .slice none 0 0] 31)).heap.size (((w).alloc (.cells #[.int .i64 4, .int .i64 o] 51)).alloc (.cells #[.int .i64 0, .int .i64 0, .string ⟨#[]⟩, .slice none 0 0] 31)) ((((w).alloc (.cells #[.int .i64 4, .int .i64 o] 51)).alloc (.cells #[.int .i64 0, .int .i64 0, .string ⟨#[]⟩, .slice none 0 0] 31)).alloc (.cells txtsA 9)) := (Below.refl _ _).alloc (Nat.le_refl _) _
      have N2 := World.alloc_heap_new (((w).alloc (.cells #[.int .i64 4, .int .i64 o] 51)).alloc (.cells #[.int .i64 0, .int .i64 0, .string ⟨#[]⟩, .slice none 0 0] 31)) (.cells txtsA 9)
      rw [World.size_alloc, World.size_alloc] at N2
      replace N2 := Lib.hid N2
      replace hB := hB.trans (hBa.mono hB.size)
      replace N0 := Lib.hid ((hBa.block _ (heap_lt N0.out)).trans N0.out)
      replace N1 := Lib.hid ((hBa.block _ (heap_lt N1.out)).trans N1.out)
      clear hBa
      obtain ⟨U1, hV⟩ : ∃ V, (((w).alloc (.cells #[.int .i64 4, .int .i64 o] 51)).alloc (.cells #[.int .i64 0, .int .i64 0, .string ⟨#[]⟩, .slice none 0 0] 31)).alloc (.cells txtsA 9) = V := ⟨_, rfl⟩
      obtain ⟨B, hV2⟩ : ∃ B, w.heap.size = B := ⟨_, rfl⟩
      rw [hV] at N0 N1 N2 hB ⊢
      rw [hV2] at N0 N1 N2 ⊢
      have le_B := Nat.le_of_eq hV2
      clear hV hV2
      refine (HP.out 5 _ (by omega) (by omega)).mono ?_
      rintro e w1 ⟨rfl, hw1⟩
      obtain rfl : U1 = w1 := hw1.symm
      rw [show pick n 5 = _ from HJ.out]
      clear hw1
      have g0 := blk_cells' N1.out 0
      have gf0 := blk_frozen N1.out 0
      have g1 := blk_cells' N1.out 1
      have gf1 := blk_frozen N1.out 1
      have g2 := blk_cells' N1.out 2
      have gf2 := blk_frozen N1.out 2
      have g3 := blk_cells' N1.out 3
      have gf3 := blk_frozen N1.out 3
      simp only [List.getElem?_toArray, List.getElem?_cons_zero, List.getElem?_cons_succ] at g0 g1 g2 g3
      go_wp2_with fail
      refine bodyPost_ret (v := vval (V.nil)) (by simp [results, Tryd.results41, go_sem, g0, g1, g2, g3, gf0, gf1, gf2, gf3, vval, V.k, V.n, V.s, V.nil, str]) rfl ⟨?_, below_set4 hB (by omega) _ _ _ _⟩
      rw [hV.out, if_pos (.inr HJ.out)]
    · have hj4' : ((j : Int) == 4) = false := by simp; omega
      have hmix : Tryd.prog.follows .mixedOrders = true := by kernel_rfl
      obtain ⟨i, hi, HI⟩ := pick_nat n many.toNat (by omega)
      have hmn : (many.toNat : Int) = many := by omega
      rw [hmn] at HI
      have HPM : Hid (∀ W, Calls Tryd.prog 15 #[.int .i64 n, .int .i64 many] W fun e w' => e = .returned (.int .i64 i) ∧ w' = W) := fun W => by
        have := HP.out many W (by omega) (by omega)
        rwa [show pick n many = i from HI.out] at this
      clear hmn
      go_enter Tryd.func41, Tryd.ntmps41
      go_wp2_with fail
      have hBa : Below (w).heap.size (w) ((w).alloc (.cells #[.int .i64 4, .int .i64 o] 51)) := (Below.refl _ _).alloc (Nat.le_refl _) _
      have N0 := World.alloc_heap_new (w) (.cells #[.int .i64 4, .int .i64 o] 51)
      replace N0 := Lib.hid N0
      replace hB := hB.trans (hBa.mono hB.size)
      clear hBa
      have hBa : Below ((w).alloc (.cells #[.int .i64 4, .int .i64 o] 51)).heap.size ((w).alloc (.cells #[.int .i64 4, .int .i64 o] 51)) (((w).alloc (.cells #[.int .i64 4, .int .i64 o] 51)).alloc (.cells #[.int .i64 0, .int .i64 0, .string ⟨#[]⟩, .slice none 0 0] 31)) := (Below.refl _ _).alloc (Nat.le_refl _) _
      have N1 := World.alloc_heap_new ((w).alloc (.cells #[.int .i64 4, .int .i64 o] 51)) (.cells #[.int .i64 0, .int .i64 0, .string ⟨#[]⟩, .slice none 0 0] 31)
      rw [World.size_alloc] at N1
      replace N1 := Lib.hid N1
      replace hB := hB.trans (hBa.mono hB.size)
      replace N0 := Lib.hid ((hBa.block _ (heap_lt N0.out)).trans N0.out)
      clear hBa
      have hBa : Below (((w).alloc (.cells #[.int .i64 4, .int .i64 o] 51)).alloc (.cells #[.int .i64 0, .int .i64 0, .string ⟨#[]⟩, .slice none 0 0] 31)).heap.size (((w).alloc (.cells #[.int .i64 4, .int .i64 o] 51)).alloc (.cells #[.int .i64 0, .int .i64 0, .string ⟨#[]⟩, .slice none 0 0] 31)) ((((w).alloc (.cells #[.int .i64 4, .int .i64 o] 51)).alloc (.cells #[.int .i64 0, .int .i64 0, .string ⟨#[]⟩, .slice none 0 0] 31)).alloc (.cells txtsA 9)) := (Below.refl _ _).alloc (Nat.le_refl _) _
      have N2 := World.alloc_heap_new (((w).alloc (.cells #[.int .i64 4, .int .i64 o] 51)).alloc (.cells #[.int .i64 0, .int .i64 0, .string ⟨#[]⟩, .slice none 0 0] 31)) (.cells txtsA 9)
      rw [World.size_alloc, World.size_alloc] at N2
      replace N2 := Lib.hid N2
      replace hB := hB.trans (hBa.mono hB.size)
      replace N0 := Lib.hid ((hBa.block _ (heap_lt N0.out)).trans N0.out)
      replace N1 := Lib.hid ((hBa.block _ (heap_lt N1.out)).trans N1.out)
      clear hBa
      obtain ⟨U1, hV⟩ : ∃ V, (((w).alloc (.cells #[.int .i64 4, .int .i64 o] 51)).alloc (.cells #[.int .i64 0, .int .i64 0, .string ⟨#[]⟩, .slice none 0 0] 31)).alloc (.cells txtsA 9) = V := ⟨_, rfl⟩
      obtain ⟨B, hV2⟩ : ∃ B, w.heap.size = B := ⟨_, rfl⟩
      rw [hV] at N0 N1 N2 hB ⊢
      rw [hV2] at N0 N1 N2 ⊢
      have le_B := Nat.le_of_eq hV2
      clear hV hV2
      refine (HP.out 5 _ (by omega) (by omega)).mono ?_
      rintro e w1 ⟨rfl, hw1⟩
      obtain rfl : U1 = w1 := hw1.symm
      rw [show pick n 5 = _ from HJ.out]
      clear hw1
      have d0 := blk_cells' N0.out 0
      have d1 := blk_cells' N0.out 1
      simp only [List.getElem?_toArray, List.getElem?_cons_zero, List.getElem?_cons_succ] at d0 d1
      have g0 := blk_cells' N1.out 0
      have gf0 := blk_frozen N1.out 0
      have g1 := blk_cells' N1.out 1
      have gf1 := blk_frozen N1.out 1
      have g2 := blk_cells' N1.out 2
      have gf2 := blk_frozen N1.out 2
      have g3 := blk_cells' N1.out 3
      have gf3 := blk_frozen N1.out 3
      simp only [List.getElem?_toArray, List.getElem?_cons_zero, List.getElem?_cons_succ] at g0 g1 g2 g3
      go_wp2_with fail
      refine wp_region_tail 7 hmix (by kernel_rfl) ?_; simp only [List.take_succ_cons, List.take_zero, List.drop_succ_cons, List.drop_zero]
      iterate 4 still_step
      still_call (HPM.out _)
      iterate 2 still_step
      refine wpStill_nil ?_
      go_wp2_with fail
      refine bodyPost_ret (v := vval (.mk 4 (1 + i) [] [])) (by simp [results, Tryd.results41, go_sem, g0, g1, g2, g3, gf0, gf1, gf2, gf3, vval, V.k, V.n, V.s, V.nil, str]) rfl ⟨?_, below_set4 hB.drew (by omega) _ _ _ _⟩
      rw [hV.out, if_neg (fun h => h.elim (fun h => by omega) (fun h => by have q : pick n 5 = j := HJ.out; omega)), show pick n many = i from HI.out]
end Go.Proofs.YtdlolkogifigpaaDoor
