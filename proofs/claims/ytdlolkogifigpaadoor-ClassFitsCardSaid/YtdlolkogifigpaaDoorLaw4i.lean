/- val.Zero. -/
import Derived.Test.YtdlolkogifigpaaDoorLaw4h
import Derived.Test.YtdlolkogifigpaaDoorPFits
namespace Go.Proofs.YtdlolkogifigpaaDoor
open Go Go.RowKit Go.Mor
set_option maxHeartbeats 4000000

set_option maxRecDepth 10000 in
theorem Zero_any (t : Ty) (w : World) :
    Calls Tryd.prog 25 #[.agg #[.int .i64 t.k, .int .i64 t.o]] w fun e w' => e = .returned (vval (zeroV t)) ∧ Below w.heap.size w w' := by
  obtain ⟨k, o⟩ := t
  have hB := Below.refl w.heap.size w
  have HR := Lib.hid (fun W => rightType_any ⟨k, o⟩ W)
  cases hrt : rightType ⟨k, o⟩
  · have HZ : Hid (zeroV ⟨k, o⟩ = V.nil) := by show _ = _; simp [zeroV, hrt]
    have HRT := Lib.hid hrt
    clear hrt
    go_enter Tryd.func25, Tryd.ntmps25
    go_wp2_with fail
    have hBa : Below (w).heap.size (w) ((w).alloc (.cells #[.int .i64 k, .int .i64 o] 51)) := (Below.refl _ _).alloc (Nat.le_refl _) _
    have N0 := World.alloc_heap_new (w) (.cells #[.int .i64 k, .int .i64 o] 51)
    replace N0 := Lib.hid N0
    replace hB := hB.trans (hBa.mono hB.size)
    clear hBa
    have hBa : Below ((w).alloc (.cells #[.int .i64 k, .int .i64 o] 51)).heap.size ((w).alloc (.cells #[.int .i64 k, .int .i64 o] 51)) (((w).alloc (.cells #[.int .i64 k, .int .i64 o] 51)).alloc (.cells #[.int .i64 0, .int .i64 0, .string ⟨#[]⟩, .slice none 0 0] 31)) := (Below.refl _ _).alloc (Nat.le_refl _) _
    have N1 := World.alloc_heap_new ((w).alloc (.cells #[.int .i64 k, .int .i64 o] 51)) (.cells #[.int .i64 0, .int .i64 0, .string ⟨#[]⟩, .slice none 0 0] 31)
    rw [World.size_alloc] at N1
    replace N1 := Lib.hid N1
    replace hB := hB.trans (hBa.mono hB.size)
    replace N0 := Lib.hid ((hBa.block _ (heap_lt N0.out)).trans N0.out)
    clear hBa
    obtain ⟨U1, hV⟩ : ∃ V, ((w).alloc (.cells #[.int .i64 k, .int .i64 o] 51)).alloc (.cells #[.int .i64 0, .int .i64 0, .string ⟨#[]⟩, .slice none 0 0] 31) = V := ⟨_, rfl⟩
    obtain ⟨B, hV2⟩ : ∃ B, w.heap.size = B := ⟨_, rfl⟩
    rw [hV] at N0 N1 hB ⊢
    rw [hV2] at N0 N1 ⊢
    have le_B := Nat.le_of_eq hV2
    clear hV hV2
    refine (HR.out U1).mono ?_
    rintro e U2 ⟨rfl, hbU2⟩
    replace hB := hB.trans (hbU2.mono hB.size)
    replace N0 := Lib.hid ((hbU2.block _ (heap_lt N0.out)).trans N0.out)
    replace N1 := Lib.hid ((hbU2.block _ (heap_lt N1.out)).trans N1.out)
    clear hbU2
    rw [HRT.out]
    have g0 := blk_cells' N1.out 0
    have gf0 := blk_frozen N1.out 0
    have g1 := blk_cells' N1.out 1
    have gf1 := blk_frozen N1.out 1
    have g2 := blk_cells' N1.out 2
    have gf2 := blk_frozen N1.out 2
    have g3 := blk_cells' N1.out 3
    have gf3 := blk_frozen N1.out 3
    simp only [List.getElem?_toArray, List.getElem?_cons_zero, List.getElem?_cons_succ] at g0 g1 g2 g3
    go_wp2_with fail
    refine bodyPost_ret (v := vval V.nil) (by simp [results, Tryd.results25, go_sem, g0, g1, g2, g3, gf0, gf1, gf2, gf3, vval, V.k, V.n, V.s, V.nil, str]) rfl ⟨by rw [HZ.out], below_set4 hB (by omega) _ _ _ _⟩
  · by_cases h34 : k = 3 ∨ k = 4
    · have HZ : Hid (zeroV ⟨k, o⟩ = V.nil) := by show _ = _; rcases h34 with rfl | rfl <;> simp [zeroV]
      have HRT := Lib.hid hrt
      clear hrt
      rcases h34 with rfl | rfl
      · go_enter Tryd.func25, Tryd.ntmps25
        go_wp2_with fail
        have hBa : Below (w).heap.size (w) ((w).alloc (.cells #[.int .i64 3, .int .i64 o] 51)) := (Below.refl _ _).alloc (Nat.le_refl _) _
        have N0 := World.alloc_heap_new (w) (.cells #[.int .i64 3, .int .i64 o] 51)
        replace N0 := Lib.hid N0
        replace hB := hB.trans (hBa.mono hB.size)
        clear hBa
        have hBa : Below ((w).alloc (.cells #[.int .i64 3, .int .i64 o] 51)).heap.size ((w).alloc (.cells #[.int .i64 3, .int .i64 o] 51)) (((w).alloc (.cells #[.int .i64 3, .int .i64 o] 51)).alloc (.cells #[.int .i64 0, .int .i64 0, .string ⟨#[]⟩, .slice none 0 0] 31)) := (Below.refl _ _).alloc (Nat.le_refl _) _
        have N1 := World.alloc_heap_new ((w).alloc (.cells #[.int .i64 3, .int .i64 o] 51)) (.cells #[.int .i64 0, .int .i64 0, .string ⟨#[]⟩, .slice none 0 0] 31)
        rw [World.size_alloc] at N1
        replace N1 := Lib.hid N1
        replace hB := hB.trans (hBa.mono hB.size)
        replace N0 := Lib.hid ((hBa.block _ (heap_lt N0.out)).trans N0.out)
        clear hBa
        obtain ⟨U1, hV⟩ : ∃ V, ((w).alloc (.cells #[.int .i64 3, .int .i64 o] 51)).alloc (.cells #[.int .i64 0, .int .i64 0, .string ⟨#[]⟩, .slice none 0 0] 31) = V := ⟨_, rfl⟩
        obtain ⟨B, hV2⟩ : ∃ B, w.heap.size = B := ⟨_, rfl⟩
        rw [hV] at N0 N1 hB ⊢
        rw [hV2] at N0 N1 ⊢
        have le_B := Nat.le_of_eq hV2
        clear hV hV2
        refine (HR.out U1).mono ?_
        rintro e U2 ⟨rfl, hbU2⟩
        replace hB := hB.trans (hbU2.mono hB.size)
        replace N0 := Lib.hid ((hbU2.block _ (heap_lt N0.out)).trans N0.out)
        replace N1 := Lib.hid ((hbU2.block _ (heap_lt N1.out)).trans N1.out)
        clear hbU2
        rw [HRT.out]
        have d0 := blk_cells' N0.out 0
        have d1 := blk_cells' N0.out 1
        simp only [List.getElem?_toArray, List.getElem?_cons_zero, List.getElem?_cons_succ] at d0 d1
        have g0 := blk_cells' N1.out 0
        have gf0 := blk_frozen N1.out 0
        have g1 := blk_cells' N1.out 1
        have gf1 := blk_frozen N1.out 1
        have g2 := blk_cells' N1.out 2
        have gf2 := blk_frozen N1.out 2
        have g3 := blk_cells' N1.out 3
        have gf3 := blk_frozen N1.out 3
        simp only [List.getElem?_toArray, List.getElem?_cons_zero, List.getElem?_cons_succ] at g0 g1 g2 g3
        go_wp2_with fail
        refine bodyPost_ret (v := vval V.nil) (by simp [results, Tryd.results25, go_sem, g0, g1, g2, g3, gf0, gf1, gf2, gf3, vval, V.k, V.n, V.s, V.nil, str]) rfl ⟨by rw [HZ.out], below_set4 hB (by omega) _ _ _ _⟩
      · go_enter Tryd.func25, Tryd.ntmps25
        go_wp2_with fail
        have hBa : Below (w).heap.size (w) ((w).alloc (.cells #[.int .i64 4, .int .i64 o] 51)) := (Below.refl _ _).alloc (Nat.le_refl _) _
        have N0 := World.alloc_heap_new (w) (.cells #[.int .i64 4, .int .i64 o] 51)
        replace N0 := Lib.hid N0
        replace hB := hB.trans (hBa.mono hB.size)
        clear hBa
        have hBa : Below ((w).alloc (.cells #[.int .i64 4, .int .i64 o] 51)).heap.size ((w).alloc (.cells #[.int .i64 4, .int .i64 o] 51)) (((w).alloc (.cells #[.int .i64 4, .int .i64 o] 51)).alloc (.cells #[.int .i64 0, .int .i64 0, .string ⟨#[]⟩, .slice none 0 0] 31)) := (Below.refl _ _).alloc (Nat.le_refl _) _
        have N1 := World.alloc_heap_new ((w).alloc (.cells #[.int .i64 4, .int .i64 o] 51)) (.cells #[.int .i64 0, .int .i64 0, .string ⟨#[]⟩, .slice none 0 0] 31)
        rw [World.size_alloc] at N1
        replace N1 := Lib.hid N1
        replace hB := hB.trans (hBa.mono hB.size)
        replace N0 := Lib.hid ((hBa.block _ (heap_lt N0.out)).trans N0.out)
        clear hBa
        obtain ⟨U1, hV⟩ : ∃ V, ((w).alloc (.cells #[.int .i64 4, .int .i64 o] 51)).alloc (.cells #[.int .i64 0, .int .i64 0, .string ⟨#[]⟩, .slice none 0 0] 31) = V := ⟨_, rfl⟩
        obtain ⟨B, hV2⟩ : ∃ B, w.heap.size = B := ⟨_, rfl⟩
        rw [hV] at N0 N1 hB ⊢
        rw [hV2] at N0 N1 ⊢
        have le_B := Nat.le_of_eq hV2
        clear hV hV2
        refine (HR.out U1).mono ?_
        rintro e U2 ⟨rfl, hbU2⟩
        replace hB := hB.trans (hbU2.mono hB.size)
        replace N0 := Lib.hid ((hbU2.block _ (heap_lt N0.out)).trans N0.out)
        replace N1 := Lib.hid ((hbU2.block _ (heap_lt N1.out)).trans N1.out)
        clear hbU2
        rw [HRT.out]
        have d0 := blk_cells' N0.out 0
        have d1 := blk_cells' N0.out 1
        simp only [List.getElem?_toArray, List.getElem?_cons_zero, List.getElem?_cons_succ] at d0 d1
        have g0 := blk_cells' N1.out 0
        have gf0 := blk_frozen N1.out 0
        have g1 := blk_cells' N1.out 1
        have gf1 := blk_frozen N1.out 1
        have g2 := blk_cells' N1.out 2
        have gf2 := blk_frozen N1.out 2
        have g3 := blk_cells' N1.out 3
        have gf3 := blk_frozen N1.out 3
        simp only [List.getElem?_toArray, List.getElem?_cons_zero, List.getElem?_cons_succ] at g0 g1 g2 g3
        go_wp2_with fail
        refine bodyPost_ret (v := vval V.nil) (by simp [results, Tryd.results25, go_sem, g0, g1, g2, g3, gf0, gf1, gf2, gf3, vval, V.k, V.n, V.s, V.nil, str]) rfl ⟨by rw [HZ.out], below_set4 hB (by omega) _ _ _ _⟩
    · have b3 : (k == 3) = false := by rw [beq_eq_false_iff_ne]; omega
      have b4 : (k == 4) = false := by rw [beq_eq_false_iff_ne]; omega
      have HZ : Hid (zeroV ⟨k, o⟩ = .mk k 0 [] []) := by show _ = _; simp [zeroV, hrt, b3, b4]
      have HRT := Lib.hid hrt
      clear hrt
      go_enter Tryd.func25, Tryd.ntmps25
      go_wp2_with fail
      have hBa : Below (w).heap.size (w) ((w).alloc (.cells #[.int .i64 k, .int .i64 o] 51)) := (Below.refl _ _).alloc (Nat.le_refl _) _
      have N0 := World.alloc_heap_new (w) (.cells #[.int .i64 k, .int .i64 o] 51)
      replace N0 := Lib.hid N0
      replace hB := hB.trans (hBa.mono hB.size)
      clear hBa
      have hBa : Below ((w).alloc (.cells #[.int .i64 k, .int .i64 o] 51)).heap.size ((w).alloc (.cells #[.int .i64 k, .int .i64 o] 51)) (((w).alloc (.cells #[.int .i64 k, .int .i64 o] 51)).alloc (.cells #[.int .i64 0, .int .i64 0, .string ⟨#[]⟩, .slice none 0 0] 31)) := (Below.refl _ _).alloc (Nat.le_refl _) _
      have N1 := World.alloc_heap_new ((w).alloc (.cells #[.int .i64 k, .int .i64 o] 51)) (.cells #[.int .i64 0, .int .i64 0, .string ⟨#[]⟩, .slice none 0 0] 31)
      rw [World.size_alloc] at N1
      replace N1 := Lib.hid N1
      replace hB := hB.trans (hBa.mono hB.size)
      replace N0 := Lib.hid ((hBa.block _ (heap_lt N0.out)).trans N0.out)
      clear hBa
      obtain ⟨U1, hV⟩ : ∃ V, ((w).alloc (.cells #[.int .i64 k, .int .i64 o] 51)).alloc (.cells #[.int .i64 0, .int .i64 0, .string ⟨#[]⟩, .slice none 0 0] 31) = V := ⟨_, rfl⟩
      obtain ⟨B, hV2⟩ : ∃ B, w.heap.size = B := ⟨_, rfl⟩
      rw [hV] at N0 N1 hB ⊢
      rw [hV2] at N0 N1 ⊢
      have le_B := Nat.le_of_eq hV2
      clear hV hV2
      refine (HR.out U1).mono ?_
      rintro e U2 ⟨rfl, hbU2⟩
      replace hB := hB.trans (hbU2.mono hB.size)
      replace N0 := Lib.hid ((hbU2.block _ (heap_lt N0.out)).trans N0.out)
      replace N1 := Lib.hid ((hbU2.block _ (heap_lt N1.out)).trans N1.out)
      clear hbU2
      rw [HRT.out]
      have d0 := blk_cells' N0.out 0
      have d1 := blk_cells' N0.out 1
      simp only [List.getElem?_toArray, List.getElem?_cons_zero, List.getElem?_cons_succ] at d0 d1
      have g0 := blk_cells' N1.out 0
      have gf0 := blk_frozen N1.out 0
      have g1 := blk_cells' N1.out 1
      have gf1 := blk_frozen N1.out 1
      have g2 := blk_cells' N1.out 2
      have gf2 := blk_frozen N1.out 2
      have g3 := blk_cells' N1.out 3
      have gf3 := blk_frozen N1.out 3
      simp only [List.getElem?_toArray, List.getElem?_cons_zero, List.getElem?_cons_succ] at g0 g1 g2 g3
      go_wp2_with fail
      refine bodyPost_ret (v := vval (.mk k 0 [] [])) (by simp [results, Tryd.results25, go_sem, g0, g1, g2, g3, gf0, gf1, gf2, gf3, vval, V.k, V.n, V.s, V.nil, str]) rfl ⟨by rw [HZ.out], below_set4 hB (by omega) _ _ _ _⟩
end Go.Proofs.YtdlolkogifigpaaDoor
