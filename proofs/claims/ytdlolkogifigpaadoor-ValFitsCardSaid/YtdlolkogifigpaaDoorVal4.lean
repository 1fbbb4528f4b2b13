/- Layer 3: val.Right, val.Fits, val.Zero. -/
import Derived.Test.YtdlolkogifigpaaDoorVal3
set_option linter.unusedSimpArgs false
set_option linter.unusedVariables false
namespace Go.Proofs.YtdlolkogifigpaaDoor
open Go Go.RowKit Go.Mor
set_option maxHeartbeats 1000000

theorem blk_cells' {w : World} {b t : Nat} {cs : Array Value} (h : w.heap[b]? = some (.cells cs t (0, 0))) (i : Nat) : w.cell? ⟨b, i, none⟩ = cs[i]? := by simp [World.cell?, h]
/-- A value's texts are no longer than texts can be. -/
def TextsOk (x : V) : Prop := x.s.length ≤ 9223372036854775807

set_option maxRecDepth 10000 in
theorem right1_any (x : V) (p : Option Addr) (cap : Nat) (a0 a1 : Addr) (w : World) (hs : TextsOk x) (hG : Glob w a0 a1) (hk : ¬ x.k = 5) :
    Calls Tryd.prog 57 #[.agg #[.int .i64 x.k, .int .i64 x.n, .string (str x.s), .slice p x.l.length cap]] w fun e w' => e = .returned (.bool (right1 x)) ∧ Below w.heap.size w w' := by
  have hB1 : Below w.heap.size w (w.alloc (.cells #[.int .i64 x.k, .int .i64 x.n, .string (str x.s), .slice p x.l.length cap] 31)) := (Below.refl _ _).alloc (Nat.le_refl _) _
  have HT := Lib.hid (rightText_any x.s a0 a1 _ hs (hG.ext hB1))
  have HB := Lib.hid (fun W => bare_any x p cap W)
  have HI := Lib.hid (fun W => rightID_any x.n W)
  clear hG
  have k5 : (x.k == 5) = false := by simpa using hk
  by_cases h0 : x.k = 0
  · have k0 : (x.k == 0) = true := by simpa using h0
    have H0 := Lib.hid h0
    clear h0 hk
    go_enter Tryd.func57, Tryd.ntmps57
    go_wp2_with fail
    refine (HB.out _).mono ?_
    rintro e w1 ⟨rfl, hb1⟩
    obtain ⟨hc, hf⟩ := bcell hb1
    have hB2 := hB1.trans (hb1.mono (by simp))
    cases hbr : bare x
    all_goals
      have HBR := Lib.hid hbr
      clear hbr
      go_wp2_with fail
      go_ret
      exact ⟨bret (by simp [right1, H0.out, HBR.out]), hB2⟩
  · have k0 : (x.k == 0) = false := by simpa using h0
    by_cases h1 : x.k = 1
    · have k1 : (x.k == 1) = true := by simpa using h1
      have H1 := Lib.hid h1
      clear h0 h1 hk
      go_enter Tryd.func57, Tryd.ntmps57
      go_wp2_with fail
      refine (HB.out _).mono ?_
      rintro e w1 ⟨rfl, hb1⟩
      obtain ⟨hc, hf⟩ := bcell hb1
      have hB2 := hB1.trans (hb1.mono (by simp))
      cases hbr : bare x
      all_goals
        have HBR := Lib.hid hbr
        clear hbr
        go_wp2_with fail
        all_goals go_ret
        all_goals exact ⟨bret (by simp [right1, H1.out, HBR.out]; try omega), hB2⟩
    · have k1 : (x.k == 1) = false := by simpa using h1
      by_cases h2 : x.k = 2
      · have k2 : (x.k == 2) = true := by simpa using h2
        have H2 := Lib.hid h2
        clear h0 h1 h2 hk
        by_cases hn : x.n = 0
        · have n0 : (x.n == 0) = true := by simpa using hn
          have HN := Lib.hid hn
          clear hn
          by_cases hl : x.l.length = 0
          · have l0 : ((x.l.length : Int) == 0) = true := by simpa using hl
            have HL := Lib.hid hl
            clear hl
            go_enter Tryd.func57, Tryd.ntmps57
            go_wp2_with fail
            refine HT.out.mono ?_
            rintro e w1 ⟨rfl, hb1⟩
            go_wp2_with fail
            go_ret
            exact ⟨bret (by simp [right1, H2.out, HN.out, List.eq_nil_of_length_eq_zero HL.out]), hB1.trans (hb1.mono (by simp))⟩
          · have l0 : ((x.l.length : Int) == 0) = false := by simp; intro h; exact hl (by simp [h])
            have HL := Lib.hid hl
            clear hl
            go_enter Tryd.func57, Tryd.ntmps57
            go_wp2_with fail
            go_ret
            exact ⟨bret (by have := HL.out; simp [right1, H2.out, HN.out]; intro h; simp [h] at this), hB1⟩
        · have n0 : (x.n == 0) = false := by simpa using hn
          have HN := Lib.hid hn
          clear hn
          go_enter Tryd.func57, Tryd.ntmps57
          go_wp2_with fail
          go_ret
          exact ⟨bret (by have := HN.out; simp [right1, H2.out, this]), hB1⟩
      · have k2 : (x.k == 2) = false := by simpa using h2
        by_cases h34 : x.k = 3 ∨ x.k = 4
        · have H34 := Lib.hid h34
          have HN : Hid (¬ x.k = 0 ∧ ¬ x.k = 1 ∧ ¬ x.k = 2) := ⟨h0, h1, h2⟩
          clear h0 h1 h2 hk
          by_cases h3 : x.k = 3
          · have k3 : (x.k == 3) = true := by simpa using h3
            clear h3 h34
            go_enter Tryd.func57, Tryd.ntmps57
            go_wp2_with fail
            refine (HB.out _).mono ?_
            rintro e w1 ⟨rfl, hb1⟩
            obtain ⟨hc, hf⟩ := bcell hb1
            have hB2 := hB1.trans (hb1.mono (by simp))
            cases hbr : bare x
            · have HBR := Lib.hid hbr
              clear hbr
              go_wp2_with fail
              go_ret
              exact ⟨bret (by simp [right1, HN.out.1, HN.out.2.1, HN.out.2.2, H34.out, HBR.out]), hB2⟩
            · have HBR := Lib.hid hbr
              clear hbr
              go_wp2_with fail
              refine (HI.out _).mono ?_
              rintro e w2 ⟨rfl, rfl⟩
              go_wp2_with fail
              go_ret
              exact ⟨bret (by simp [right1, HN.out.1, HN.out.2.1, HN.out.2.2, H34.out, HBR.out]), hB2⟩
          · have k3 : (x.k == 3) = false := by simpa using h3
            have k4 : (x.k == 4) = true := by simp; rcases h34 with h | h; exact absurd h h3; exact h
            clear h3 h34
            go_enter Tryd.func57, Tryd.ntmps57
            go_wp2_with fail
            refine (HB.out _).mono ?_
            rintro e w1 ⟨rfl, hb1⟩
            obtain ⟨hc, hf⟩ := bcell hb1
            have hB2 := hB1.trans (hb1.mono (by simp))
            cases hbr : bare x
            · have HBR := Lib.hid hbr
              clear hbr
              go_wp2_with fail
              go_ret
              exact ⟨bret (by simp [right1, HN.out.1, HN.out.2.1, HN.out.2.2, H34.out, HBR.out]), hB2⟩
            · have HBR := Lib.hid hbr
              clear hbr
              go_wp2_with fail
              refine (HI.out _).mono ?_
              rintro e w2 ⟨rfl, rfl⟩
              go_wp2_with fail
              go_ret
              exact ⟨bret (by simp [right1, HN.out.1, HN.out.2.1, HN.out.2.2, H34.out, HBR.out]), hB2⟩
        · have k3 : (x.k == 3) = false := by simp; omega
          have k4 : (x.k == 4) = false := by simp; omega
          have HN : Hid (¬ x.k = 0 ∧ ¬ x.k = 1 ∧ ¬ x.k = 2 ∧ ¬ (x.k = 3 ∨ x.k = 4)) := ⟨h0, h1, h2, h34⟩
          clear h0 h1 h2 h34 hk
          go_enter Tryd.func57, Tryd.ntmps57
          go_wp2_with fail
          go_ret
          exact ⟨bret (by have h := HN.out; simp [right1, h.1, h.2.1, h.2.2.1, h.2.2.2]), hB1⟩

theorem noItem_any (x : V) (p : Option Addr) (cap : Nat) (a0 a1 : Addr) (w : World) (hs : TextsOk x) (hG : Glob w a0 a1) :
    Calls Tryd.prog 86 #[.agg #[.int .i64 x.k, .int .i64 x.n, .string (str x.s), .slice p x.l.length cap]] w fun e w' => e = .returned (.bool (noItem x)) ∧ Below w.heap.size w w' := by
  have hB1 : Below w.heap.size w (w.alloc (.cells #[.int .i64 x.k, .int .i64 x.n, .string (str x.s), .slice p x.l.length cap] 31)) := (Below.refl _ _).alloc (Nat.le_refl _) _
  by_cases hk : x.k = 5
  · have k5 : (x.k == 5) = true := by simpa using hk
    have H5 := Lib.hid hk
    clear hk hG
    go_enter Tryd.func86, Tryd.ntmps86
    go_wp2_with fail
    go_ret
    exact ⟨bret (by simp [noItem, H5.out]), hB1⟩
  · have k5 : (x.k == 5) = false := by simpa using hk
    have HR := Lib.hid (right1_any x p cap a0 a1 _ hs (hG.ext hB1) hk)
    clear hk hG
    go_enter Tryd.func86, Tryd.ntmps86
    go_wp2_with fail
    refine HR.out.mono ?_
    rintro e w1 ⟨rfl, hb1⟩
    go_wp2_with fail
    go_ret
    exact ⟨bret (by simp [noItem, k5]), hB1.trans (hb1.mono (by simp))⟩

theorem en_noItem : Enters Tryd.prog 86 := enters_mk Tryd.func86 (by kernel_rfl) rfl

set_option maxRecDepth 10000 in
theorem Right_any (x : V) (c : Value) (a0 a1 : Addr) (w : World) (hs : TextsOk x) (hsl : ∀ y ∈ x.l, TextsOk y) (hL : IsL (fun _ => True) w x.l c) (hG : Glob w a0 a1) :
    Calls Tryd.prog 57 #[.agg #[.int .i64 x.k, .int .i64 x.n, .string (str x.s), c]] w fun e w' => e = .returned (.bool (rightV x)) ∧ Below w.heap.size w w' := by
  obtain ⟨p, cap, rfl, hcap, hmax⟩ := hL.form
  by_cases hk : x.k = 5
  · have k5 : (x.k == 5) = true := by simpa using hk
    have k0 : (x.k == 0) = false := by simp; omega
    have k1 : (x.k == 1) = false := by simp; omega
    have k2 : (x.k == 2) = false := by simp; omega
    have k3 : (x.k == 3) = false := by simp; omega
    have k4 : (x.k == 4) = false := by simp; omega
    have H5 := Lib.hid hk
    clear hk
    have hB1 : Below w.heap.size w (w.alloc (.cells #[.int .i64 x.k, .int .i64 x.n, .string (str x.s), .slice p x.l.length cap] 31)) := (Below.refl _ _).alloc (Nat.le_refl _) _
    have HC := Lib.hid (containsV_any x.l (.slice p x.l.length cap) 86 #[] noItem _ (hL.ext hB1) (by
      intro y c' w1 hy hy1 hb
      obtain ⟨p', cap', rfl, _, _⟩ := hy1.form
      have := noItem_any y p' cap' a0 a1 w1 (hsl y hy) (hG.ext (hB1.trans (hb.mono (by simp))))
      simpa using this) en_noItem)
    clear hL hG hsl hs
    by_cases hn : x.n = 0
    · have n0 : (x.n == 0) = true := by simpa using hn
      have HN := Lib.hid hn
      clear hn
      obtain ⟨xk, xn, xs, xl⟩ := x
      simp only [V.k, V.n, V.s, V.l] at *
      cases xs with
      | nil =>
        by_cases hl12 : xl.length ≤ 12
        · go_enter Tryd.func57, Tryd.ntmps57
          go_wp2_with fail
          refine HC.out.mono ?_
          rintro e w1 ⟨rfl, hb1⟩
          go_wp2_with fail
          go_ret
          exact ⟨bret (by simp [rightV, V.k, V.n, V.s, V.l, H5.out, HN.out, hl12]), hB1.trans (hb1.mono (by simp))⟩
        · go_enter Tryd.func57, Tryd.ntmps57
          go_wp2_with fail
          go_ret
          exact ⟨bret (by simp [rightV, V.k, V.n, V.s, V.l, H5.out, HN.out, hl12]), hB1⟩
      | cons y ys =>
        go_enter Tryd.func57, Tryd.ntmps57
        go_wp2_with fail
        go_ret
        exact ⟨bret (by simp [rightV, V.k, V.n, V.s, V.l, H5.out, HN.out]), hB1⟩
    · have n0 : (x.n == 0) = false := by simpa using hn
      have HN := Lib.hid hn
      clear hn
      go_enter Tryd.func57, Tryd.ntmps57
      go_wp2_with fail
      go_ret
      exact ⟨bret (by have := HN.out; simp [rightV, H5.out, this]), hB1⟩
  · have := right1_any x p cap a0 a1 w hs hG hk
    simpa [rightV, hk] using this

set_option maxRecDepth 10000 in
theorem fits1_any (x : V) (c : Value) (t : Ty) (B : Nat) (w : World) (hc : w.cell? ⟨B, 1, none⟩ = some (.int .i64 t.o)) :
    Calls Tryd.prog 70 #[.agg #[.int .i64 x.k, .int .i64 x.n, .string (str x.s), c], .pointer (some ⟨B, 0, none⟩)] w fun e w' => e = .returned (.bool (!ofKind x t.o)) ∧ Below w.heap.size w w' := by
  have hB1 : Below w.heap.size w (w.alloc (.cells #[.int .i64 x.k, .int .i64 x.n, .string (str x.s), c] 31)) := (Below.refl _ _).alloc (Nat.le_refl _) _
  have hlt := cell_lt hc
  dsimp only at hlt
  go_enter Tryd.func70, Tryd.ntmps70
  go_wp2_with fail
  refine (ofKind_any x c t.o _).mono ?_
  rintro e w1 ⟨rfl, hb1⟩
  go_wp2_with fail
  go_ret
  exact ⟨rfl, hB1.trans (hb1.mono (by simp))⟩

theorem en_fits1 : Enters Tryd.prog 70 := enters_mk Tryd.func70 (by kernel_rfl) rfl
theorem blk2 {w : World} {b t : Nat} {x0 x1 : Value} (h : w.heap[b]? = some (.cells #[x0, x1] t (0, 0))) : w.cell? ⟨b, 0, none⟩ = some x0 ∧ w.cell? ⟨b, 1, none⟩ = some x1 := ⟨blk_cells' h 0, blk_cells' h 1⟩
theorem blk4 {w : World} {b t : Nat} {x0 x1 x2 x3 : Value} (h : w.heap[b]? = some (.cells #[x0, x1, x2, x3] t (0, 0))) :
    w.cell? ⟨b, 0, none⟩ = some x0 ∧ w.cell? ⟨b, 1, none⟩ = some x1 ∧ w.cell? ⟨b, 2, none⟩ = some x2 ∧ w.cell? ⟨b, 3, none⟩ = some x3 := ⟨blk_cells' h 0, blk_cells' h 1, blk_cells' h 2, blk_cells' h 3⟩

set_option maxRecDepth 10000 in
theorem Fits_any (x : V) (c : Value) (t : Ty) (a0 a1 : Addr) (w : World) (hs : TextsOk x) (hsl : ∀ y ∈ x.l, TextsOk y) (hL : IsL (fun _ => True) w x.l c) (hG : Glob w a0 a1) :
    Calls Tryd.prog 38 #[.agg #[.int .i64 x.k, .int .i64 x.n, .string (str x.s), c], .agg #[.int .i64 t.k, .int .i64 t.o]] w fun e w' => e = .returned (.bool (fitsV x t)) ∧ Below w.heap.size w w' := by
  obtain ⟨p, cap, rfl, hcap, hmax⟩ := hL.form
  have hB2 : Below w.heap.size w ((w.alloc (.cells #[.int .i64 x.k, .int .i64 x.n, .string (str x.s), .slice p x.l.length cap] 31)).alloc (.cells #[.int .i64 t.k, .int .i64 t.o] 51)) := ((Below.refl _ _).alloc (Nat.le_refl _) _).alloc (by simp) _
  have q0 : ((w.alloc (.cells #[.int .i64 x.k, .int .i64 x.n, .string (str x.s), .slice p x.l.length cap] 31)).alloc (.cells #[.int .i64 t.k, .int .i64 t.o] 51)).heap[w.heap.size]? = some (.cells #[.int .i64 x.k, .int .i64 x.n, .string (str x.s), .slice p x.l.length cap] 31 (0, 0)) :=
    (Below.heap_alloc _ _ _ (by simp)).trans (World.alloc_heap_new w _)
  have q1 : ((w.alloc (.cells #[.int .i64 x.k, .int .i64 x.n, .string (str x.s), .slice p x.l.length cap] 31)).alloc (.cells #[.int .i64 t.k, .int .i64 t.o] 51)).heap[w.heap.size + 1]? = some (.cells #[.int .i64 t.k, .int .i64 t.o] 51 (0, 0)) := by
    have := World.alloc_heap_new (w.alloc (.cells #[.int .i64 x.k, .int .i64 x.n, .string (str x.s), .slice p x.l.length cap] 31)) (.cells #[.int .i64 t.k, .int .i64 t.o] 51)
    rwa [World.size_alloc] at this
  have hz : ((w.alloc (.cells #[.int .i64 x.k, .int .i64 x.n, .string (str x.s), .slice p x.l.length cap] 31)).alloc (.cells #[.int .i64 t.k, .int .i64 t.o] 51)).heap.size = w.heap.size + 2 := by simp
  go_enter Tryd.func38, Tryd.ntmps38
  go_wp2_with fail
  obtain ⟨W2, hW2⟩ : ∃ W2, ((w.alloc (.cells #[.int .i64 x.k, .int .i64 x.n, .string (str x.s), .slice p x.l.length cap] 31)).alloc (.cells #[.int .i64 t.k, .int .i64 t.o] 51)) = W2 := ⟨_, rfl⟩
  rw [hW2] at hB2 q0 q1 hz ⊢
  clear hW2
  have Q0 := Lib.hid q0
  have Q1 := Lib.hid q1
  have HZ := Lib.hid hz
  have HL := Lib.hid hL
  have HG := Lib.hid hG
  clear q0 q1 hz hL hG
  refine (Right_any x _ a0 a1 W2 hs hsl (HL.out.ext hB2) (HG.out.ext hB2)).mono ?_
  rintro e w1 ⟨rfl, hb1⟩
  have hB3 := hB2.trans (hb1.mono hB2.size)
  cases hr : rightV x
  · have HR := Lib.hid hr
    clear hr
    go_wp2_with fail
    go_ret
    exact ⟨bret (by simp [fitsV, HR.out]), hB3⟩
  · have HR := Lib.hid hr
    clear hr
    have q0 := (hb1.block w.heap.size (by have := HZ.out; omega)).trans Q0.out
    have q1 := (hb1.block (w.heap.size + 1) (by have := HZ.out; omega)).trans Q1.out
    obtain ⟨d0, d1, d2, d3⟩ := blk4 q0
    obtain ⟨f0, f1⟩ := blk2 q1
    have R0 := Lib.hid q0
    have R1 := Lib.hid q1
    clear q0 q1
    go_wp2_with fail
    refine (rightType_any t _).mono ?_
    rintro e w2 ⟨rfl, hb2⟩
    have hB4 := hB3.trans (hb2.mono hB3.size)
    cases ht : rightType t
    · have HT := Lib.hid ht
      clear ht
      go_wp2_with fail
      go_ret
      exact ⟨bret (by simp [fitsV, HT.out]), hB4⟩
    · have HT := Lib.hid ht
      clear ht d0 d1 d2 d3 f0 f1
      have q0 := (hb2.block w.heap.size (heap_lt R0.out)).trans R0.out
      have q1 := (hb2.block (w.heap.size + 1) (heap_lt R1.out)).trans R1.out
      obtain ⟨d0, d1, d2, d3⟩ := blk4 q0
      obtain ⟨f0, f1⟩ := blk2 q1
      have S0 := Lib.hid q0
      have S1 := Lib.hid q1
      clear q0 q1
      go_wp2_with fail
      refine (ofKind_any x _ t.k _).mono ?_
      rintro e w3 ⟨rfl, hb3⟩
      have hB5 := hB4.trans (hb3.mono hB4.size)
      cases ho : ofKind x t.k
      · have HO := Lib.hid ho
        clear ho
        go_wp2_with fail
        go_ret
        exact ⟨bret (by simp [fitsV, HO.out]), hB5⟩
      · have HO := Lib.hid ho
        clear ho d0 d1 d2 d3 f0 f1
        have q0 := (hb3.block w.heap.size (heap_lt S0.out)).trans S0.out
        have q1 := (hb3.block (w.heap.size + 1) (heap_lt S1.out)).trans S1.out
        obtain ⟨d0, d1, d2, d3⟩ := blk4 q0
        have T1 := Lib.hid q1
        clear q0 q1
        have HC := Lib.hid (containsV_any x.l (.slice p x.l.length cap) 70 #[.pointer (some ⟨w.heap.size + 1, 0, none⟩)] (fun y => !ofKind y t.o) w3 (HL.out.ext hB5) (by
          intro y c' w4 hy hy1 hb
          have := fits1_any y c' t (w.heap.size + 1) w4 (by
            have := (hb.block (w.heap.size + 1) (heap_lt T1.out)).trans T1.out
            exact (blk2 this).2)
          simpa using this) en_fits1)
        go_wp2_with fail
        refine HC.out.mono ?_
        rintro e w4 ⟨rfl, hb4⟩
        go_wp2_with fail
        go_ret
        exact ⟨bret (by simp [fitsV, HR.out, HT.out, HO.out]), hB5.trans (hb4.mono hB5.size)⟩
end Go.Proofs.YtdlolkogifigpaaDoor
