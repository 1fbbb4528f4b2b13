/- Layer 4: class.Decode's reader. -/
import Derived.Deep.RegionWith
import Derived.Test.YtdlolkogifigpaaDoorClass5
namespace Go.Proofs.YtdlolkogifigpaaDoor
open Go Go.RowKit Go.Mor
set_option maxHeartbeats 1000000

/-- The reader's memory. -/
def RdAt (w : World) (B : Nat) (s : List UInt8) (at_ : Int) (bad : Bool) : Prop := w.heap[B]? = some (.cells #[.string (str s), .int .i64 at_, .bool bad] 89 (0, 0))
def rnum (s : List UInt8) (a : Int) (bad : Bool) : Int × Int × Bool :=
  match bad, readNum s a with
  | false, some (n, b) => (n, b, false)
  | _, _ => (0, a, true)
def rtext (s : List UInt8) (a : Int) (bad : Bool) : List UInt8 × Int × Bool :=
  match bad, readText s a with
  | false, some (n, b) => (n, b, false)
  | _, _ => ([], a, true)

theorem rd_stay {w : World} {B : Nat} {s : List UInt8} {a : Int} {bad : Bool} (h : RdAt w B s a bad) : ∀ (w1 : World), Below w.heap.size w.drew w1 → w1.heap[B]? = some (.cells #[.string (str s), .int .i64 a, .bool bad] 89 (0, 0)) := fun _ hb1 => (hb1.block B (heap_lt h)).trans h
theorem grown_set {w w1 : World} (hb : Below w.drew.heap.size w.drew w1) (B i : Nat) (v : Value) : w.grownBy (w1.setCell ⟨B, i, none⟩ v) (some B) := by
  refine ⟨hb.os, hb.tape, hb.output, by have := hb.size; simpa [World.setCell] using this, fun k hk hn => ?_⟩
  rw [heap_setCell_other _ _ _ _ (by simpa using hn)]
  exact hb.block k hk

set_option maxRecDepth 10000 in
theorem rnum_any (B : Nat) (s : List UInt8) (a : Int) (bad : Bool) (a0 a1 : Addr) (w : World) (hs : s.length < 1125899906842624) (ha0 : -9223372036854775808 ≤ a) (ha1 : a ≤ 9223372036854775807) (hG : Glob w a0 a1) (hR : RdAt w B s a bad) :
    Calls Tryd.prog 48 #[.pointer (some ⟨B, 0, none⟩)] w fun e w' => e = .returned (.int .i64 (rnum s a bad).1) ∧ w.grownBy w' (some B) ∧ RdAt w' B s (rnum s a bad).2.1 (rnum s a bad).2.2 := by
  have HN := Lib.hid (ReadNum_any s a a0 a1 w.drew hs ha0 ha1 (hG.ext (Below.refl _ _).drew))
  have HR := Lib.hid hR
  unfold RdAt at hR
  have h0 := blk_cells' hR 0
  have h1 := blk_cells' hR 1
  have h2 := blk_cells' hR 2
  simp at h0 h1 h2
  clear hR
  have STAY := Lib.hid (rd_stay HR.out)
  cases hrn : readNum s a with
  | none =>
    have H1 := Lib.hid hrn
    rw [hrn] at HN
    clear hrn
    simp only [numRes] at HN
    go_enter Tryd.func48, Tryd.ntmps48
    go_wp2_with fail
    go_region_with (go_at_call 35; refine HN.out.mono ?_; rintro e w1 ⟨rfl, hb1⟩)
    all_goals
      have hq := STAY.out _ hb1
      have h0' := blk_cells' hq 0
      have h1' := blk_cells' hq 1
      have h2' := blk_cells' hq 2
      have f1' := blk_frozen hq 1
      have f2' := blk_frozen hq 2
      simp at h0' h1' h2'
      have HQ := Lib.hid hq
      clear hq h0 h1 h2
    all_goals cases bad
    all_goals go_wp2_with fail
    all_goals go_ret
    all_goals exact ⟨by simp only [rnum, H1.out] <;> rfl, grown_set hb1 _ _ _, by simp only [rnum, H1.out]; exact heap_setCell_same _ _ _ _ _ _ HQ.out⟩
  | some r =>
    obtain ⟨n, b⟩ := r
    have H1 := Lib.hid hrn
    rw [hrn] at HN
    clear hrn
    simp only [numRes] at HN
    go_enter Tryd.func48, Tryd.ntmps48
    go_wp2_with fail
    go_region_with (go_at_call 35; refine HN.out.mono ?_; rintro e w1 ⟨rfl, hb1⟩)
    all_goals
      have hq := STAY.out _ hb1
      have h0' := blk_cells' hq 0
      have h1' := blk_cells' hq 1
      have h2' := blk_cells' hq 2
      have f1' := blk_frozen hq 1
      have f2' := blk_frozen hq 2
      simp at h0' h1' h2'
      have HQ := Lib.hid hq
      clear hq h0 h1 h2
    all_goals cases bad
    all_goals go_wp2_with fail
    all_goals go_ret
    all_goals exact ⟨by simp only [rnum, H1.out] <;> rfl, grown_set hb1 _ _ _, by simp only [rnum, H1.out]; exact heap_setCell_same _ _ _ _ _ _ HQ.out⟩

set_option maxRecDepth 10000 in
theorem rtext_any (B : Nat) (s : List UInt8) (a : Int) (bad : Bool) (a0 a1 : Addr) (w : World) (hs : s.length < 1125899906842624) (ha0 : -9223372036854775808 ≤ a) (ha1 : a ≤ 9223372036854775807) (hG : Glob w a0 a1) (hR : RdAt w B s a bad) :
    Calls Tryd.prog 47 #[.pointer (some ⟨B, 0, none⟩)] w fun e w' => e = .returned (.string (str (rtext s a bad).1)) ∧ w.grownBy w' (some B) ∧ RdAt w' B s (rtext s a bad).2.1 (rtext s a bad).2.2 := by
  have HN := Lib.hid (ReadText_any s a a0 a1 w.drew hs ha0 ha1 (hG.ext (Below.refl _ _).drew))
  have HR := Lib.hid hR
  unfold RdAt at hR
  have h0 := blk_cells' hR 0
  have h1 := blk_cells' hR 1
  have h2 := blk_cells' hR 2
  simp at h0 h1 h2
  clear hR
  have STAY := Lib.hid (rd_stay HR.out)
  cases hrn : readText s a with
  | none =>
    have H1 := Lib.hid hrn
    rw [hrn] at HN
    clear hrn
    simp only [readRes] at HN
    go_enter Tryd.func47, Tryd.ntmps47
    go_wp2_with fail
    go_region_with (go_at_call 78; refine HN.out.mono ?_; rintro e w1 ⟨rfl, hb1⟩)
    all_goals
      have hq := STAY.out _ hb1
      have h0' := blk_cells' hq 0
      have h1' := blk_cells' hq 1
      have h2' := blk_cells' hq 2
      have f1' := blk_frozen hq 1
      have f2' := blk_frozen hq 2
      simp at h0' h1' h2'
      have HQ := Lib.hid hq
      clear hq h0 h1 h2
    all_goals cases bad
    all_goals go_wp2_with fail
    all_goals go_ret
    all_goals exact ⟨by simp only [rtext, H1.out] <;> rfl, grown_set hb1 _ _ _, by simp only [rtext, H1.out]; exact heap_setCell_same _ _ _ _ _ _ HQ.out⟩
  | some r =>
    obtain ⟨n, b⟩ := r
    have H1 := Lib.hid hrn
    rw [hrn] at HN
    clear hrn
    simp only [readRes] at HN
    go_enter Tryd.func47, Tryd.ntmps47
    go_wp2_with fail
    go_region_with (go_at_call 78; refine HN.out.mono ?_; rintro e w1 ⟨rfl, hb1⟩)
    all_goals
      have hq := STAY.out _ hb1
      have h0' := blk_cells' hq 0
      have h1' := blk_cells' hq 1
      have h2' := blk_cells' hq 2
      have f1' := blk_frozen hq 1
      have f2' := blk_frozen hq 2
      simp at h0' h1' h2'
      have HQ := Lib.hid hq
      clear hq h0 h1 h2
    all_goals cases bad
    all_goals go_wp2_with fail
    all_goals go_ret
    all_goals exact ⟨by simp only [rtext, H1.out] <;> rfl, grown_set hb1 _ _ _, by simp only [rtext, H1.out]; exact heap_setCell_same _ _ _ _ _ _ HQ.out⟩

end Go.Proofs.YtdlolkogifigpaaDoor
