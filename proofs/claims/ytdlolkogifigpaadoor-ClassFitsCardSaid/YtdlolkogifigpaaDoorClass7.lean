/- Layer 4: class.field, class.Decode. -/
import Derived.Test.YtdlolkogifigpaaDoorClass6
namespace Go.Proofs.YtdlolkogifigpaaDoor
open Go Go.RowKit Go.Mor
set_option maxHeartbeats 1000000

theorem rnum_bound {s : List UInt8} {a : Int} {bad : Bool} (hs : s.length < 1125899906842624) (ha0 : -9223372036854775808 ≤ a) (ha1 : a ≤ 9223372036854775807) :
    -9223372036854775808 ≤ (rnum s a bad).2.1 ∧ (rnum s a bad).2.1 ≤ 9223372036854775807 ∧ -9223372036854775808 ≤ (rnum s a bad).1 ∧ (rnum s a bad).1 ≤ 9223372036854775807 := by
  unfold rnum
  split
  · rename_i n b h
    have := readNum_bound h
    dsimp only; omega
  · dsimp only; omega
theorem rtext_bound {s : List UInt8} {a : Int} {bad : Bool} (hs : s.length < 1125899906842624) (ha0 : -9223372036854775808 ≤ a) (ha1 : a ≤ 9223372036854775807) :
    -9223372036854775808 ≤ (rtext s a bad).2.1 ∧ (rtext s a bad).2.1 ≤ 9223372036854775807 ∧ (rtext s a bad).1.length ≤ 9223372036854775807 := by
  unfold rtext
  split
  · rename_i n b h
    have := readText_bound h
    dsimp only; omega
  · dsimp only; simp; omega

/-- One field, as the reader reads it: the field, whether it is one, the place behind, whether the reader is bad. -/
structure FStep where
  f : Fld
  ok : Bool
  a : Int
  bad : Bool
def fstep (s : List UInt8) (a : Int) (bad : Bool) : FStep :=
  let r1 := rtext s a bad
  let r2 := rnum s r1.2.1 r1.2.2
  let r3 := rnum s r2.2.1 r2.2.2
  let r4 := rnum s r3.2.1 r3.2.2
  ⟨⟨r1.1, ⟨r2.1, r3.1⟩, r4.1 == 1⟩, r4.1 == 0 || r4.1 == 1, r4.2.1, r4.2.2⟩
def fieldsGo (s : List UInt8) : Nat → Int → Bool → List Fld → Option (List Fld × Int × Bool)
  | 0, a, bad, acc => some (acc, a, bad)
  | m + 1, a, bad, acc => if (fstep s a bad).ok then fieldsGo s m (fstep s a bad).a (fstep s a bad).bad (acc ++ [(fstep s a bad).f]) else none
def decFin (nm : List UInt8) (r : Option (List Fld × Int × Bool)) : Option (Cls × Int) :=
  match r with
  | none => none
  | some (fs, b, bad) => if bad || !rightClass ⟨nm, fs⟩ then none else some (⟨nm, fs⟩, b)
def decode (s : List UInt8) (a : Int) : Option (Cls × Int) :=
  let r1 := rtext s a false
  let r2 := rnum s r1.2.1 r1.2.2
  if r2.1 < 0 ∨ 8 < r2.1 then none else
    decFin r1.1 (fieldsGo s r2.1.toNat r2.2.1 r2.2.2 [])

theorem _root_.Go.World.grownBy.then_below {w w1 w2 : World} {row : Option Nat} (hg : w.grownBy w1 row) (hb : Below w1.heap.size w1 w2) : w.grownBy w2 row :=
  ⟨hb.os.trans hg.os, hb.tape.trans hg.tape, hb.output.trans hg.output, Nat.le_trans hg.size hb.size, fun k hk hn => (hb.block k (by have := hg.size; omega)).trans (hg.block k hk hn)⟩
theorem _root_.Go.World.grownBy.then_grown {w w1 w2 : World} {row : Option Nat} (hg : w.grownBy w1 row) (hb : w1.grownBy w2 row) : w.grownBy w2 row :=
  ⟨hb.os.trans hg.os, hb.tape.trans hg.tape, hb.output.trans hg.output, Nat.le_trans hg.size hb.size, fun k hk hn => (hb.block k (by have := hg.size; omega) hn).trans (hg.block k hk hn)⟩
theorem _root_.Go.World.grownBy.then_set {w w1 : World} {row : Option Nat} (hg : w.grownBy w1 row) {F i : Nat} (hF : w.heap.size ≤ F) (v : Value) : w.grownBy (w1.setCell ⟨F, i, none⟩ v) row :=
  ⟨hg.os, hg.tape, hg.output, by have := hg.size; simpa [World.setCell] using this, fun k hk hn => (heap_setCell_other _ _ _ _ (by simp; omega)).trans (hg.block k hk hn)⟩
theorem RdAt.lt {w : World} {B : Nat} {s : List UInt8} {a : Int} {bad : Bool} (h : RdAt w B s a bad) : B < w.heap.size := heap_lt h

set_option maxRecDepth 10000 in
theorem field_any (B : Nat) (s : List UInt8) (a : Int) (bad : Bool) (a0 a1 : Addr) (w0 w : World) (hs : s.length < 1125899906842624) (ha0 : -9223372036854775808 ≤ a) (ha1 : a ≤ 9223372036854775807) (hG : Glob w0 a0 a1) (hb0 : Below w0.heap.size w0 w) (hB : w0.heap.size ≤ B) (hR : RdAt w B s a bad) :
    Calls Tryd.prog 49 #[.func (.func 47) #[.pointer (some ⟨B, 0, none⟩)] #[], .func (.func 48) #[.pointer (some ⟨B, 0, none⟩)] #[]] w fun e w' =>
      e = .returned (.tuple #[.agg #[.string (str (fstep s a bad).f.n), .int .i64 (fstep s a bad).f.t.k, .int .i64 (fstep s a bad).f.t.o, .bool (fstep s a bad).f.ix], .bool (fstep s a bad).ok]) ∧ w.grownBy w' (some B) ∧ RdAt w' B s (fstep s a bad).a (fstep s a bad).bad := by
  have HG := Lib.hid hG
  have hBa : Below w.heap.size w (w.alloc (.cells #[.string ⟨#[]⟩, .int .i64 0, .int .i64 0, .bool false] 53)) := (Below.refl _ _).alloc (Nat.le_refl _) _
  have QF := Lib.hid (World.alloc_heap_new w (.cells #[.string ⟨#[]⟩, .int .i64 0, .int .i64 0, .bool false] 53))
  have hBw : B < w.heap.size := hR.lt
  have HR : Hid (RdAt (w.alloc (.cells #[.string ⟨#[]⟩, .int .i64 0, .int .i64 0, .bool false] 53)) B s a bad) := (hBa.block _ hBw).trans hR
  have hB0' : Below w0.heap.size w0 (w.alloc (.cells #[.string ⟨#[]⟩, .int .i64 0, .int .i64 0, .bool false] 53)) := hb0.trans (hBa.mono hb0.size)
  clear hR hG
  go_enter Tryd.func49, Tryd.ntmps49
  go_wp2_with fail
  obtain ⟨W, hW⟩ : ∃ W, (w.alloc (.cells #[.string ⟨#[]⟩, .int .i64 0, .int .i64 0, .bool false] 53)) = W := ⟨_, rfl⟩
  rw [hW] at hBa QF HR hB0' ⊢
  clear hW
  refine (rtext_any B s a bad a0 a1 W hs ha0 ha1 (HG.out.ext hB0') HR.out).mono ?_
  rintro e W1 ⟨rfl, hg1, hr1⟩
  have hbd1 := rtext_bound (bad := bad) hs ha0 ha1
  obtain ⟨r1, hr1e⟩ : ∃ r, rtext s a bad = r := ⟨_, rfl⟩
  rw [hr1e] at hr1 hbd1 ⊢
  have HE1 := Lib.hid hr1e
  clear hr1e
  obtain ⟨v1, p1, b1⟩ := r1
  dsimp only at *
  obtain ⟨lo1, hi1, hx1⟩ := hbd1
  have hB1 := hB0'.grown hg1 (by have := hB0'.size; omega) (by simp; omega)
  have qf := (hg1.block _ (heap_lt QF.out) (by simp; omega)).trans QF.out
  have QR0 := Lib.hid qf
  clear qf
  have hWs : w.heap.size < W1.heap.size := heap_lt QR0.out
  have hBb : Below W1.heap.size W1 (W1.alloc (.cells #[.string (str v1), .int .i64 0, .int .i64 0, .bool false] 53)) := (Below.refl _ _).alloc (Nat.le_refl _) _
  have QF1 := Lib.hid (World.alloc_heap_new W1 (.cells #[.string (str v1), .int .i64 0, .int .i64 0, .bool false] 53))
  have QR1 := Lib.hid ((hBb.block w.heap.size hWs).trans QR0.out)
  have RD1 : Hid (RdAt (W1.alloc (.cells #[.string (str v1), .int .i64 0, .int .i64 0, .bool false] 53)) B s p1 b1) := (hBb.block _ (heap_lt hr1)).trans hr1
  have hB1' := hB1.trans (hBb.mono hB1.size)
  have hgr1 : w.grownBy (W1.alloc (.cells #[.string (str v1), .int .i64 0, .int .i64 0, .bool false] 53)) (some B) := (grown_after_below hBa hg1).then_below hBb
  clear hr1 hg1 QR0 hBb
  go_wp2_with fail
  obtain ⟨W1p, hW1p⟩ : ∃ W, (W1.alloc (.cells #[.string (str v1), .int .i64 0, .int .i64 0, .bool false] 53)) = W := ⟨_, rfl⟩
  obtain ⟨F, hF⟩ : ∃ F, W1.heap.size = F := ⟨_, rfl⟩
  rw [hW1p] at QF1 QR1 RD1 hB1' hgr1 ⊢
  rw [hF] at QF1 hWs ⊢
  clear hW1p hF
  refine (rnum_any B s p1 b1 a0 a1 W1p hs lo1 hi1 (HG.out.ext hB1') RD1.out).mono ?_
  rintro e W2 ⟨rfl, hg2, hr2⟩
  have hbd2 := rnum_bound (bad := b1) hs lo1 hi1
  obtain ⟨r2, hr2e⟩ : ∃ r, rnum s p1 b1 = r := ⟨_, rfl⟩
  rw [hr2e] at hr2 hbd2 ⊢
  have HE2 := Lib.hid hr2e
  clear hr2e
  obtain ⟨v2, p2, b2⟩ := r2
  dsimp only at *
  obtain ⟨lo2, hi2, hx2⟩ := hbd2
  have hB2 := hB1'.grown hg2 (by have := hB1'.size; omega) (by simp; omega)
  have qf2 := (hg2.block F (heap_lt QF1.out) (by simp; omega)).trans QF1.out
  have QR2 := Lib.hid ((hg2.block w.heap.size (heap_lt QR1.out) (by simp; omega)).trans QR1.out)
  have c0 := blk_cells' qf2 0
  have k0 := blk_frozen qf2 0
  have c1 := blk_cells' qf2 1
  have k1 := blk_frozen qf2 1
  have c2 := blk_cells' qf2 2
  have k2 := blk_frozen qf2 2
  have c3 := blk_cells' qf2 3
  have k3 := blk_frozen qf2 3
  simp at c0 c1 c2 c3
  have QF2 : Hid ((W2.setCell ⟨F, 1, none⟩ (.int .i64 v2)).heap[F]? = some (.cells #[.string (str v1), .int .i64 v2, .int .i64 0, .bool false] 53 (0, 0))) := heap_setCell_same _ _ _ _ _ _ qf2
  have QR2' := Lib.hid ((heap_setCell_other W2 ⟨F, 1, none⟩ w.heap.size (.int .i64 v2) (by simp; omega)).trans QR2.out)
  have RD2 : Hid (RdAt (W2.setCell ⟨F, 1, none⟩ (.int .i64 v2)) B s p2 b2) := (heap_setCell_other W2 ⟨F, 1, none⟩ B (.int .i64 v2) (by simp; omega)).trans hr2
  have hB2' := hB2.setCell (p := ⟨F, 1, none⟩) (by have := hB1'.size; have := hb0.size; simp; omega) (.int .i64 v2)
  have hgr2 := (hgr1.then_grown hg2).then_set (F := F) (i := 1) (by omega) (.int .i64 v2)
  clear hr2 hg2 qf2 QR2
  go_wp2_with fail
  obtain ⟨W2p, hW2p⟩ : ∃ W, (W2.setCell ⟨F, 1, none⟩ (.int .i64 v2)) = W := ⟨_, rfl⟩
  rw [hW2p] at QF2 QR2' RD2 hB2' hgr2 ⊢
  clear hW2p
  have QR2 := QR2'
  clear QR2'
  clear c0 c1 c2 c3 k0 k1 k2 k3
  refine (rnum_any B s p2 b2 a0 a1 W2p hs lo2 hi2 (HG.out.ext hB2') RD2.out).mono ?_
  rintro e W3 ⟨rfl, hg3, hr3⟩
  have hbd3 := rnum_bound (bad := b2) hs lo2 hi2
  obtain ⟨r3, hr3e⟩ : ∃ r, rnum s p2 b2 = r := ⟨_, rfl⟩
  rw [hr3e] at hr3 hbd3 ⊢
  have HE3 := Lib.hid hr3e
  clear hr3e
  obtain ⟨v3, p3, b3⟩ := r3
  dsimp only at *
  obtain ⟨lo3, hi3, hx3⟩ := hbd3
  have hB3 := hB2'.grown hg3 (by have := hB2'.size; omega) (by simp; omega)
  have qf3 := (hg3.block F (heap_lt QF2.out) (by simp; omega)).trans QF2.out
  have QR3 := Lib.hid ((hg3.block w.heap.size (heap_lt QR2.out) (by simp; omega)).trans QR2.out)
  have c0 := blk_cells' qf3 0
  have k0 := blk_frozen qf3 0
  have c1 := blk_cells' qf3 1
  have k1 := blk_frozen qf3 1
  have c2 := blk_cells' qf3 2
  have k2 := blk_frozen qf3 2
  have c3 := blk_cells' qf3 3
  have k3 := blk_frozen qf3 3
  simp at c0 c1 c2 c3
  have QF3 : Hid ((W3.setCell ⟨F, 2, none⟩ (.int .i64 v3)).heap[F]? = some (.cells #[.string (str v1), .int .i64 v2, .int .i64 v3, .bool false] 53 (0, 0))) := heap_setCell_same _ _ _ _ _ _ qf3
  have QR3' := Lib.hid ((heap_setCell_other W3 ⟨F, 2, none⟩ w.heap.size (.int .i64 v3) (by simp; omega)).trans QR3.out)
  have RD3 : Hid (RdAt (W3.setCell ⟨F, 2, none⟩ (.int .i64 v3)) B s p3 b3) := (heap_setCell_other W3 ⟨F, 2, none⟩ B (.int .i64 v3) (by simp; omega)).trans hr3
  have hB3' := hB3.setCell (p := ⟨F, 2, none⟩) (by have := hB1'.size; have := hb0.size; simp; omega) (.int .i64 v3)
  have hgr3 := (hgr2.then_grown hg3).then_set (F := F) (i := 2) (by omega) (.int .i64 v3)
  clear hr3 hg3 qf3 QR3
  go_wp2_with fail
  obtain ⟨W3p, hW3p⟩ : ∃ W, (W3.setCell ⟨F, 2, none⟩ (.int .i64 v3)) = W := ⟨_, rfl⟩
  rw [hW3p] at QF3 QR3' RD3 hB3' hgr3 ⊢
  clear hW3p
  have QR3 := QR3'
  clear QR3'
  clear c0 c1 c2 c3 k0 k1 k2 k3
  refine (rnum_any B s p3 b3 a0 a1 W3p hs lo3 hi3 (HG.out.ext hB3') RD3.out).mono ?_
  rintro e W4 ⟨rfl, hg4, hr4⟩
  have hbd4 := rnum_bound (bad := b3) hs lo3 hi3
  obtain ⟨r4, hr4e⟩ : ∃ r, rnum s p3 b3 = r := ⟨_, rfl⟩
  rw [hr4e] at hr4 hbd4 ⊢
  have HE4 := Lib.hid hr4e
  clear hr4e
  obtain ⟨v4, p4, b4⟩ := r4
  dsimp only at *
  obtain ⟨lo4, hi4, hx4⟩ := hbd4
  have hB4 := hB3'.grown hg4 (by have := hB3'.size; omega) (by simp; omega)
  have qf4 := (hg4.block F (heap_lt QF3.out) (by simp; omega)).trans QF3.out
  have QR4 := Lib.hid ((hg4.block w.heap.size (heap_lt QR3.out) (by simp; omega)).trans QR3.out)
  have c0 := blk_cells' qf4 0
  have k0 := blk_frozen qf4 0
  have c1 := blk_cells' qf4 1
  have k1 := blk_frozen qf4 1
  have c2 := blk_cells' qf4 2
  have k2 := blk_frozen qf4 2
  have c3 := blk_cells' qf4 3
  have k3 := blk_frozen qf4 3
  simp at c0 c1 c2 c3
  have QR4' := QR4.out
  have d0 := blk_cells' QR4' 0
  have l0 := blk_frozen QR4' 0
  have d1 := blk_cells' QR4' 1
  have l1 := blk_frozen QR4' 1
  have d2 := blk_cells' QR4' 2
  have l2 := blk_frozen QR4' 2
  have d3 := blk_cells' QR4' 3
  have l3 := blk_frozen QR4' 3
  simp at d0 d1 d2 d3
  have RD4 := Lib.hid hr4
  clear QR4' hr4
  by_cases h0 : v4 = 0
  · have Q4 : Hid (v4 = 0) := h0
    subst h0
    go_wp2_with fail
    refine bodyPost_ret (v := .tuple #[.agg #[.string (str v1), .int .i64 v2, .int .i64 v3, .bool false], .bool true]) (by simp [results, Tryd.results49, go_sem, d0, d1, d2, d3]) rfl ?_
    refine ⟨by simp [fstep, HE1.out, HE2.out, HE3.out, HE4.out, Q4.out], ?_, ?_⟩
    · exact ((((hgr3.then_grown hg4).then_set (by omega) _).then_set (Nat.le_refl _) _).then_set (Nat.le_refl _) _ |>.then_set (Nat.le_refl _) _).then_set (Nat.le_refl _) _
    · have e1 : (fstep s a bad).a = p4 := by simp [fstep, HE1.out, HE2.out, HE3.out, HE4.out]
      have e2 : (fstep s a bad).bad = b4 := by simp [fstep, HE1.out, HE2.out, HE3.out, HE4.out]
      rw [e1, e2]
      unfold RdAt
      rw [heap_setCell_other _ _ _ _ (by simp; omega), heap_setCell_other _ _ _ _ (by simp; omega), heap_setCell_other _ _ _ _ (by simp; omega), heap_setCell_other _ _ _ _ (by simp; omega), heap_setCell_other _ _ _ _ (by simp; omega)]
      exact RD4.out
  · by_cases h1 : v4 = 1
    · have Q4 : Hid (v4 = 1) := h1
      subst h1
      go_wp2_with fail
      refine bodyPost_ret (v := .tuple #[.agg #[.string (str v1), .int .i64 v2, .int .i64 v3, .bool true], .bool true]) (by simp [results, Tryd.results49, go_sem, d0, d1, d2, d3]) rfl ?_
      refine ⟨by simp [fstep, HE1.out, HE2.out, HE3.out, HE4.out, Q4.out], ?_, ?_⟩
      · exact ((((hgr3.then_grown hg4).then_set (by omega) _).then_set (Nat.le_refl _) _).then_set (Nat.le_refl _) _ |>.then_set (Nat.le_refl _) _).then_set (Nat.le_refl _) _
      · have e1 : (fstep s a bad).a = p4 := by simp [fstep, HE1.out, HE2.out, HE3.out, HE4.out]
        have e2 : (fstep s a bad).bad = b4 := by simp [fstep, HE1.out, HE2.out, HE3.out, HE4.out]
        rw [e1, e2]
        unfold RdAt
        rw [heap_setCell_other _ _ _ _ (by simp; omega), heap_setCell_other _ _ _ _ (by simp; omega), heap_setCell_other _ _ _ _ (by simp; omega), heap_setCell_other _ _ _ _ (by simp; omega), heap_setCell_other _ _ _ _ (by simp; omega)]
        exact RD4.out
    · have Q4 : Hid (¬ v4 = 0 ∧ ¬ v4 = 1) := ⟨h0, h1⟩
      have e0 : (v4 == 0) = false := by simpa using h0
      have e1 : (v4 == 1) = false := by simpa using h1
      clear h0 h1
      go_wp2_with fail
      refine bodyPost_ret (v := .tuple #[.agg #[.string (str v1), .int .i64 v2, .int .i64 v3, .bool false], .bool false]) (by simp [results, Tryd.results49, go_sem, d0, d1, d2, d3]) rfl ?_
      refine ⟨by simp [fstep, HE1.out, HE2.out, HE3.out, HE4.out, Q4.out], ?_, ?_⟩
      · exact ((((hgr3.then_grown hg4).then_set (by omega) _).then_set (Nat.le_refl _) _).then_set (Nat.le_refl _) _ |>.then_set (Nat.le_refl _) _).then_set (Nat.le_refl _) _
      · have e1 : (fstep s a bad).a = p4 := by simp [fstep, HE1.out, HE2.out, HE3.out, HE4.out]
        have e2 : (fstep s a bad).bad = b4 := by simp [fstep, HE1.out, HE2.out, HE3.out, HE4.out]
        rw [e1, e2]
        unfold RdAt
        rw [heap_setCell_other _ _ _ _ (by simp; omega), heap_setCell_other _ _ _ _ (by simp; omega), heap_setCell_other _ _ _ _ (by simp; omega), heap_setCell_other _ _ _ _ (by simp; omega), heap_setCell_other _ _ _ _ (by simp; omega)]
        exact RD4.out
end Go.Proofs.YtdlolkogifigpaaDoor
