/- Layer 1: wire.ReadNum, wire.Text, wire.ReadText. -/
import Derived.Deep.QuietTactic
import Derived.BigQuiet
import Derived.Test.YtdlolkogifigpaaDoorWire5
import Derived.Test.YtdlolkogifigpaaDoorPWire3
set_option linter.unusedSimpArgs false
set_option linter.unusedVariables false
namespace Go.Proofs.YtdlolkogifigpaaDoor
open Go Go.RowKit Go.Mor Go.Shelf

theorem number_any (s : List UInt8) (a : Int) (b : Nat) (a0 a1 : Addr) (w : World) (hs : s.length < 1125899906842624) (ha0 : -9223372036854775808 ≤ a) (ha1 : a ≤ 9223372036854775807)
    (hG : Glob w a0 a1) (hb : w.heap[b]? = some (.cells #[.string (str s), .int .i64 a] 110 (0, 0))) :
    Calls Tryd.prog 65 #[.pointer (some ⟨b, 0, none⟩)] w (NumPost s a b a0 a1 w) := by
  by_cases hin : 0 ≤ a ∧ a < s.length
  · obtain ⟨a, rfl⟩ := Int.eq_ofNat_of_zero_le hin.1
    exact number_go s a b a0 a1 w hs (by omega) hG hb
  · refine (number_out s a b a0 a1 w hs ha0 ha1 hG hb hin).mono ?_
    rintro e w' ⟨rfl, hbl⟩
    unfold NumPost
    rw [rd_out hin]
    exact ⟨rfl, hbl⟩

theorem blk_new (w : World) (t : TypeId) (cs : Array Value) : (w.alloc (.cells cs t)).heap[w.heap.size]? = some (.cells cs t (0, 0)) := World.alloc_heap_new w _
theorem below_new {w w' : World} {o : Obj} (hg : (w.alloc o).grownBy w' (some w.heap.size)) : Below w.heap.size w w' :=
  ((Below.refl w.heap.size w).alloc (Nat.le_refl _) o).grown hg (by simp) (fun k e => by cases e; exact Nat.le_refl _)

set_option maxRecDepth 10000 in
theorem ReadNum_any (s : List UInt8) (a : Int) (a0 a1 : Addr) (w : World) (hs : s.length < 1125899906842624) (ha0 : -9223372036854775808 ≤ a) (ha1 : a ≤ 9223372036854775807) (hG : Glob w a0 a1) :
    Calls Tryd.prog 35 #[.string (str s), .int .i64 a] w fun e w' =>
      e = .returned (numRes (readNum s a)) ∧ Below w.heap.size w w' := by
  have hmix : Tryd.prog.follows .mixedOrders = true := by kernel_rfl
  have hB1 : Below w.heap.size w (w.alloc (.cells #[.string (str s), .int .i64 a] 110)) := (Below.refl _ _).alloc (Nat.le_refl _) _
  have hG1 := hG.ext hB1
  have HN := Lib.hid (number_any s a w.heap.size a0 a1 _ hs ha0 ha1 hG1 (blk_new w 110 #[.string (str s), .int .i64 a]))
  have HG := Lib.hid hG
  clear hG hG1
  go_enter Tryd.func35, Tryd.ntmps35
  go_wp2_with fail
  refine HN.out.mono ?_
  intro e w' hp
  unfold NumPost at hp
  cases hr : rd s a with
  | error t =>
    rw [hr] at hp
    have hrn : readNum s a = none := by simp [readNum, hr]
    have HRN := Lib.hid hrn
    clear hr hrn
    cases t
    · obtain ⟨rfl, hbl⟩ := hp
      have hbl' := hB1.trans (hbl.mono (by simp))
      have HW := Lib.hid (wrong_end w' a0 a1 (HG.out.ext hbl'))
      go_wp2_with fail
      refine HW.out.mono ?_
      rintro e w2 ⟨rfl, rfl⟩
      go_wp2_with fail
      go_ret3
      exact ⟨by rw [HRN.out]; rfl, hbl'⟩
    · obtain ⟨rfl, hbl⟩ := hp
      have hbl' := hB1.trans (hbl.mono (by simp))
      have HW := Lib.hid (wrong_form w' a0 a1 (HG.out.ext hbl'))
      go_wp2_with fail
      refine HW.out.mono ?_
      rintro e w2 ⟨rfl, rfl⟩
      go_wp2_with fail
      go_ret3
      exact ⟨by rw [HRN.out]; rfl, hbl'⟩
  | ok p =>
    obtain ⟨n, z⟩ := p
    rw [hr] at hp
    have hrn : readNum s a = some (n, a + z) := by simp [readNum, hr]
    have HRN := Lib.hid hrn
    clear hr hrn
    obtain ⟨rfl, hgr, hbk⟩ := hp
    have hbl' := below_new hgr
    have HW := Lib.hid (wrong_nil w' a0 a1 (HG.out.ext hbl'))
    have c1 : w'.cell? ⟨w.heap.size, 0 + 1, none⟩ = some (.int .i64 (a + z)) := blk_cells hbk 1
    go_wp2_with fail
    refine HW.out.mono ?_
    rintro e w2 ⟨rfl, rfl⟩
    go_wp2_with fail
    refine wp_region_tail 5 hmix (by kernel_rfl) ?_; simp only [List.take_succ_cons, List.take_zero, List.drop_succ_cons, List.drop_zero]
    iterate 5 still_step
    refine wpStill_nil ?_
    go_wp2_with fail
    go_ret3
    exact ⟨by rw [HRN.out]; rfl, hbl'.drew⟩

theorem Text_any (s : List UInt8) (w : World) (hs : s.length ≤ 9223372036854775807) :
    Calls Tryd.prog 76 #[.string (str s)] w fun e w' =>
      e = .returned (textRes s) ∧ Below w.heap.size w w' := by
  by_cases hl : s.length ≤ 10000
  · have hnl := num_length (s.length : Int)
    go_enter Tryd.func76, Tryd.ntmps76
    go_wp2_with fail
    refine (Num_any _ (by omega) (by omega) _).mono ?_
    rintro e w2 ⟨rfl, hb2⟩
    go_wp2_with fail
    go_ret2
    exact ⟨by rw [textRes, if_pos hl]; rfl, hb2⟩
  · go_enter Tryd.func76, Tryd.ntmps76
    go_wp2_with fail
    go_ret2
    exact ⟨by rw [textRes, if_neg hl]; rfl, Below.refl _ _⟩

/-- What (*reader).words leaves. -/
def WordsPost (s : List UInt8) (a : Int) (b : Nat) (a0 a1 : Addr) (w : World) (e : Ending) (w' : World) : Prop :=
  match rdW s a with
  | .ok (t, z) => e = .returned (.tuple #[.string (str t), .nilIface]) ∧ w.grownBy w' (some b) ∧ w'.heap[b]? = some (.cells #[.string (str s), .int .i64 z] 110 (0, 0))
  | .error false => e = .returned (.tuple #[.string (str []), .iface 184 (.pointer (some a0))]) ∧ w.grownBy w' (some b)
  | .error true => e = .returned (.tuple #[.string (str []), .iface 184 (.pointer (some a1))]) ∧ w.grownBy w' (some b)

theorem grown_of_below {w w' : World} {r : Option Nat} (h : Below w.heap.size w w') : w.grownBy w' r := ⟨h.os, h.tape, h.output, h.size, fun k hk _ => h.block k hk⟩
theorem grown_drew {w w' : World} {r : Option Nat} (h : w.grownBy w' r) : w.grownBy w'.drew r := ⟨h.os, h.tape, h.output, h.size, h.block⟩
theorem grown_trans {w w' w2 : World} {r : Option Nat} (h : w.grownBy w' r) (h2 : w'.grownBy w2 r) : w.grownBy w2 r :=
  ⟨h2.os.trans h.os, h2.tape.trans h.tape, h2.output.trans h.output, Nat.le_trans h.size h2.size, fun k hk hn => (h2.block k (Nat.lt_of_lt_of_le hk h.size) hn).trans (h.block k hk hn)⟩
set_option maxHeartbeats 1000000 in
set_option maxRecDepth 100000 in
theorem words_any (s : List UInt8) (a : Int) (b : Nat) (a0 a1 : Addr) (w : World) (hs : s.length < 1125899906842624) (ha0 : -9223372036854775808 ≤ a) (ha1 : a ≤ 9223372036854775807)
    (hG : Glob w a0 a1) (hb : w.heap[b]? = some (.cells #[.string (str s), .int .i64 a] 110 (0, 0))) (hbG : 0 ≠ b ∧ 1 ≠ b) :
    Calls Tryd.prog 102 #[.pointer (some ⟨b, 0, none⟩)] w (WordsPost s a b a0 a1 w) := by
  have hmix : Tryd.prog.follows .mixedOrders = true := by kernel_rfl
  have HN := Lib.hid (number_any s a b a0 a1 w hs ha0 ha1 hG hb)
  have HG := Lib.hid hG
  have HB := Lib.hid hb
  clear hG hb
  go_enter Tryd.func102, Tryd.ntmps102
  go_wp2_with fail
  refine HN.out.mono ?_
  intro e w' hp
  unfold NumPost at hp
  cases hr : rd s a with
  | error t =>
    rw [hr] at hp
    have hrn : rdW s a = .error t := by simp [rdW, hr]
    have HRN := Lib.hid hrn
    clear hr hrn
    cases t
    · obtain ⟨rfl, hbl⟩ := hp
      go_wp2_with fail
      go_ret2
      unfold WordsPost
      rw [HRN.out]
      exact ⟨rfl, grown_of_below hbl⟩
    · obtain ⟨rfl, hbl⟩ := hp
      go_wp2_with fail
      go_ret2
      unfold WordsPost
      rw [HRN.out]
      exact ⟨rfl, grown_of_below hbl⟩
  | ok p =>
    obtain ⟨n, z⟩ := p
    rw [hr] at hp
    have hbd := rd_bound hr
    have HR := Lib.hid hr
    clear hr
    obtain ⟨rfl, hgr, hbk⟩ := hp
    have e0 := (World.cell?_of_block (w := w) (a := ⟨0, 0, none⟩) (hgr.block 0 (cell_lt HG.out.e0) (by simpa using hbG.1))).trans HG.out.e0
    have e1 := (World.cell?_of_block (w := w) (a := ⟨1, 0, none⟩) (hgr.block 1 (cell_lt HG.out.e1) (by simpa using hbG.2))).trans HG.out.e1
    have d0 : w'.cell? ⟨b, 0, none⟩ = some (.string (str s)) := blk_cells hbk 0
    have d1 : w'.cell? ⟨b, 0 + 1, none⟩ = some (.int .i64 (a + z)) := blk_cells hbk 1
    have d2 : w'.frozen? ⟨b, 0 + 1, none⟩ = false := blk_frozen hbk 1
    have HBK := Lib.hid hbk
    clear hbk
    by_cases hbad : n < 0 ∨ 10000 < n
    · have HRN : Hid (rdW s a = .error true) := by show _ = _; unfold rdW; rw [HR.out]; exact if_pos hbad
      have HBD := Lib.hid hbad
      clear hbad
      by_cases hn0 : n < 0
      · go_wp2_with fail
        go_region
        go_wp2_with fail
        go_ret2
        unfold WordsPost
        rw [HRN.out]
        exact ⟨rfl, grown_drew hgr⟩
      · have hn1 : 10000 < n := by have := HBD.out; omega
        go_wp2_with fail
        go_region
        go_wp2_with fail
        go_ret2
        unfold WordsPost
        rw [HRN.out]
        exact ⟨rfl, grown_drew hgr⟩
    · have hn0 : 0 ≤ n := by omega
      have hn1 : n ≤ 10000 := by omega
      clear hbad
      by_cases hfit : (s.length : Int) - (a + z) < n
      · have HRN : Hid (rdW s a = .error false) := by
          show _ = _; unfold rdW; rw [HR.out]; dsimp only; rw [if_neg (by omega), if_pos hfit]
        have hhas : ∀ W, Calls Tryd.prog 94 #[.string (str s), .int .i64 (a + z), .int .i64 n] W fun e w' => e = .returned (.bool false) ∧ w' = W := fun W => by
          have := has_any s (a + z) n W (by omega) (by omega) (by omega)
          rwa [decide_eq_false (by omega)] at this
        have HH := Lib.hid hhas
        clear hhas
        go_wp2_with fail
        refine wp_region_tail 10 hmix (by kernel_rfl) ?_; simp only [List.take_succ_cons, List.take_zero, List.drop_succ_cons, List.drop_zero]
        iterate 9 still_step
        still_call (HH.out _)
        refine wpStill_nil ?_
        go_wp2_with fail
        go_region
        all_goals go_wp2_with fail
        all_goals go_ret2
        all_goals unfold WordsPost
        all_goals rw [HRN.out]
        all_goals exact ⟨rfl, grown_drew (grown_drew hgr)⟩
      · have HRN : Hid (rdW s a = .ok ((s.drop (a + z).toNat).take n.toNat, a + z + n)) := by
          show _ = _; unfold rdW; rw [HR.out]; dsimp only; rw [if_neg (by omega), if_neg hfit]
        have hhas : ∀ W, Calls Tryd.prog 94 #[.string (str s), .int .i64 (a + z), .int .i64 n] W fun e w' => e = .returned (.bool true) ∧ w' = W := fun W => by
          have := has_any s (a + z) n W (by omega) (by omega) (by omega)
          rwa [decide_eq_true (by omega)] at this
        have HH := Lib.hid hhas
        clear hhas
        go_wp2_with fail
        refine wp_region_tail 10 hmix (by kernel_rfl) ?_; simp only [List.take_succ_cons, List.take_zero, List.drop_succ_cons, List.drop_zero]
        iterate 9 still_step
        still_call (HH.out _)
        refine wpStill_nil ?_
        go_wp2_with fail
        have hb3 : (w'.setCell ⟨b, 1, none⟩ (.int .i64 (a + z + n))).heap[b]? = some (.cells #[.string (str s), .int .i64 (a + z + n)] 110 (0, 0)) := by
          have := HBK.out
          simp [World.setCell, Array.getElem?_modify, this]
        have hg3 : w.grownBy (w'.setCell ⟨b, 1, none⟩ (.int .i64 (a + z + n))) (some b) := grown_trans hgr ⟨rfl, rfl, rfl, by simp, fun k _ hk => Below.heap_setCell _ _ _ k (fun e => hk (by rw [e]))⟩
        obtain ⟨W3, hW3⟩ : ∃ W3, (w'.setCell ⟨b, 1, none⟩ (.int .i64 (a + z + n))) = W3 := ⟨_, rfl⟩
        rw [hW3] at hb3 hg3 ⊢
        clear hW3 d0 d1 d2 hgr e0 e1
        have d0 : W3.cell? ⟨b, 0, none⟩ = some (.string (str s)) := blk_cells hb3 0
        have d1 : W3.cell? ⟨b, 0 + 1, none⟩ = some (.int .i64 (a + z + n)) := blk_cells hb3 1
        have HB3 := Lib.hid hb3
        clear hb3
        have hw1 : IntKind.i64.wrap (a + z) = a + z := IntWalk.i64_in _ (by omega)
        have hw5 : (0 : Int) ≤ a + z + n := by omega
        have hw2 : (0 : Int) ≤ a + z := by omega
        have hw3 : a + z ≤ a + z + n := by omega
        have hw4 : a + z + n ≤ s.length := by omega
        refine wp_region_tail 16 hmix (by kernel_rfl) ?_; simp only [List.take_succ_cons, List.take_zero, List.drop_succ_cons, List.drop_zero]
        iterate 16 still_step
        refine wpStill_nil ?_
        clear hw1
        go_wp2_with fail
        go_ret2
        unfold WordsPost
        rw [HRN.out]
        refine ⟨?_, grown_drew (grown_drew hg3), HB3.out⟩
        have e1 : (a + z + n).toNat - (a + z).toNat = n.toNat := by omega
        simp [e1]

theorem glob_lt {w : World} {a0 a1 : Addr} (hG : Glob w a0 a1) : 0 ≠ w.heap.size ∧ 1 ≠ w.heap.size := by
  have h0 := cell_lt hG.e0
  have h1 := cell_lt hG.e1
  dsimp only at h0 h1
  omega

set_option maxRecDepth 10000 in
theorem ReadText_any (s : List UInt8) (a : Int) (a0 a1 : Addr) (w : World) (hs : s.length < 1125899906842624) (ha0 : -9223372036854775808 ≤ a) (ha1 : a ≤ 9223372036854775807) (hG : Glob w a0 a1) :
    Calls Tryd.prog 78 #[.string (str s), .int .i64 a] w fun e w' => e = .returned (readRes (readText s a)) ∧ Below w.heap.size w w' := by
  have hmix : Tryd.prog.follows .mixedOrders = true := by kernel_rfl
  have hB1 : Below w.heap.size w (w.alloc (.cells #[.string (str s), .int .i64 a] 110)) := (Below.refl _ _).alloc (Nat.le_refl _) _
  have hG1 := hG.ext hB1
  have HN := Lib.hid (words_any s a w.heap.size a0 a1 _ hs ha0 ha1 hG1 (blk_new w 110 #[.string (str s), .int .i64 a]) (glob_lt hG))
  have HG := Lib.hid hG
  clear hG hG1
  go_enter Tryd.func78, Tryd.ntmps78
  go_wp2_with fail
  refine HN.out.mono ?_
  intro e w' hp
  unfold WordsPost at hp
  cases hr : rdW s a with
  | error t =>
    rw [hr] at hp
    have hrn : readText s a = none := by simp [readText, hr]
    have HRN := Lib.hid hrn
    clear hr hrn
    cases t
    · obtain ⟨rfl, hgr⟩ := hp
      have hbl' := below_new hgr
      have HW := Lib.hid (wrong_end w' a0 a1 (HG.out.ext hbl'))
      go_wp2_with fail
      refine HW.out.mono ?_
      rintro e w2 ⟨rfl, rfl⟩
      go_wp2_with fail
      go_ret3
      exact ⟨by rw [HRN.out]; rfl, hbl'⟩
    · obtain ⟨rfl, hgr⟩ := hp
      have hbl' := below_new hgr
      have HW := Lib.hid (wrong_form w' a0 a1 (HG.out.ext hbl'))
      go_wp2_with fail
      refine HW.out.mono ?_
      rintro e w2 ⟨rfl, rfl⟩
      go_wp2_with fail
      go_ret3
      exact ⟨by rw [HRN.out]; rfl, hbl'⟩
  | ok p =>
    obtain ⟨t, z⟩ := p
    rw [hr] at hp
    have hrn : readText s a = some (t, z) := by simp [readText, hr]
    have HRN := Lib.hid hrn
    clear hr hrn
    obtain ⟨rfl, hgr, hbk⟩ := hp
    have hbl' := below_new hgr
    have HW := Lib.hid (wrong_nil w' a0 a1 (HG.out.ext hbl'))
    have c1 : w'.cell? ⟨w.heap.size, 0 + 1, none⟩ = some (.int .i64 z) := blk_cells hbk 1
    go_wp2_with fail
    refine HW.out.mono ?_
    rintro e w2 ⟨rfl, rfl⟩
    go_wp2_with fail
    refine wp_region_tail 5 hmix (by kernel_rfl) ?_; simp only [List.take_succ_cons, List.take_zero, List.drop_succ_cons, List.drop_zero]
    iterate 5 still_step
    refine wpStill_nil ?_
    go_wp2_with fail
    go_ret3
    exact ⟨by rw [HRN.out]; rfl, hbl'.drew⟩
end Go.Proofs.YtdlolkogifigpaaDoor
