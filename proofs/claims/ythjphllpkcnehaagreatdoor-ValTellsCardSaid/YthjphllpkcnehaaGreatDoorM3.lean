/- Merged texts: Wire6 Pr1 PrA WrapA Cd1 S19 Vc1 Zv1. No statement of the program is proved here. -/
import Derived.Test.YthjphllpkcnehaaGreatDoorM2
import Derived.Deep.QuietTactic
import Derived.BigQuiet
import Derived.Test.YthjphllpkcnehaaGreatDoorProg
import Derived.KernelRfl
import Derived.Lib.TrimUEq
set_option linter.unusedSimpArgs false
set_option linter.unusedVariables false
section
/- Layer 1: wire.ReadNum, wire.Text, wire.ReadText. -/
namespace Go.Proofs.YthjphllpkcnehaaGreatDoor
open Go Go.RowKit Go.Mor Go.Shelf

theorem number_any (s : List UInt8) (a : Int) (b : Nat) (a0 a1 : Addr) (w : World) (hs : s.length < 1125899906842624) (ha0 : -9223372036854775808 ≤ a) (ha1 : a ≤ 9223372036854775807)
    (hG : Glob w a0 a1) (hb : w.heap[b]? = some (.cells #[.string (str s), .int .i64 a] 215 (0, 0))) :
    Calls Tryz.prog 169 #[.pointer (some ⟨b, 0, none⟩)] w (NumPost s a b a0 a1 w) := by
  by_cases hin : 0 ≤ a ∧ a < s.length
  · obtain ⟨a, rfl⟩ := Int.eq_ofNat_of_zero_le hin.1
    exact number_go s a b a0 a1 w hs (by omega) hG hb
  · refine (number_out s a b a0 a1 w hs ha0 ha1 hG hb hin).mono ?_
    rintro e w' ⟨rfl, hbl⟩
    unfold NumPost
    rw [rd_out hin]
    exact ⟨rfl, hbl⟩

theorem blk_new (w : World) (t : TypeId) (cs : Array Value) : (w.alloc (.cells cs t)).heap[w.heap.size]? = some (.cells cs t (0, 0)) := World.alloc_heap_new w _
theorem below_new {w w' : World} {o : Obj} (hg : (w.alloc o).grownBy w' (some w.heap.size)) : Below w.heap.size w w' :=
  ((Below.refl w.heap.size w).alloc (Nat.le_refl _) o).grown hg (by simp) (fun k e => by cases e; exact Nat.le_refl _)

set_option maxRecDepth 10000 in
theorem ReadNum_any (s : List UInt8) (a : Int) (a0 a1 : Addr) (w : World) (hs : s.length < 1125899906842624) (ha0 : -9223372036854775808 ≤ a) (ha1 : a ≤ 9223372036854775807) (hG : Glob w a0 a1) :
    Calls Tryz.prog 152 #[.string (str s), .int .i64 a] w fun e w' =>
      e = .returned (numRes (readNum s a)) ∧ Below w.heap.size w w' := by
  have hmix : Tryz.prog.follows .mixedOrders = true := by kernel_rfl
  have hB1 : Below w.heap.size w (w.alloc (.cells #[.string (str s), .int .i64 a] 215)) := (Below.refl _ _).alloc (Nat.le_refl _) _
  have hG1 := hG.ext hB1
  have HN := Lib.hid (number_any s a w.heap.size a0 a1 _ hs ha0 ha1 hG1 (blk_new w 215 #[.string (str s), .int .i64 a]))
  have HG := Lib.hid hG
  clear hG hG1
  go_enter Tryz.func152, Tryz.ntmps152
  go_wp2_with fail
  refine HN.out.mono ?_
  intro e w' hp
  unfold NumPost at hp
  cases hr : rd s a with
  | error t =>
    rw [hr] at hp
    have hrn : readNum s a = none := by simp [readNum, hr]
    have HRN := Lib.hid hrn
    clear hr hrn
    cases t
    · obtain ⟨rfl, hbl⟩ := hp
      have hbl' := hB1.trans (hbl.mono (by simp))
      have HW := Lib.hid (wrong_end w' a0 a1 (HG.out.ext hbl'))
      go_wp2_with fail
      refine HW.out.mono ?_
      rintro e w2 ⟨rfl, rfl⟩
      go_wp2_with fail
      go_ret3
      exact ⟨by rw [HRN.out]; rfl, hbl'⟩
    · obtain ⟨rfl, hbl⟩ := hp
      have hbl' := hB1.trans (hbl.mono (by simp))
      have HW := Lib.hid (wrong_form w' a0 a1 (HG.out.ext hbl'))
      go_wp2_with fail
      refine HW.out.mono ?_
      rintro e w2 ⟨rfl, rfl⟩
      go_wp2_with fail
      go_ret3
      exact ⟨by rw [HRN.out]; rfl, hbl'⟩
  | ok p =>
    obtain ⟨n, z⟩ := p
    rw [hr] at hp
    have hrn : readNum s a = some (n, a + z) := by simp [readNum, hr]
    have HRN := Lib.hid hrn
    clear hr hrn
    obtain ⟨rfl, hgr, hbk⟩ := hp
    have hbl' := below_new hgr
    have HW := Lib.hid (wrong_nil w' a0 a1 (HG.out.ext hbl'))
    have c1 : w'.cell? ⟨w.heap.size, 0 + 1, none⟩ = some (.int .i64 (a + z)) := blk_cells hbk 1
    go_wp2_with fail
    refine HW.out.mono ?_
    rintro e w2 ⟨rfl, rfl⟩
    go_wp2_with fail
    refine wp_region_tail 5 hmix (by kernel_rfl) ?_; simp only [List.take_succ_cons, List.take_zero, List.drop_succ_cons, List.drop_zero]
    iterate 5 still_step
    refine wpStill_nil ?_
    go_wp2_with fail
    go_ret3
    exact ⟨by rw [HRN.out]; rfl, hbl'.drew⟩

theorem Text_any (s : List UInt8) (w : World) (hs : s.length ≤ 9223372036854775807) :
    Calls Tryz.prog 111 #[.string (str s)] w fun e w' =>
      e = .returned (textRes s) ∧ Below w.heap.size w w' := by
  by_cases hl : s.length ≤ 10000
  · have hnl := num_length (s.length : Int)
    go_enter Tryz.func111, Tryz.ntmps111
    go_wp2_with fail
    refine (Num_any _ (by omega) (by omega) _).mono ?_
    rintro e w2 ⟨rfl, hb2⟩
    go_wp2_with fail
    go_ret2
    exact ⟨by rw [textRes, if_pos hl]; rfl, hb2⟩
  · go_enter Tryz.func111, Tryz.ntmps111
    go_wp2_with fail
    go_ret2
    exact ⟨by rw [textRes, if_neg hl]; rfl, Below.refl _ _⟩

/-- What (*reader).words leaves. -/
def WordsPost (s : List UInt8) (a : Int) (b : Nat) (a0 a1 : Addr) (w : World) (e : Ending) (w' : World) : Prop :=
  match rdW s a with
  | .ok (t, z) => e = .returned (.tuple #[.string (str t), .nilIface]) ∧ w.grownBy w' (some b) ∧ w'.heap[b]? = some (.cells #[.string (str s), .int .i64 z] 215 (0, 0))
  | .error false => e = .returned (.tuple #[.string (str []), .iface 261 (.pointer (some a0))]) ∧ w.grownBy w' (some b)
  | .error true => e = .returned (.tuple #[.string (str []), .iface 261 (.pointer (some a1))]) ∧ w.grownBy w' (some b)

theorem grown_of_below {w w' : World} {r : Option Nat} (h : Below w.heap.size w w') : w.grownBy w' r := ⟨h.os, h.tape, h.output, h.size, fun k hk _ => h.block k hk⟩
theorem grown_drew {w w' : World} {r : Option Nat} (h : w.grownBy w' r) : w.grownBy w'.drew r := ⟨h.os, h.tape, h.output, h.size, h.block⟩
theorem grown_trans {w w' w2 : World} {r : Option Nat} (h : w.grownBy w' r) (h2 : w'.grownBy w2 r) : w.grownBy w2 r :=
  ⟨h2.os.trans h.os, h2.tape.trans h.tape, h2.output.trans h.output, Nat.le_trans h.size h2.size, fun k hk hn => (h2.block k (Nat.lt_of_lt_of_le hk h.size) hn).trans (h.block k hk hn)⟩
set_option maxHeartbeats 1000000 in
set_option maxRecDepth 100000 in
theorem words_any (s : List UInt8) (a : Int) (b : Nat) (a0 a1 : Addr) (w : World) (hs : s.length < 1125899906842624) (ha0 : -9223372036854775808 ≤ a) (ha1 : a ≤ 9223372036854775807)
    (hG : Glob w a0 a1) (hb : w.heap[b]? = some (.cells #[.string (str s), .int .i64 a] 215 (0, 0))) (hbG : 2 ≠ b ∧ 3 ≠ b) :
    Calls Tryz.prog 171 #[.pointer (some ⟨b, 0, none⟩)] w (WordsPost s a b a0 a1 w) := by
  have hmix : Tryz.prog.follows .mixedOrders = true := by kernel_rfl
  have HN := Lib.hid (number_any s a b a0 a1 w hs ha0 ha1 hG hb)
  have HG := Lib.hid hG
  have HB := Lib.hid hb
  clear hG hb
  go_enter Tryz.func171, Tryz.ntmps171
  go_wp2_with fail
  refine HN.out.mono ?_
  intro e w' hp
  unfold NumPost at hp
  cases hr : rd s a with
  | error t =>
    rw [hr] at hp
    have hrn : rdW s a = .error t := by simp [rdW, hr]
    have HRN := Lib.hid hrn
    clear hr hrn
    cases t
    · obtain ⟨rfl, hbl⟩ := hp
      go_wp2_with fail
      go_ret2
      unfold WordsPost
      rw [HRN.out]
      exact ⟨rfl, grown_of_below hbl⟩
    · obtain ⟨rfl, hbl⟩ := hp
      go_wp2_with fail
      go_ret2
      unfold WordsPost
      rw [HRN.out]
      exact ⟨rfl, grown_of_below hbl⟩
  | ok p =>
    obtain ⟨n, z⟩ := p
    rw [hr] at hp
    have hbd := rd_bound hr
    have HR := Lib.hid hr
    clear hr
    obtain ⟨rfl, hgr, hbk⟩ := hp
    have e0 := (World.cell?_of_block (w := w) (a := ⟨2, 0, none⟩) (hgr.block 2 (cell_lt HG.out.e0) (by simpa using hbG.1))).trans HG.out.e0
    have e1 := (World.cell?_of_block (w := w) (a := ⟨3, 0, none⟩) (hgr.block 3 (cell_lt HG.out.e1) (by simpa using hbG.2))).trans HG.out.e1
    have d0 : w'.cell? ⟨b, 0, none⟩ = some (.string (str s)) := blk_cells hbk 0
    have d1 : w'.cell? ⟨b, 0 + 1, none⟩ = some (.int .i64 (a + z)) := blk_cells hbk 1
    have d2 : w'.frozen? ⟨b, 0 + 1, none⟩ = false := blk_frozen hbk 1
    have HBK := Lib.hid hbk
    clear hbk
    by_cases hbad : n < 0 ∨ 10000 < n
    · have HRN : Hid (rdW s a = .error true) := by show _ = _; unfold rdW; rw [HR.out]; exact if_pos hbad
      have HBD := Lib.hid hbad
      clear hbad
      by_cases hn0 : n < 0
      · go_wp2_with fail
        go_region
        go_wp2_with fail
        go_ret2
        unfold WordsPost
        rw [HRN.out]
        exact ⟨rfl, grown_drew hgr⟩
      · have hn1 : 10000 < n := by have := HBD.out; omega
        go_wp2_with fail
        go_region
        go_wp2_with fail
        go_ret2
        unfold WordsPost
        rw [HRN.out]
        exact ⟨rfl, grown_drew hgr⟩
    · have hn0 : 0 ≤ n := by omega
      have hn1 : n ≤ 10000 := by omega
      clear hbad
      by_cases hfit : (s.length : Int) - (a + z) < n
      · have HRN : Hid (rdW s a = .error false) := by
          show _ = _; unfold rdW; rw [HR.out]; dsimp only; rw [if_neg (by omega), if_pos hfit]
        have hhas : ∀ W, Calls Tryz.prog 182 #[.string (str s), .int .i64 (a + z), .int .i64 n] W fun e w' => e = .returned (.bool false) ∧ w' = W := fun W => by
          have := has_any s (a + z) n W (by omega) (by omega) (by omega)
          rwa [decide_eq_false (by omega)] at this
        have HH := Lib.hid hhas
        clear hhas
        go_wp2_with fail
        refine wp_region_tail 10 hmix (by kernel_rfl) ?_; simp only [List.take_succ_cons, List.take_zero, List.drop_succ_cons, List.drop_zero]
        iterate 9 still_step
        still_call (HH.out _)
        refine wpStill_nil ?_
        go_wp2_with fail
        go_region
        all_goals go_wp2_with fail
        all_goals go_ret2
        all_goals unfold WordsPost
        all_goals rw [HRN.out]
        all_goals exact ⟨rfl, grown_drew (grown_drew hgr)⟩
      · have HRN : Hid (rdW s a = .ok ((s.drop (a + z).toNat).take n.toNat, a + z + n)) := by
          show _ = _; unfold rdW; rw [HR.out]; dsimp only; rw [if_neg (by omega), if_neg hfit]
        have hhas : ∀ W, Calls Tryz.prog 182 #[.string (str s), .int .i64 (a + z), .int .i64 n] W fun e w' => e = .returned (.bool true) ∧ w' = W := fun W => by
          have := has_any s (a + z) n W (by omega) (by omega) (by omega)
          rwa [decide_eq_true (by omega)] at this
        have HH := Lib.hid hhas
        clear hhas
        go_wp2_with fail
        refine wp_region_tail 10 hmix (by kernel_rfl) ?_; simp only [List.take_succ_cons, List.take_zero, List.drop_succ_cons, List.drop_zero]
        iterate 9 still_step
        still_call (HH.out _)
        refine wpStill_nil ?_
        go_wp2_with fail
        have hb3 : (w'.setCell ⟨b, 1, none⟩ (.int .i64 (a + z + n))).heap[b]? = some (.cells #[.string (str s), .int .i64 (a + z + n)] 215 (0, 0)) := by
          have := HBK.out
          simp [World.setCell, Array.getElem?_modify, this]
        have hg3 : w.grownBy (w'.setCell ⟨b, 1, none⟩ (.int .i64 (a + z + n))) (some b) := grown_trans hgr ⟨rfl, rfl, rfl, by simp, fun k _ hk => Below.heap_setCell _ _ _ k (fun e => hk (by rw [e]))⟩
        obtain ⟨W3, hW3⟩ : ∃ W3, (w'.setCell ⟨b, 1, none⟩ (.int .i64 (a + z + n))) = W3 := ⟨_, rfl⟩
        rw [hW3] at hb3 hg3 ⊢
        clear hW3 d0 d1 d2 hgr e0 e1
        have d0 : W3.cell? ⟨b, 0, none⟩ = some (.string (str s)) := blk_cells hb3 0
        have d1 : W3.cell? ⟨b, 0 + 1, none⟩ = some (.int .i64 (a + z + n)) := blk_cells hb3 1
        have HB3 := Lib.hid hb3
        clear hb3
        have hw1 : IntKind.i64.wrap (a + z) = a + z := IntWalk.i64_in _ (by omega)
        have hw5 : (0 : Int) ≤ a + z + n := by omega
        have hw2 : (0 : Int) ≤ a + z := by omega
        have hw3 : a + z ≤ a + z + n := by omega
        have hw4 : a + z + n ≤ s.length := by omega
        refine wp_region_tail 16 hmix (by kernel_rfl) ?_; simp only [List.take_succ_cons, List.take_zero, List.drop_succ_cons, List.drop_zero]
        iterate 16 still_step
        refine wpStill_nil ?_
        clear hw1
        go_wp2_with fail
        go_ret2
        unfold WordsPost
        rw [HRN.out]
        refine ⟨?_, grown_drew (grown_drew hg3), HB3.out⟩
        have e1 : (a + z + n).toNat - (a + z).toNat = n.toNat := by omega
        simp [e1]

theorem glob_lt {w : World} {a0 a1 : Addr} (hG : Glob w a0 a1) : 2 ≠ w.heap.size ∧ 3 ≠ w.heap.size := by
  have h0 := cell_lt hG.e0
  have h1 := cell_lt hG.e1
  dsimp only at h0 h1
  omega

set_option maxRecDepth 10000 in
theorem ReadText_any (s : List UInt8) (a : Int) (a0 a1 : Addr) (w : World) (hs : s.length < 1125899906842624) (ha0 : -9223372036854775808 ≤ a) (ha1 : a ≤ 9223372036854775807) (hG : Glob w a0 a1) :
    Calls Tryz.prog 153 #[.string (str s), .int .i64 a] w fun e w' => e = .returned (readRes (readText s a)) ∧ Below w.heap.size w w' := by
  have hmix : Tryz.prog.follows .mixedOrders = true := by kernel_rfl
  have hB1 : Below w.heap.size w (w.alloc (.cells #[.string (str s), .int .i64 a] 215)) := (Below.refl _ _).alloc (Nat.le_refl _) _
  have hG1 := hG.ext hB1
  have HN := Lib.hid (words_any s a w.heap.size a0 a1 _ hs ha0 ha1 hG1 (blk_new w 215 #[.string (str s), .int .i64 a]) (glob_lt hG))
  have HG := Lib.hid hG
  clear hG hG1
  go_enter Tryz.func153, Tryz.ntmps153
  go_wp2_with fail
  refine HN.out.mono ?_
  intro e w' hp
  unfold WordsPost at hp
  cases hr : rdW s a with
  | error t =>
    rw [hr] at hp
    have hrn : readText s a = none := by simp [readText, hr]
    have HRN := Lib.hid hrn
    clear hr hrn
    cases t
    · obtain ⟨rfl, hgr⟩ := hp
      have hbl' := below_new hgr
      have HW := Lib.hid (wrong_end w' a0 a1 (HG.out.ext hbl'))
      go_wp2_with fail
      refine HW.out.mono ?_
      rintro e w2 ⟨rfl, rfl⟩
      go_wp2_with fail
      go_ret3
      exact ⟨by rw [HRN.out]; rfl, hbl'⟩
    · obtain ⟨rfl, hgr⟩ := hp
      have hbl' := below_new hgr
      have HW := Lib.hid (wrong_form w' a0 a1 (HG.out.ext hbl'))
      go_wp2_with fail
      refine HW.out.mono ?_
      rintro e w2 ⟨rfl, rfl⟩
      go_wp2_with fail
      go_ret3
      exact ⟨by rw [HRN.out]; rfl, hbl'⟩
  | ok p =>
    obtain ⟨t, z⟩ := p
    rw [hr] at hp
    have hrn : readText s a = some (t, z) := by simp [readText, hr]
    have HRN := Lib.hid hrn
    clear hr hrn
    obtain ⟨rfl, hgr, hbk⟩ := hp
    have hbl' := below_new hgr
    have HW := Lib.hid (wrong_nil w' a0 a1 (HG.out.ext hbl'))
    have c1 : w'.cell? ⟨w.heap.size, 0 + 1, none⟩ = some (.int .i64 z) := blk_cells hbk 1
    go_wp2_with fail
    refine HW.out.mono ?_
    rintro e w2 ⟨rfl, rfl⟩
    go_wp2_with fail
    refine wp_region_tail 5 hmix (by kernel_rfl) ?_; simp only [List.take_succ_cons, List.take_zero, List.drop_succ_cons, List.drop_zero]
    iterate 5 still_step
    refine wpStill_nil ?_
    go_wp2_with fail
    go_ret3
    exact ⟨by rw [HRN.out]; rfl, hbl'.drew⟩
end Go.Proofs.YthjphllpkcnehaaGreatDoor
end

section
/- Calls of layer 1 and of the library that are known, as Sh has them. No statement of the program is proved here. -/
namespace Go.Proofs.YthjphllpkcnehaaGreatDoor
open Go Go.RowKit Go.Mor Go.Sh

/-- What is known of the package's variables, at n blocks. -/
structure GlobN (a0 a1 : Addr) (n : Nat) (w : World) : Prop where
  g : Glob w a0 a1
  sz : n ≤ w.heap.size
  h0 : a0.block < n
  h1 : a1.block < n
  hv : 8 ≤ n
def gl (a0 a1 : Addr) (n : Nat) : Sh.Glob where
  G := GlobN a0 a1 n
  n := n
  st := fun w w' h hk => by
    have hv := h.hv
    refine ⟨⟨globU_st h.hv h.g.toGlobU hk, ?_, ?_, h.g.ne, ?_, ?_⟩, size_st h.sz hk, h.h0, h.h1, h.hv⟩
    · rw [World.cell?_of_block (w := w) (hk _ (show 2 < n by omega))]; exact h.g.e0
    · rw [World.cell?_of_block (w := w) (hk _ (show 3 < n by omega))]; exact h.g.e1
    · rw [hk _ h.h0]; exact h.g.b0
    · rw [hk _ h.h1]; exact h.g.b1
  le := fun w h => h.sz
theorem sc_up {a0 a1 : Addr} {m f : Nat} {xs : List TV} {os : List MO} {y : TV} {os' : List MO} (h : SCalls Tryz.prog (gl0 m) f xs os y os') : SCalls Tryz.prog (gl a0 a1 m) f xs os y os' :=
  sc_of (g := gl0 m) (g' := gl a0 a1 m) rfl (fun w (hG : GlobN a0 a1 m w) => (⟨hG.g.toGlobU, hG.sz, hG.hv⟩ : GlobN0 m w)) h
def numTV (r : Option (Int × Int)) : TV := match r with | some (n, b) => .tuple [I n, I b, I 0] | none => .tuple [I 0, I 0, I 10]
def readTV (r : Option (List UInt8 × Int)) : TV := match r with | some (t, b) => .tuple [S (str t), I b, I 0] | none => .tuple [S (str []), I 0, I 10]
def textTV (s : List UInt8) : TV := if s.length ≤ 10000 then .tuple [S (str (text s)), I 0] else .tuple [S (str []), I 10]
/-- What is known of calls of layer 1, and of unicode/utf8. -/
def prim1 : Oracle := fun f xs os =>
  if Nat.beq f 110 then match xs, os with
    | [.pv (.v (.int .i64 x))], [] => if in64 x then some (S (str (num x)), []) else none
    | _, _ => none
  else if Nat.beq f 152 then match xs, os with
    | [.pv (.v (.string s)), .pv (.v (.int .i64 a))], [] => if in64 a && decide ((bl s).length < 1125899906842624) then some (numTV (readNum (bl s) a), []) else none
    | _, _ => none
  else if Nat.beq f 111 then match xs, os with
    | [.pv (.v (.string s))], [] => if decide ((bl s).length ≤ 9223372036854775807) then some (textTV (bl s), []) else none
    | _, _ => none
  else if Nat.beq f 153 then match xs, os with
    | [.pv (.v (.string s)), .pv (.v (.int .i64 a))], [] => if in64 a && decide ((bl s).length < 1125899906842624) then some (readTV (readText (bl s) a), []) else none
    | _, _ => none
  else prim0 f xs os
theorem prim1_sound (a0 a1 : Addr) (n : Nat) : SoundC Tryz.prog (gl a0 a1 n) prim1 := by
  intro f xs os y os' h
  unfold prim1 at h
  split at h
  · rename_i hf
    obtain rfl := Nat.eq_of_beq_eq_true hf
    split at h <;> try (cases h; done)
    rename_i x
    split at h <;> try (cases h; done)
    rename_i hx
    cases h
    obtain ⟨h1, h2⟩ := in64_spec hx
    exact scalls_of (vs := [.int .i64 x]) (body_of (by kernel_rfl)) (fun w E r => .pv (.v _)) (fun w _ => Num_any x h1 h2 w)
  split at h
  · rename_i hf
    obtain rfl := Nat.eq_of_beq_eq_true hf
    split at h <;> try (cases h; done)
    rename_i s a
    split at h <;> try (cases h; done)
    rename_i hx
    cases h
    rw [Bool.and_eq_true] at hx
    obtain ⟨h1, h2⟩ := in64_spec hx.1
    refine scalls_of (vs := [.string s, .int .i64 a]) (v := numRes (readNum (bl s) a)) (body_of (by kernel_rfl)) (fun w E r => ?_) (fun w hG => ?_)
    · generalize readNum (bl s) a = q
      cases q with
      | none => exact relT_vals [_, _, _]
      | some p => exact relT_vals [_, _, _]
    · have := ReadNum_any (bl s) a a0 a1 w (by simpa using hx.2) h1 h2 hG.g
      rw [str_bl] at this; exact this
  split at h
  · rename_i hf
    obtain rfl := Nat.eq_of_beq_eq_true hf
    split at h <;> try (cases h; done)
    rename_i s
    split at h <;> try (cases h; done)
    rename_i hx
    cases h
    refine scalls_of (vs := [.string s]) (v := textRes (bl s)) (body_of (by kernel_rfl)) (fun w E r => ?_) (fun w hG => ?_)
    · unfold textRes textTV
      split <;> exact relT_vals [_, _]
    · have := Text_any (bl s) w (by simpa using hx)
      rw [str_bl] at this; exact this
  split at h
  · rename_i hf
    obtain rfl := Nat.eq_of_beq_eq_true hf
    split at h <;> try (cases h; done)
    rename_i s a
    split at h <;> try (cases h; done)
    rename_i hx
    cases h
    rw [Bool.and_eq_true] at hx
    obtain ⟨h1, h2⟩ := in64_spec hx.1
    refine scalls_of (vs := [.string s, .int .i64 a]) (v := readRes (readText (bl s) a)) (body_of (by kernel_rfl)) (fun w E r => ?_) (fun w hG => ?_)
    · generalize readText (bl s) a = q
      cases q with
      | none => exact relT_vals [_, _, _]
      | some p => exact relT_vals [_, _, _]
    · have := ReadText_any (bl s) a a0 a1 w (by simpa using hx.2) h1 h2 hG.g
      rw [str_bl] at this; exact this
  exact sc_up (prim0_sound n _ _ _ _ _ h)
end Go.Proofs.YthjphllpkcnehaaGreatDoor
end

section
/- All that is known of the package variables. No statement of the program is proved here. -/
namespace Go.Proofs.YthjphllpkcnehaaGreatDoor
open Go Go.RowKit Go.Mor Go.Sh
structure GlobNA (a0 a1 : Addr) (n : Nat) (w : World) : Prop extends GlobN a0 a1 n w where
  t : GlobT w
def glA (a0 a1 : Addr) (n : Nat) : Sh.Glob where
  G := GlobNA a0 a1 n
  n := n
  st := fun w w' h hk => ⟨(gl a0 a1 n).st w w' h.toGlobN hk, globT_st h.hv h.t hk⟩
  le := fun w h => h.sz
theorem sc_1A {a0 a1 : Addr} {m f : Nat} {xs : List TV} {os : List MO} {y : TV} {os' : List MO} (h : SCalls Tryz.prog (gl a0 a1 m) f xs os y os') : SCalls Tryz.prog (glA a0 a1 m) f xs os y os' :=
  sc_of (g := gl a0 a1 m) (g' := glA a0 a1 m) rfl (fun w (hG : GlobNA a0 a1 m w) => hG.toGlobN) h
theorem sc_TA {a0 a1 : Addr} {m f : Nat} {xs : List TV} {os : List MO} {y : TV} {os' : List MO} (h : SCalls Tryz.prog (glT m) f xs os y os') : SCalls Tryz.prog (glA a0 a1 m) f xs os y os' :=
  sc_of (g := glT m) (g' := glA a0 a1 m) rfl (fun w (hG : GlobNA a0 a1 m w) => (⟨⟨hG.g.toGlobU, hG.sz, hG.hv⟩, hG.t⟩ : GlobNT m w)) h
end Go.Proofs.YthjphllpkcnehaaGreatDoor
end

section
/- The listed variables of some cards: what they give, and a world in which they lie so. No statement of the program is proved here. -/
namespace Go.Proofs.YthjphllpkcnehaaGreatDoor
open Go.ChangeShapes Go.WideShapes Go.ChangeAt Go.RowKit Go.Lib Go.Mor Go.Deep
open Go.ChangeMaps (open_string shut_string)
abbrev laidLUTW : List (String × DataW Unit) := [("math/bits.deBruijn32tab", Rows.laid_math_bits_deBruijn32tab), ("math/bits.deBruijn64tab", Rows.laid_math_bits_deBruijn64tab), ("internal/strconv.uint64pow10", Rows.laid_internal_strconv_uint64pow10), ("unicode/utf8.acceptRanges", Rows.laid_unicode_utf8_acceptRanges), ("moraine/wire.errEnd", Rows.laid_moraine_wire_errEnd), ("moraine/wire.errForm", Rows.laid_moraine_wire_errForm), ("unicode/utf8.first", Rows.laid_unicode_utf8_first)]
theorem pow_eq : (Rows.laid_internal_strconv_uint64pow10 : DataW Unit) = Lib.tabData .u64 Lib.pow10Tab := by kernel_rfl
theorem mx_of {W : World} (h : W.ShapedOpen Tryz.prog) : ∃ k, W.cell? ⟨5, 0, none⟩ = some (.int .i64 k) :=
  cell_of_shapedOpen_int (zero := #[.int .i64 0]) (t := 3) h (of_decide_eq_true (by kernel_rfl)) (by kernel_rfl) rfl (by kernel_rfl) (by kernel_rfl) Tryz.underlying3
theorem star : "*" ++ "errors.errorString" = "*errors.errorString" := by decide
theorem rowErr (u : TypeId) (h : Tryz.prog.typeName? 3 u = some "*errors.errorString") : u = 261 :=
  typeName_ptr_named (nm := "errors.errorString") (by rw [star]; kernel_rfl) (by kernel_rfl) (by decide) u (by rw [star]; exact h)
theorem glob_of_laidUTW {W : World} (hL : laidMetH Tryz.prog laidLUTW W) (hsh : W.ShapedOpen Tryz.prog) : ∃ a0 a1, (glA a0 a1 W.heap.size).G W := by
  have hL' : laidMet Tryz.prog laidLUTW W := hL
  have hU := globU_of hL' (.tail _ (.tail _ (.tail _ (.tail _ (.tail _ (.tail _ (.head _))))))) (.tail _ (.tail _ (.tail _ (.head _))))
  have hv := hv_of hsh
  have hT : GlobT W := ⟨Lib.tabIs_of_head pow10_named (t := 237) (by kernel_rfl) Tryz.underlying237 Tryz.underlying212 (by kernel_rfl) (by kernel_rfl) (by have h := hL'.tail.tail; rw [pow_eq] at h; exact h), mx_of hsh⟩
  obtain ⟨a0, a1, s0, s1, c0, c1, t0, t1, hv0, hv1, _, _, _, _, _, _, hne, hb0, hb1⟩ := laid_sentinels2 (g0 := 2) (g1 := 3) (ti := 184) (tp := 261) (te := 283) (ts := 9) hL'.tail.tail.tail.tail (by kernel_rfl) (by kernel_rfl) (by kernel_rfl) (by kernel_rfl)
    Tryz.underlying184 rowErr Tryz.underlying261 Tryz.underlying283 rfl rfl Tryz.underlying9 (by kernel_rfl) (by kernel_rfl)
  have hG : Glob W a0 a1 := by
    refine ⟨hU, ?_, ?_, hne, ⟨c0, t0, hb0⟩, ⟨c1, t1, hb1⟩⟩
    · have := World.var?_cell (g := 2) (by kernel_rfl) hv0 0; simpa using this
    · have := World.var?_cell (g := 3) (by kernel_rfl) hv1 0; simpa using this
  have hN : GlobN a0 a1 W.heap.size W := ⟨hG, Nat.le_refl _, heap_lt hb0, heap_lt hb1, hv⟩
  exact ⟨a0, a1, (⟨hN, hT⟩ : GlobNA a0 a1 W.heap.size W)⟩
theorem laid_metUTW (os : Os) (args : Array Value) : laidMet Tryz.prog laidLUTW ((laidWorld os).forCall (fun _ _ => 0) ⟨#[], args, []⟩).memory :=
  (LaidIn.of_run [6, 7, 4, 1, 2, N0, 3, N0 + 1, 0] 8 (by kernel_rfl) (by kernel_rfl) (by kernel_rfl) (by kernel_rfl)).met
end Go.Proofs.YthjphllpkcnehaaGreatDoor
end

section
/- The code of some functions, as Sh has it (printed by a program). No statement of the program is proved here. -/
namespace Go.Sh.Cd1
open Go Go.Sh
set_option maxRecDepth 100000
-- morainelaw03.awake
abbrev c_morainelaw03_awake_0 : SCode := .reg [([], [⟨(some 0), none, none, .mov (.val (.bool false))⟩])] [0]
abbrev c_morainelaw03_awake_1 : SCode := .reg [([2116, 2117, 2118, 2119, 1], [⟨(some 29), none, none, .call 18 0 [(.val (.string ⟨#[91, 49, 32, 34, 97, 92, 34, 98, 34, 32, 64, 55, 32, 45, 93]⟩)), (.val (.int .i64 0))]⟩, ⟨(some 28), none, none, .mov (.tmp 29)⟩, ⟨(some 30), none, none, .ext (.tmp 28) 0⟩, ⟨(some 31), none, none, .ext (.tmp 28) 1⟩, ⟨(some 32), none, none, .ext (.tmp 28) 2⟩, ⟨(some 1), none, none, .new [(.int .i64 0), (.int .i64 0), (.string ⟨#[]⟩), (.slice none 0 0)]⟩, ⟨none, none, none, .st 4 (.tmp 1) (.tmp 30)⟩, ⟨(some 2), none, none, .mov (.tmp 31)⟩, ⟨(some 3), none, none, .mov (.tmp 32)⟩])] [28, 29, 30, 31, 32]
abbrev c_morainelaw03_awake_2 : SCode := .reg [([2136, 2137, 2138, 2139, 4], [⟨(some 34), none, none, .call 18 0 [(.val (.string ⟨#[120, 45, 53]⟩)), (.val (.int .i64 1))]⟩, ⟨(some 33), none, none, .mov (.tmp 34)⟩, ⟨(some 35), none, none, .ext (.tmp 33) 0⟩, ⟨(some 36), none, none, .ext (.tmp 33) 1⟩, ⟨(some 37), none, none, .ext (.tmp 33) 2⟩, ⟨(some 4), none, none, .new [(.int .i64 0), (.int .i64 0), (.string ⟨#[]⟩), (.slice none 0 0)]⟩, ⟨none, none, none, .st 4 (.tmp 4) (.tmp 35)⟩, ⟨(some 5), none, none, .mov (.tmp 36)⟩, ⟨(some 6), none, none, .mov (.tmp 37)⟩])] [33, 34, 35, 36, 37]
abbrev c_morainelaw03_awake_3 : SCode := .reg [([2156, 2157, 2158, 2159, 7], [⟨(some 39), none, none, .call 18 0 [(.val (.string ⟨#[45, 32, 53]⟩)), (.val (.int .i64 0))]⟩, ⟨(some 38), none, none, .mov (.tmp 39)⟩, ⟨(some 40), none, none, .ext (.tmp 38) 0⟩, ⟨(some 41), none, none, .ext (.tmp 38) 1⟩, ⟨(some 42), none, none, .ext (.tmp 38) 2⟩, ⟨(some 7), none, none, .new [(.int .i64 0), (.int .i64 0), (.string ⟨#[]⟩), (.slice none 0 0)]⟩, ⟨none, none, none, .st 4 (.tmp 7) (.tmp 40)⟩, ⟨(some 8), none, none, .mov (.tmp 41)⟩, ⟨(some 9), none, none, .mov (.tmp 42)⟩])] [7, 38, 39, 40, 41, 42]
abbrev c_morainelaw03_awake_4 : SCode := .reg [([2176, 2177, 2178, 2179, 10], [⟨(some 44), none, none, .call 18 0 [(.val (.string ⟨#[48, 48, 55]⟩)), (.val (.int .i64 0))]⟩, ⟨(some 43), none, none, .mov (.tmp 44)⟩, ⟨(some 45), none, none, .ext (.tmp 43) 0⟩, ⟨(some 46), none, none, .ext (.tmp 43) 1⟩, ⟨(some 47), none, none, .ext (.tmp 43) 2⟩, ⟨(some 10), none, none, .new [(.int .i64 0), (.int .i64 0), (.string ⟨#[]⟩), (.slice none 0 0)]⟩, ⟨none, none, none, .st 4 (.tmp 10) (.tmp 45)⟩, ⟨(some 11), none, none, .mov (.tmp 46)⟩, ⟨(some 12), none, none, .mov (.tmp 47)⟩])] [10, 43, 44, 45, 46, 47]
abbrev c_morainelaw03_awake_5 : SCode := .reg [([2200, 2201, 2202, 2203], [⟨(some 49), none, none, .build [(.int .i64 0), (.int .i64 0), (.string ⟨#[]⟩), (.slice none 0 0)] [(0, 1, (.val (.int .i64 1))), (1, 1, (.val (.int .i64 1)))]⟩, ⟨(some 50), none, none, .call 20 0 [(.tmp 49)]⟩, ⟨(some 48), none, none, .mov (.tmp 50)⟩, ⟨(some 51), none, none, .ext (.tmp 48) 0⟩, ⟨(some 52), none, none, .ext (.tmp 48) 1⟩, ⟨(some 13), none, none, .mov (.tmp 51)⟩, ⟨(some 14), none, none, .mov (.tmp 52)⟩])] [48, 49, 50, 51, 52]
abbrev c_morainelaw03_awake_6 : SCode := .reg [([2216, 2217, 2218, 2219, 15], [⟨(some 54), none, none, .call 21 0 [(.val (.string ⟨#[]⟩)), (.val (.int .i64 0))]⟩, ⟨(some 53), none, none, .mov (.tmp 54)⟩, ⟨(some 55), none, none, .ext (.tmp 53) 0⟩, ⟨(some 56), none, none, .ext (.tmp 53) 1⟩, ⟨(some 57), none, none, .ext (.tmp 53) 2⟩, ⟨(some 15), none, none, .new [(.int .i64 0), (.int .i64 0), (.string ⟨#[]⟩), (.slice none 0 0)]⟩, ⟨none, none, none, .st 4 (.tmp 15) (.tmp 55)⟩, ⟨(some 16), none, none, .mov (.tmp 56)⟩, ⟨(some 17), none, none, .mov (.tmp 57)⟩])] [15, 16, 53, 54, 55, 56, 57]
abbrev c_morainelaw03_awake_7 : SCode := .reg [([2236, 2237, 2238, 2239, 18], [⟨(some 59), none, none, .call 21 0 [(.val (.string ⟨#[12]⟩)), (.val (.int .i64 0))]⟩, ⟨(some 58), none, none, .mov (.tmp 59)⟩, ⟨(some 60), none, none, .ext (.tmp 58) 0⟩, ⟨(some 61), none, none, .ext (.tmp 58) 1⟩, ⟨(some 62), none, none, .ext (.tmp 58) 2⟩, ⟨(some 18), none, none, .new [(.int .i64 0), (.int .i64 0), (.string ⟨#[]⟩), (.slice none 0 0)]⟩, ⟨none, none, none, .st 4 (.tmp 18) (.tmp 60)⟩, ⟨(some 19), none, none, .mov (.tmp 61)⟩, ⟨(some 20), none, none, .mov (.tmp 62)⟩])] [18, 19, 58, 59, 60, 61, 62]
abbrev c_morainelaw03_awake_8 : SCode := .reg [([2256, 2257, 2258, 2259, 21], [⟨(some 64), none, none, .call 18 0 [(.val (.string ⟨#[120]⟩)), (.val (.int .i64 0))]⟩, ⟨(some 63), none, none, .mov (.tmp 64)⟩, ⟨(some 65), none, none, .ext (.tmp 63) 0⟩, ⟨(some 66), none, none, .ext (.tmp 63) 1⟩, ⟨(some 67), none, none, .ext (.tmp 63) 2⟩, ⟨(some 21), none, none, .new [(.int .i64 0), (.int .i64 0), (.string ⟨#[]⟩), (.slice none 0 0)]⟩, ⟨none, none, none, .st 4 (.tmp 21) (.tmp 65)⟩, ⟨(some 22), none, none, .mov (.tmp 66)⟩, ⟨(some 23), none, none, .mov (.tmp 67)⟩])] [21, 63, 64, 65, 66, 67]
abbrev c_morainelaw03_awake_9 : SCode := .reg [([2276, 2277, 2278, 2279, 24], [⟨(some 69), none, none, .call 21 0 [(.val (.string ⟨#[]⟩)), (.val (.int .i64 1))]⟩, ⟨(some 68), none, none, .mov (.tmp 69)⟩, ⟨(some 70), none, none, .ext (.tmp 68) 0⟩, ⟨(some 71), none, none, .ext (.tmp 68) 1⟩, ⟨(some 72), none, none, .ext (.tmp 68) 2⟩, ⟨(some 24), none, none, .new [(.int .i64 0), (.int .i64 0), (.string ⟨#[]⟩), (.slice none 0 0)]⟩, ⟨none, none, none, .st 4 (.tmp 24) (.tmp 70)⟩, ⟨(some 25), none, none, .mov (.tmp 71)⟩, ⟨(some 26), none, none, .mov (.tmp 72)⟩])] [24, 25, 68, 69, 70, 71, 72]
abbrev c_morainelaw03_awake_10 : SCode := .reg [([27], [⟨(some 73), none, none, .build [(.int .i64 0), (.int .i64 0), (.string ⟨#[]⟩), (.slice none 0 0)] [(0, 1, (.val (.int .i64 1))), (1, 1, (.val (.int .i64 1)))]⟩, ⟨(some 74), none, none, .build [(.int .i64 0), (.int .i64 0), (.string ⟨#[]⟩), (.slice none 0 0)] [(0, 1, (.val (.int .i64 2))), (2, 1, (.val (.string ⟨#[97, 34, 98]⟩)))]⟩, ⟨(some 75), none, none, .build [(.int .i64 0), (.int .i64 0), (.string ⟨#[]⟩), (.slice none 0 0)] [(0, 1, (.val (.int .i64 3))), (1, 1, (.val (.int .i64 7)))]⟩, ⟨(some 76), none, none, .build [(.int .i64 0), (.int .i64 0), (.string ⟨#[]⟩), (.slice none 0 0)] []⟩, ⟨(some 77), none, none, .bsl 4 [(.tmp 73), (.tmp 74), (.tmp 75), (.tmp 76)]⟩, ⟨(some 78), none, none, .build [(.int .i64 0), (.int .i64 0), (.string ⟨#[]⟩), (.slice none 0 0)] [(0, 1, (.val (.int .i64 5))), (3, 1, (.tmp 77))]⟩, ⟨(some 27), none, none, .new [(.int .i64 0), (.int .i64 0), (.string ⟨#[]⟩), (.slice none 0 0)]⟩, ⟨none, none, none, .st 4 (.tmp 27) (.tmp 78)⟩])] [73, 74, 75, 76, 77, 78]
abbrev c_morainelaw03_awake_11 : SCode := .reg [([2352, 2353, 2354, 2355, 2404, 2405, 2406, 2407, 2596, 2597, 2598, 2599, 2612, 2613, 2614, 2615, 2636, 2637, 2638, 2639, 2656, 2657, 2658, 2659], [⟨(some 79), none, none, .mov (.tmp 3)⟩, ⟨(some 80), none, none, .bin .eql 28 (.tmp 79) (.val (.int .i64 0))⟩, ⟨(some 81), none, none, .mov (.tmp 80)⟩, ⟨(some 82), (some (81, true)), none, .mov (.tmp 2)⟩, ⟨(some 83), (some (81, true)), none, .bin .eql 3 (.tmp 82) (.val (.int .i64 15))⟩, ⟨(some 84), none, none, .pick (.tmp 81) (.tmp 83) (.val (.bool false))⟩, ⟨(some 85), none, none, .mov (.tmp 84)⟩, ⟨(some 86), (some (85, true)), none, .ld true 4 (.tmp 1)⟩, ⟨(some 87), (some (85, true)), none, .ld true 4 (.tmp 27)⟩, ⟨(some 88), (some (85, true)), none, .call 19 0 [(.tmp 86), (.tmp 87)]⟩, ⟨(some 89), none, none, .pick (.tmp 85) (.tmp 88) (.val (.bool false))⟩, ⟨(some 90), none, none, .mov (.tmp 89)⟩, ⟨(some 91), (some (90, true)), none, .mov (.tmp 6)⟩, ⟨(some 92), (some (90, true)), none, .bin .eql 28 (.tmp 91) (.val (.int .i64 0))⟩, ⟨(some 93), none, none, .pick (.tmp 90) (.tmp 92) (.val (.bool false))⟩, ⟨(some 94), none, none, .mov (.tmp 93)⟩, ⟨(some 95), (some (94, true)), none, .mov (.tmp 5)⟩, ⟨(some 96), (some (94, true)), none, .bin .eql 3 (.tmp 95) (.val (.int .i64 3))⟩, ⟨(some 97), none, none, .pick (.tmp 94) (.tmp 96) (.val (.bool false))⟩, ⟨(some 98), none, none, .mov (.tmp 97)⟩, ⟨(some 99), (some (98, true)), none, .ld true 4 (.tmp 4)⟩, ⟨(some 100), (some (98, true)), none, .build [(.int .i64 0), (.int .i64 0), (.string ⟨#[]⟩), (.slice none 0 0)] [(0, 1, (.val (.int .i64 1))), (1, 1, (.val (.int .i64 (-5))))]⟩, ⟨(some 101), (some (98, true)), none, .call 19 0 [(.tmp 99), (.tmp 100)]⟩, ⟨(some 102), none, none, .pick (.tmp 98) (.tmp 101) (.val (.bool false))⟩, ⟨(some 103), none, none, .mov (.tmp 102)⟩, ⟨(some 104), (some (103, true)), none, .mov (.tmp 9)⟩, ⟨(some 105), (some (103, true)), none, .bin .eql 28 (.tmp 104) (.val (.int .i64 0))⟩, ⟨(some 106), none, none, .pick (.tmp 103) (.tmp 105) (.val (.bool false))⟩, ⟨(some 107), none, none, .mov (.tmp 106)⟩, ⟨(some 108), (some (107, true)), none, .mov (.tmp 8)⟩, ⟨(some 109), (some (107, true)), none, .bin .eql 3 (.tmp 108) (.val (.int .i64 1))⟩, ⟨(some 110), none, none, .pick (.tmp 107) (.tmp 109) (.val (.bool false))⟩, ⟨(some 111), none, none, .mov (.tmp 110)⟩, ⟨(some 112), (some (111, true)), none, .mov (.tmp 12)⟩, ⟨(some 113), (some (111, true)), none, .bin .eql 28 (.tmp 112) (.val (.int .i64 0))⟩, ⟨(some 114), none, none, .pick (.tmp 111) (.tmp 113) (.val (.bool false))⟩, ⟨(some 115), none, none, .mov (.tmp 114)⟩, ⟨(some 116), (some (115, true)), none, .mov (.tmp 11)⟩, ⟨(some 117), (some (115, true)), none, .bin .eql 3 (.tmp 116) (.val (.int .i64 1))⟩, ⟨(some 118), none, none, .pick (.tmp 115) (.tmp 117) (.val (.bool false))⟩, ⟨(some 119), none, none, .mov (.tmp 118)⟩, ⟨(some 120), (some (119, true)), none, .mov (.tmp 14)⟩, ⟨(some 121), (some (119, true)), none, .bin .eql 28 (.tmp 120) (.val (.int .i64 0))⟩, ⟨(some 122), none, none, .pick (.tmp 119) (.tmp 121) (.val (.bool false))⟩, ⟨(some 123), none, none, .mov (.tmp 122)⟩, ⟨(some 124), (some (123, true)), none, .mov (.tmp 13)⟩, ⟨(some 125), (some (123, true)), none, .bin .eql 9 (.tmp 124) (.val (.string ⟨#[2, 2]⟩))⟩, ⟨(some 126), none, none, .pick (.tmp 123) (.tmp 125) (.val (.bool false))⟩, ⟨(some 127), none, none, .mov (.tmp 126)⟩, ⟨(some 128), (some (127, true)), none, .mov (.tmp 17)⟩, ⟨(some 129), (some (127, true)), none, .bin .eql 28 (.tmp 128) (.val (.int .i64 10))⟩, ⟨(some 130), none, none, .pick (.tmp 127) (.tmp 129) (.val (.bool false))⟩, ⟨(some 131), none, none, .mov (.tmp 130)⟩, ⟨(some 132), (some (131, true)), none, .mov (.tmp 20)⟩, ⟨(some 133), (some (131, true)), none, .bin .eql 28 (.tmp 132) (.val (.int .i64 30))⟩, ⟨(some 134), none, none, .pick (.tmp 131) (.tmp 133) (.val (.bool false))⟩, ⟨(some 135), none, none, .mov (.tmp 134)⟩, ⟨(some 136), (some (135, true)), none, .mov (.tmp 22)⟩, ⟨(some 137), (some (135, true)), none, .bin .eql 3 (.tmp 136) (.val (.int .i64 0))⟩, ⟨(some 138), none, none, .pick (.tmp 135) (.tmp 137) (.val (.bool false))⟩, ⟨(some 139), none, none, .mov (.tmp 138)⟩, ⟨(some 140), (some (139, true)), none, .mov (.tmp 23)⟩, ⟨(some 141), (some (139, true)), none, .bin .eql 28 (.tmp 140) (.val (.int .i64 30))⟩, ⟨(some 142), none, none, .pick (.tmp 139) (.tmp 141) (.val (.bool false))⟩, ⟨(some 143), none, none, .mov (.tmp 142)⟩, ⟨(some 144), (some (143, true)), none, .mov (.tmp 26)⟩, ⟨(some 145), (some (143, true)), none, .bin .eql 28 (.tmp 144) (.val (.int .i64 2))⟩, ⟨(some 146), none, none, .pick (.tmp 143) (.tmp 145) (.val (.bool false))⟩, ⟨(some 147), none, none, .mov (.tmp 146)⟩, ⟨(some 148), (some (147, true)), none, .ld true 4 (.tmp 27)⟩, ⟨(some 149), (some (147, true)), none, .call 28 0 [(.tmp 148)]⟩, ⟨(some 150), none, none, .pick (.tmp 147) (.tmp 149) (.val (.bool false))⟩, ⟨(some 151), none, none, .mov (.tmp 150)⟩, ⟨(some 152), (some (151, true)), none, .build [(.int .i64 0), (.int .i64 0), (.string ⟨#[]⟩), (.slice none 0 0)] [(1, 1, (.val (.int .i64 1)))]⟩, ⟨(some 153), (some (151, true)), none, .call 28 0 [(.tmp 152)]⟩, ⟨(some 154), (some (151, true)), none, .un .not (.tmp 153)⟩, ⟨(some 155), none, none, .pick (.tmp 151) (.tmp 154) (.val (.bool false))⟩, ⟨(some 156), none, none, .mov (.tmp 155)⟩, ⟨(some 157), (some (156, true)), none, .ld true 4 (.tmp 27)⟩, ⟨(some 158), (some (156, true)), none, .ld true 4 (.tmp 1)⟩, ⟨(some 159), (some (156, true)), none, .call 34 0 [(.tmp 157), (.tmp 158)]⟩, ⟨(some 160), none, none, .pick (.tmp 156) (.tmp 159) (.val (.bool false))⟩, ⟨(some 161), none, none, .mov (.tmp 160)⟩, ⟨(some 162), (some (161, true)), none, .ld true 4 (.tmp 27)⟩, ⟨(some 163), (some (161, true)), none, .ld true 4 (.tmp 4)⟩, ⟨(some 164), (some (161, true)), none, .call 34 0 [(.tmp 162), (.tmp 163)]⟩, ⟨(some 165), (some (161, true)), none, .un .not (.tmp 164)⟩, ⟨(some 166), none, none, .pick (.tmp 161) (.tmp 165) (.val (.bool false))⟩, ⟨(some 0), none, none, .mov (.tmp 166)⟩])] [1, 2, 3, 4, 5, 6, 8, 9, 11, 12, 13, 14, 17, 20, 22, 23, 26, 27, 79, 80, 81, 82, 83, 84, 85, 86, 87, 88, 89, 90, 91, 92, 93, 94, 95, 96, 97, 98, 99, 100, 101, 102, 103, 104, 105, 106, 107, 108, 109, 110, 111, 112, 113, 114, 115, 116, 117, 118, 119, 120, 121, 122, 123, 124, 125, 126, 127, 128, 129, 130, 131, 132, 133, 134, 135, 136, 137, 138, 139, 140, 141, 142, 143, 144, 145, 146, 147, 148, 149, 150, 151, 152, 153, 154, 155, 156, 157, 158, 159, 160, 161, 162, 163, 164, 165, 166]
abbrev F_morainelaw03_awake : SFunc := ⟨167, (.seq c_morainelaw03_awake_0 (.seq c_morainelaw03_awake_1 (.seq c_morainelaw03_awake_2 (.seq c_morainelaw03_awake_3 (.seq c_morainelaw03_awake_4 (.seq c_morainelaw03_awake_5 (.seq c_morainelaw03_awake_6 (.seq c_morainelaw03_awake_7 (.seq c_morainelaw03_awake_8 (.seq c_morainelaw03_awake_9 (.seq c_morainelaw03_awake_10 (.seq c_morainelaw03_awake_11 .ret)))))))))))), [.tmp 0], false⟩
theorem tf_morainelaw03_awake : transFunc Go.Proofs.Tryz.prog 15 (hintT [(29, 0), (34, 0), (39, 0), (44, 0), (50, 0), (54, 0), (59, 0), (64, 0), (69, 0), (88, 0), (101, 0), (149, 0), (153, 0), (159, 0), (164, 0)]) (fpT []) (killT [(0, [0]), (1, [28, 29, 30, 31, 32]), (2, [33, 34, 35, 36, 37]), (3, [7, 38, 39, 40, 41, 42]), (4, [10, 43, 44, 45, 46, 47]), (5, [48, 49, 50, 51, 52]), (6, [15, 16, 53, 54, 55, 56, 57]), (7, [18, 19, 58, 59, 60, 61, 62]), (8, [21, 63, 64, 65, 66, 67]), (9, [24, 25, 68, 69, 70, 71, 72]), (10, [73, 74, 75, 76, 77, 78]), (11, [1, 2, 3, 4, 5, 6, 8, 9, 11, 12, 13, 14, 17, 20, 22, 23, 26, 27, 79, 80, 81, 82, 83, 84, 85, 86, 87, 88, 89, 90, 91, 92, 93, 94, 95, 96, 97, 98, 99, 100, 101, 102, 103, 104, 105, 106, 107, 108, 109, 110, 111, 112, 113, 114, 115, 116, 117, 118, 119, 120, 121, 122, 123, 124, 125, 126, 127, 128, 129, 130, 131, 132, 133, 134, 135, 136, 137, 138, 139, 140, 141, 142, 143, 144, 145, 146, 147, 148, 149, 150, 151, 152, 153, 154, 155, 156, 157, 158, 159, 160, 161, 162, 163, 164, 165, 166])]) false = some F_morainelaw03_awake := by kernel_rfl
-- morainelaw03.ValOf
abbrev c_morainelaw03_ValOf_0 : SCode := .reg [([1, 2], [⟨(some 1), none, none, .box (.tmp 0)⟩, ⟨(some 2), none, none, .new [(.int .i64 0), (.int .i64 0), (.string ⟨#[]⟩), (.slice none 0 0)]⟩])] [0]
abbrev c_morainelaw03_ValOf_1 : SCode := .reg [([2036, 2037, 2038, 2039], [⟨(some 7), none, none, .fldA 0 (.tmp 1)⟩, ⟨(some 8), none, none, .ld false 1 (.tmp 7)⟩, ⟨(some 9), none, none, .call 52 0 [(.tmp 8), (.val (.int .i64 7))]⟩, ⟨(some 3), none, none, .mov (.tmp 9)⟩])] [7, 8, 9]
abbrev c_morainelaw03_ValOf_2 : SCode := .reg [([], [⟨(some 10), none, none, .mov (.tmp 3)⟩, ⟨(some 11), none, none, .bin .lss 3 (.tmp 10) (.val (.int .i64 5))⟩])] [10]
abbrev c_morainelaw03_ValOf_3 : SCode := .reg [([2072, 2073, 2074, 2075, 4], [⟨(some 12), none, none, .mov (.tmp 3)⟩, ⟨(some 13), none, none, .fldA 1 (.tmp 1)⟩, ⟨(some 14), none, none, .ld false 1 (.tmp 13)⟩, ⟨(some 15), none, none, .fldA 2 (.tmp 1)⟩, ⟨(some 16), none, none, .ld false 1 (.tmp 15)⟩, ⟨(some 17), none, none, .build [(.int .i64 0), (.int .i64 0), (.string ⟨#[]⟩)] [(1, 1, (.tmp 14)), (2, 1, (.tmp 16))]⟩, ⟨(some 18), none, none, .call 53 0 [(.tmp 12), (.tmp 17)]⟩, ⟨(some 4), none, none, .new [(.int .i64 0), (.int .i64 0), (.string ⟨#[]⟩), (.slice none 0 0)]⟩, ⟨none, none, none, .st 4 (.tmp 4) (.tmp 18)⟩])] [3, 11, 12, 13, 14, 15, 16, 17, 18]
abbrev c_morainelaw03_ValOf_4 : SCode := .reg [([2104, 2105, 2106, 2107], [⟨(some 19), none, none, .fldA 0 (.tmp 4)⟩, ⟨(some 20), none, none, .ld false 1 (.tmp 19)⟩, ⟨(some 21), none, none, .bin .geq 3 (.tmp 20) (.val (.int .i64 3))⟩, ⟨(some 22), none, none, .mov (.tmp 21)⟩, ⟨(some 23), (some (22, true)), none, .fldA 0 (.tmp 1)⟩, ⟨(some 24), (some (22, true)), none, .ld false 1 (.tmp 23)⟩, ⟨(some 25), (some (22, true)), none, .bin .quo 3 (.tmp 24) (.val (.int .i64 7))⟩, ⟨(some 26), (some (22, true)), none, .call 52 0 [(.tmp 25), (.val (.int .i64 4))]⟩, ⟨(some 27), (some (22, true)), none, .bin .eql 3 (.tmp 26) (.val (.int .i64 0))⟩, ⟨(some 28), none, none, .pick (.tmp 22) (.tmp 27) (.val (.bool false))⟩])] [19, 20, 21, 22, 23, 24, 25, 26, 27]
abbrev c_morainelaw03_ValOf_5 : SCode := .reg [([2124, 2125, 2126, 2127], [⟨(some 29), none, none, .fldA 1 (.tmp 1)⟩, ⟨(some 30), none, none, .ld false 1 (.tmp 29)⟩, ⟨(some 31), none, none, .call 52 0 [(.tmp 30), (.val (.int .i64 20))]⟩, ⟨(some 32), none, none, .bin .sub 3 (.val (.int .i64 (-1))) (.tmp 31)⟩, ⟨(some 33), none, none, .fldA 1 (.tmp 4)⟩, ⟨none, none, none, .st 1 (.tmp 33) (.tmp 32)⟩])] [1, 28, 29, 30, 31, 32, 33]
abbrev c_morainelaw03_ValOf_6 : SCode := .reg [([], [⟨(some 34), none, none, .ld true 4 (.tmp 4)⟩, ⟨none, none, none, .st 4 (.tmp 2) (.tmp 34)⟩])] [1, 4, 28, 34]
abbrev c_morainelaw03_ValOf_7 : SCode := .reg [([5], [⟨(some 35), none, none, .build [(.int .i64 0), (.int .i64 0), (.string ⟨#[]⟩), (.slice none 0 0)] [(0, 1, (.val (.int .i64 5)))]⟩, ⟨(some 5), none, none, .new [(.int .i64 0), (.int .i64 0), (.string ⟨#[]⟩), (.slice none 0 0)]⟩, ⟨none, none, none, .st 4 (.tmp 5) (.tmp 35)⟩])] [3, 11, 35]
abbrev c_morainelaw03_ValOf_8 : SCode := .reg [([], [⟨(some 6), none, none, .mov (.val (.int .i64 0))⟩])] []
abbrev c_morainelaw03_ValOf_9 : SCode := .reg [([], [⟨(some 36), none, none, .mov (.tmp 6)⟩, ⟨(some 37), none, none, .fldA 3 (.tmp 1)⟩, ⟨(some 38), none, none, .ld false 1 (.tmp 37)⟩, ⟨(some 39), none, none, .len (.tmp 38)⟩, ⟨(some 40), none, none, .bin .lss 3 (.tmp 36) (.tmp 39)⟩, ⟨(some 41), none, none, .mov (.tmp 40)⟩, ⟨(some 42), (some (41, true)), none, .mov (.tmp 6)⟩, ⟨(some 43), (some (41, true)), none, .bin .lss 3 (.tmp 42) (.val (.int .i64 12))⟩, ⟨(some 44), none, none, .pick (.tmp 41) (.tmp 43) (.val (.bool false))⟩])] [36, 37, 38, 39, 40, 41, 42, 43]
abbrev c_morainelaw03_ValOf_10 : SCode := .reg [([2220, 2221, 2222, 2223, 2244, 2245, 2246, 2247], [⟨(some 47), none, none, .fldA 3 (.tmp 5)⟩, ⟨(some 48), none, none, .ld false 1 (.tmp 47)⟩, ⟨(some 49), none, none, .fldA 3 (.tmp 1)⟩, ⟨(some 50), none, none, .ld false 1 (.tmp 49)⟩, ⟨(some 51), none, none, .mov (.tmp 6)⟩, ⟨(some 52), none, none, .idxA 3 (.tmp 50) (.tmp 51)⟩, ⟨(some 53), none, none, .fldA 0 (.tmp 52)⟩, ⟨(some 54), none, none, .ld false 1 (.tmp 53)⟩, ⟨(some 55), none, none, .call 52 0 [(.tmp 54), (.val (.int .i64 5))]⟩, ⟨(some 56), none, none, .fldA 3 (.tmp 1)⟩, ⟨(some 57), none, none, .ld false 1 (.tmp 56)⟩, ⟨(some 58), none, none, .mov (.tmp 6)⟩, ⟨(some 59), none, none, .idxA 3 (.tmp 57) (.tmp 58)⟩, ⟨(some 60), none, none, .ld true 3 (.tmp 59)⟩, ⟨(some 61), none, none, .call 53 0 [(.tmp 55), (.tmp 60)]⟩, ⟨(some 62), none, none, .bsl 4 [(.tmp 61)]⟩, ⟨(some 63), none, none, .app 42 4 56 (.tmp 48) (.tmp 62)⟩, ⟨(some 64), none, none, .fldA 3 (.tmp 5)⟩, ⟨none, none, none, .st 1 (.tmp 64) (.tmp 63)⟩]), ([2220, 2221, 2222, 2223, 2244, 2245, 2246, 2247, 63], [⟨(some 47), none, none, .fldA 3 (.tmp 5)⟩, ⟨(some 48), none, none, .ld false 1 (.tmp 47)⟩, ⟨(some 49), none, none, .fldA 3 (.tmp 1)⟩, ⟨(some 50), none, none, .ld false 1 (.tmp 49)⟩, ⟨(some 51), none, none, .mov (.tmp 6)⟩, ⟨(some 52), none, none, .idxA 3 (.tmp 50) (.tmp 51)⟩, ⟨(some 53), none, none, .fldA 0 (.tmp 52)⟩, ⟨(some 54), none, none, .ld false 1 (.tmp 53)⟩, ⟨(some 55), none, none, .call 52 0 [(.tmp 54), (.val (.int .i64 5))]⟩, ⟨(some 56), none, none, .fldA 3 (.tmp 1)⟩, ⟨(some 57), none, none, .ld false 1 (.tmp 56)⟩, ⟨(some 58), none, none, .mov (.tmp 6)⟩, ⟨(some 59), none, none, .idxA 3 (.tmp 57) (.tmp 58)⟩, ⟨(some 60), none, none, .ld true 3 (.tmp 59)⟩, ⟨(some 61), none, none, .call 53 0 [(.tmp 55), (.tmp 60)]⟩, ⟨(some 62), none, none, .bsl 4 [(.tmp 61)]⟩, ⟨(some 63), none, none, .appN 42 4 56 (.tmp 48) (.tmp 62)⟩, ⟨(some 64), none, none, .fldA 3 (.tmp 5)⟩, ⟨none, none, none, .st 1 (.tmp 64) (.tmp 63)⟩])] [44, 47, 48, 49, 50, 51, 52, 53, 54, 55, 56, 57, 58, 59, 60, 61, 62, 63, 64]
abbrev c_morainelaw03_ValOf_11 : SCode := .reg [([], [⟨(some 45), none, none, .mov (.tmp 6)⟩, ⟨(some 46), none, none, .bin .add 3 (.tmp 45) (.val (.int .i64 1))⟩, ⟨(some 6), none, none, .mov (.tmp 46)⟩])] [45, 46]
abbrev c_morainelaw03_ValOf_12 : SCode := (.seq (.seq c_morainelaw03_ValOf_9 (.cond (.tmp 44) .skip (.exit 0))) (.seq (.block 1 c_morainelaw03_ValOf_10) c_morainelaw03_ValOf_11))
abbrev c_morainelaw03_ValOf_13 : SCode := .reg [([], [⟨(some 65), none, none, .ld true 4 (.tmp 5)⟩, ⟨none, none, none, .st 4 (.tmp 2) (.tmp 65)⟩])] [1, 5, 6, 65]
abbrev F_morainelaw03_ValOf : SFunc := ⟨66, (.seq c_morainelaw03_ValOf_0 (.seq c_morainelaw03_ValOf_1 (.seq (.seq c_morainelaw03_ValOf_2 (.cond (.tmp 11) (.seq c_morainelaw03_ValOf_3 (.seq (.seq c_morainelaw03_ValOf_4 (.cond (.tmp 28) c_morainelaw03_ValOf_5 .skip)) (.seq c_morainelaw03_ValOf_6 .ret))) .skip)) (.seq c_morainelaw03_ValOf_7 (.seq (.seq c_morainelaw03_ValOf_8 (.block 0 (.loop c_morainelaw03_ValOf_12))) (.seq c_morainelaw03_ValOf_13 .ret)))))), [.cell true 4 2], false⟩
theorem tf_morainelaw03_ValOf : transFunc Go.Proofs.Tryz.prog 16 (hintT [(9, 0), (18, 0), (26, 0), (31, 0), (55, 0), (61, 0)]) (fpT []) (killT [(0, [0]), (1, [7, 8, 9]), (2, [10]), (3, [3, 11, 12, 13, 14, 15, 16, 17, 18]), (4, [19, 20, 21, 22, 23, 24, 25, 26, 27]), (5, [1, 28, 29, 30, 31, 32, 33]), (6, [1, 4, 28, 34]), (7, [3, 11, 35]), (9, [36, 37, 38, 39, 40, 41, 42, 43]), (11, [44, 47, 48, 49, 50, 51, 52, 53, 54, 55, 56, 57, 58, 59, 60, 61, 62, 63, 64]), (10, [45, 46]), (12, [1, 5, 6, 65])]) false = some F_morainelaw03_ValOf := by kernel_rfl
-- val.Read
abbrev c_val_Read_0 : SCode := .reg [([4], [⟨(some 4), none, none, .new [(.int .i64 0), (.int .i64 0), (.string ⟨#[]⟩), (.slice none 0 0)]⟩, ⟨(some 5), none, none, .mov (.val (.int .i64 0))⟩, ⟨(some 6), none, none, .mov (.val (.int .i64 0))⟩])] [5, 6]
abbrev c_val_Read_1 : SCode := .reg [([], [⟨(some 11), none, none, .mov (.tmp 1)⟩, ⟨(some 12), none, none, .bin .lss 3 (.tmp 11) (.val (.int .i64 0))⟩, ⟨(some 13), none, none, .mov (.tmp 12)⟩, ⟨(some 14), (some (13, false)), none, .mov (.tmp 1)⟩, ⟨(some 15), (some (13, false)), none, .mov (.tmp 0)⟩, ⟨(some 16), (some (13, false)), none, .slen (.tmp 15)⟩, ⟨(some 17), (some (13, false)), none, .bin .gtr 3 (.tmp 14) (.tmp 16)⟩, ⟨(some 18), none, none, .pick (.tmp 13) (.val (.bool true)) (.tmp 17)⟩])] [11, 12, 13, 14, 15, 16, 17]
abbrev c_val_Read_2 : SCode := .reg [([], [⟨(some 19), none, none, .build [(.int .i64 0), (.int .i64 0), (.string ⟨#[]⟩), (.slice none 0 0)] []⟩, ⟨(some 20), none, none, .mov (.tmp 1)⟩, ⟨none, none, none, .st 4 (.tmp 4) (.tmp 19)⟩, ⟨(some 5), none, none, .mov (.tmp 20)⟩, ⟨(some 6), none, none, .mov (.val (.int .i64 2))⟩])] [0, 1, 18, 19, 20]
abbrev c_val_Read_3 : SCode := .reg [([2092, 2093, 2094, 2095], [⟨(some 21), none, none, .mov (.tmp 0)⟩, ⟨(some 22), none, none, .mov (.tmp 1)⟩, ⟨(some 23), none, none, .call 55 0 [(.tmp 21), (.tmp 22)]⟩, ⟨(some 7), none, none, .mov (.tmp 23)⟩])] [0, 5, 6, 18, 21, 22, 23]
abbrev c_val_Read_4 : SCode := .reg [([2104, 2105, 2106, 2107, 8], [⟨(some 25), none, none, .mov (.tmp 7)⟩, ⟨(some 26), none, none, .callv (.tmp 25) 1 [(.val (.func (.func 56) #[] #[]))]⟩, ⟨(some 24), none, none, .mov (.tmp 26)⟩, ⟨(some 27), none, none, .ext (.tmp 24) 0⟩, ⟨(some 28), none, none, .ext (.tmp 24) 1⟩, ⟨(some 29), none, none, .ext (.tmp 24) 2⟩, ⟨(some 8), none, none, .new [(.int .i64 0), (.int .i64 0), (.string ⟨#[]⟩), (.slice none 0 0)]⟩, ⟨none, none, none, .st 4 (.tmp 8) (.tmp 27)⟩, ⟨(some 9), none, none, .mov (.tmp 28)⟩, ⟨(some 10), none, none, .mov (.tmp 29)⟩])] [24, 25, 26, 27, 28, 29]
abbrev c_val_Read_5 : SCode := .reg [([], [⟨(some 30), none, none, .mov (.tmp 10)⟩, ⟨(some 31), none, none, .mov (.tmp 30)⟩, ⟨(some 32), (some (31, true)), none, .fldA 0 (.tmp 8)⟩, ⟨(some 33), (some (31, true)), none, .ld false 1 (.tmp 32)⟩, ⟨(some 34), (some (31, true)), none, .bin .eql 3 (.tmp 33) (.val (.int .i64 5))⟩, ⟨(some 35), none, none, .pick (.tmp 31) (.tmp 34) (.val (.bool false))⟩])] [30, 31, 32, 33, 34]
abbrev c_val_Read_6 : SCode := .reg [([2152, 2153, 2154, 2155], [⟨(some 37), none, none, .mov (.tmp 7)⟩, ⟨(some 38), none, none, .call 57 1 [(.tmp 37)]⟩, ⟨(some 36), none, none, .mov (.tmp 38)⟩, ⟨(some 39), none, none, .ext (.tmp 36) 0⟩, ⟨(some 40), none, none, .ext (.tmp 36) 1⟩, ⟨(some 41), none, none, .ext (.tmp 36) 2⟩, ⟨(some 42), none, none, .fldA 3 (.tmp 8)⟩, ⟨none, none, none, .st 1 (.tmp 42) (.tmp 39)⟩, ⟨(some 9), none, none, .mov (.tmp 40)⟩, ⟨(some 10), none, none, .mov (.tmp 41)⟩])] [7, 35, 36, 37, 38, 39, 40, 41, 42]
abbrev c_val_Read_7 : SCode := .reg [([], [⟨(some 43), none, none, .mov (.tmp 10)⟩, ⟨(some 44), none, none, .un .not (.tmp 43)⟩])] [7, 10, 35, 43]
abbrev c_val_Read_8 : SCode := .reg [([], [⟨(some 45), none, none, .build [(.int .i64 0), (.int .i64 0), (.string ⟨#[]⟩), (.slice none 0 0)] []⟩, ⟨(some 46), none, none, .mov (.tmp 1)⟩, ⟨none, none, none, .st 4 (.tmp 4) (.tmp 45)⟩, ⟨(some 5), none, none, .mov (.tmp 46)⟩, ⟨(some 6), none, none, .mov (.val (.int .i64 30))⟩])] [1, 8, 9, 44, 45, 46]
abbrev c_val_Read_9 : SCode := .reg [([], [⟨(some 47), none, none, .ld true 4 (.tmp 8)⟩, ⟨(some 48), none, none, .mov (.tmp 9)⟩, ⟨none, none, none, .st 4 (.tmp 4) (.tmp 47)⟩, ⟨(some 5), none, none, .mov (.tmp 48)⟩, ⟨(some 6), none, none, .mov (.val (.int .i64 0))⟩])] [1, 8, 9, 44, 47, 48]
abbrev F_val_Read : SFunc := ⟨49, (.seq c_val_Read_0 (.seq (.seq c_val_Read_1 (.cond (.tmp 18) (.seq c_val_Read_2 .ret) .skip)) (.seq c_val_Read_3 (.seq c_val_Read_4 (.seq (.seq c_val_Read_5 (.cond (.tmp 35) c_val_Read_6 .skip)) (.seq (.seq c_val_Read_7 (.cond (.tmp 44) (.seq c_val_Read_8 .ret) .skip)) (.seq c_val_Read_9 .ret))))))), [.cell true 4 4, .tmp 5, .tmp 6], false⟩
theorem tf_val_Read : transFunc Go.Proofs.Tryz.prog 18 (hintT [(23, 0), (26, 1), (38, 1)]) (fpT []) (killT [(0, [5, 6]), (1, [11, 12, 13, 14, 15, 16, 17]), (2, [0, 1, 18, 19, 20]), (3, [0, 5, 6, 18, 21, 22, 23]), (4, [24, 25, 26, 27, 28, 29]), (5, [30, 31, 32, 33, 34]), (6, [7, 35, 36, 37, 38, 39, 40, 41, 42]), (7, [7, 10, 35, 43]), (8, [1, 8, 9, 44, 45, 46]), (9, [1, 8, 9, 44, 47, 48])]) false = some F_val_Read := by kernel_rfl
-- moraineref03.Same
abbrev c_moraineref03_Same_0 : SCode := .reg [([2, 3], [⟨(some 2), none, none, .box (.tmp 0)⟩, ⟨(some 3), none, none, .box (.tmp 1)⟩, ⟨(some 4), none, none, .mov (.val (.bool false))⟩])] [0, 1, 4]
abbrev c_moraineref03_Same_1 : SCode := .reg [([2028, 2029, 2030, 2031], [⟨(some 5), none, none, .ld true 4 (.tmp 2)⟩, ⟨(some 6), none, none, .ld true 4 (.tmp 3)⟩, ⟨(some 7), none, none, .call 33 0 [(.tmp 5), (.tmp 6)]⟩, ⟨(some 8), none, none, .bin .eql 3 (.tmp 7) (.val (.int .i64 0))⟩, ⟨(some 4), none, none, .mov (.tmp 8)⟩])] [2, 3, 5, 6, 7, 8]
abbrev F_moraineref03_Same : SFunc := ⟨9, (.seq c_moraineref03_Same_0 (.seq c_moraineref03_Same_1 .ret)), [.tmp 4], false⟩
theorem tf_moraineref03_Same : transFunc Go.Proofs.Tryz.prog 19 (hintT [(7, 0)]) (fpT []) (killT [(0, [0, 1, 4]), (1, [2, 3, 5, 6, 7, 8])]) false = some F_moraineref03_Same := by kernel_rfl
-- val.Encode
abbrev c_val_Encode_0 : SCode := .reg [([1], [⟨(some 1), none, none, .box (.tmp 0)⟩, ⟨(some 2), none, none, .mov (.val (.string ⟨#[]⟩))⟩, ⟨(some 3), none, none, .mov (.val (.int .i64 0))⟩])] [0, 2, 3]
abbrev c_val_Encode_1 : SCode := .reg [([2020, 2021, 2022, 2023], [⟨(some 4), none, none, .ld true 4 (.tmp 1)⟩, ⟨(some 5), none, none, .call 28 0 [(.tmp 4)]⟩, ⟨(some 6), none, none, .un .not (.tmp 5)⟩])] [4, 5]
abbrev c_val_Encode_2 : SCode := .reg [([], [⟨(some 2), none, none, .mov (.val (.string ⟨#[]⟩))⟩, ⟨(some 3), none, none, .mov (.val (.int .i64 30))⟩])] [1, 6]
abbrev c_val_Encode_3 : SCode := .reg [([2032, 2033, 2034, 2035], [⟨(some 7), none, none, .ld true 4 (.tmp 1)⟩, ⟨(some 8), none, none, .call 58 2 [(.val (.slice none 0 0)), (.tmp 7)]⟩, ⟨(some 9), none, none, .b2s (.tmp 8)⟩, ⟨(some 2), none, none, .mov (.tmp 9)⟩, ⟨(some 3), none, none, .mov (.val (.int .i64 0))⟩])] [1, 6, 7, 8, 9]
abbrev F_val_Encode : SFunc := ⟨10, (.seq c_val_Encode_0 (.seq (.seq c_val_Encode_1 (.cond (.tmp 6) (.seq c_val_Encode_2 .ret) .skip)) (.seq c_val_Encode_3 .ret))), [.tmp 2, .tmp 3], false⟩
theorem tf_val_Encode : transFunc Go.Proofs.Tryz.prog 20 (hintT [(5, 0), (8, 2)]) (fpT []) (killT [(0, [0, 2, 3]), (1, [4, 5]), (2, [1, 6]), (3, [1, 6, 7, 8, 9])]) false = some F_val_Encode := by kernel_rfl
-- val.Decode
abbrev c_val_Decode_0 : SCode := .reg [([4], [⟨(some 4), none, none, .new [(.int .i64 0), (.int .i64 0), (.string ⟨#[]⟩), (.slice none 0 0)]⟩, ⟨(some 5), none, none, .mov (.val (.int .i64 0))⟩, ⟨(some 6), none, none, .mov (.val (.int .i64 0))⟩])] [5, 6]
abbrev c_val_Decode_1 : SCode := .reg [([], [⟨(some 10), none, none, .mov (.tmp 1)⟩, ⟨(some 11), none, none, .bin .lss 3 (.tmp 10) (.val (.int .i64 0))⟩, ⟨(some 12), none, none, .mov (.tmp 11)⟩, ⟨(some 13), (some (12, false)), none, .mov (.tmp 1)⟩, ⟨(some 14), (some (12, false)), none, .mov (.tmp 0)⟩, ⟨(some 15), (some (12, false)), none, .slen (.tmp 14)⟩, ⟨(some 16), (some (12, false)), none, .bin .gtr 3 (.tmp 13) (.tmp 15)⟩, ⟨(some 17), none, none, .pick (.tmp 12) (.val (.bool true)) (.tmp 16)⟩])] [10, 11, 12, 13, 14, 15, 16]
abbrev c_val_Decode_2 : SCode := .reg [([], [⟨(some 18), none, none, .build [(.int .i64 0), (.int .i64 0), (.string ⟨#[]⟩), (.slice none 0 0)] []⟩, ⟨none, none, none, .st 4 (.tmp 4) (.tmp 18)⟩, ⟨(some 5), none, none, .mov (.val (.int .i64 0))⟩, ⟨(some 6), none, none, .mov (.val (.int .i64 2))⟩])] [0, 1, 17, 18]
abbrev c_val_Decode_3 : SCode := .reg [([7], [⟨(some 19), none, none, .mov (.tmp 0)⟩, ⟨(some 20), none, none, .mov (.tmp 1)⟩, ⟨(some 21), none, none, .build [(.string ⟨#[]⟩), (.int .i64 0)] [(0, 1, (.tmp 19)), (1, 1, (.tmp 20))]⟩, ⟨(some 7), none, none, .new [(.string ⟨#[]⟩), (.int .i64 0)]⟩, ⟨none, none, none, .st 2 (.tmp 7) (.tmp 21)⟩])] [0, 1, 5, 6, 17, 19, 20, 21]
abbrev c_val_Decode_4 : SCode := .reg [([2092, 2093, 2094, 2095, 8], [⟨(some 23), none, none, .call 59 1 [(.tmp 7), (.val (.int .i64 5))]⟩, ⟨(some 22), none, none, .mov (.tmp 23)⟩, ⟨(some 24), none, none, .ext (.tmp 22) 0⟩, ⟨(some 25), none, none, .ext (.tmp 22) 1⟩, ⟨(some 8), none, none, .new [(.int .i64 0), (.int .i64 0), (.string ⟨#[]⟩), (.slice none 0 0)]⟩, ⟨none, none, none, .st 4 (.tmp 8) (.tmp 24)⟩, ⟨(some 9), none, none, .mov (.tmp 25)⟩])] [22, 23, 24, 25]
abbrev c_val_Decode_5 : SCode := .reg [([], [⟨(some 26), none, none, .mov (.tmp 9)⟩, ⟨(some 27), none, none, .bin .neq 28 (.tmp 26) (.val (.int .i64 0))⟩])] [26]
abbrev c_val_Decode_6 : SCode := .reg [([], [⟨(some 28), none, none, .build [(.int .i64 0), (.int .i64 0), (.string ⟨#[]⟩), (.slice none 0 0)] []⟩, ⟨(some 29), none, none, .mov (.tmp 9)⟩, ⟨none, none, none, .st 4 (.tmp 4) (.tmp 28)⟩, ⟨(some 5), none, none, .mov (.val (.int .i64 0))⟩, ⟨(some 6), none, none, .mov (.tmp 29)⟩])] [7, 8, 9, 27, 28, 29]
abbrev c_val_Decode_7 : SCode := .reg [([], [⟨(some 30), none, (some 8), .ld true 4 (.tmp 8)⟩, ⟨(some 31), none, none, .fldA 1 (.tmp 7)⟩, ⟨(some 32), none, (some 7), .ld false 1 (.tmp 31)⟩, ⟨none, none, (some 4), .st 4 (.tmp 4) (.tmp 30)⟩, ⟨(some 5), none, none, .mov (.tmp 32)⟩, ⟨(some 6), none, none, .mov (.val (.int .i64 0))⟩])] [7, 8, 9, 27, 30, 31, 32]
abbrev F_val_Decode : SFunc := ⟨33, (.seq c_val_Decode_0 (.seq (.seq c_val_Decode_1 (.cond (.tmp 17) (.seq c_val_Decode_2 .ret) .skip)) (.seq c_val_Decode_3 (.seq c_val_Decode_4 (.seq (.seq c_val_Decode_5 (.cond (.tmp 27) (.seq c_val_Decode_6 .ret) .skip)) (.seq c_val_Decode_7 .ret)))))), [.cell true 4 4, .tmp 5, .tmp 6], false⟩
theorem tf_val_Decode : transFunc Go.Proofs.Tryz.prog 21 (hintT [(23, 1)]) (fpT [(7, [[(0, 8), (2, 7), (3, 4)]])]) (killT [(0, [5, 6]), (1, [10, 11, 12, 13, 14, 15, 16]), (2, [0, 1, 17, 18]), (3, [0, 1, 5, 6, 17, 19, 20, 21]), (4, [22, 23, 24, 25]), (5, [26]), (6, [7, 8, 9, 27, 28, 29]), (7, [7, 8, 9, 27, 30, 31, 32])]) false = some F_val_Decode := by kernel_rfl
-- morainelaw03.odd
abbrev c_morainelaw03_odd_0 : SCode := .reg [([4, 8], [⟨(some 4), none, none, .box (.tmp 0)⟩, ⟨(some 8), none, none, .new [(.int .i64 0), (.int .i64 0), (.string ⟨#[]⟩), (.slice none 0 0)]⟩])] [0]
abbrev c_morainelaw03_odd_1 : SCode := .reg [([2044, 2045, 2046, 2047], [⟨(some 10), none, none, .mov (.tmp 1)⟩, ⟨(some 11), none, none, .call 52 0 [(.tmp 10), (.val (.int .i64 6))]⟩])] [1, 10]
abbrev c_morainelaw03_odd_2 : SCode := .reg [([], [⟨(some 16), none, none, .bin .eql 3 (.tmp 11) (.val (.int .i64 0))⟩, ⟨(some 15), none, none, .mov (.tmp 16)⟩])] [16]
abbrev c_morainelaw03_odd_3 : SCode := .reg [([], [⟨(some 17), none, none, .mov (.tmp 2)⟩, ⟨(some 18), none, none, .fldA 0 (.tmp 4)⟩, ⟨none, none, none, .st 1 (.tmp 18) (.tmp 17)⟩])] [2, 3, 11, 15, 17, 18]
abbrev c_morainelaw03_odd_4 : SCode := .reg [([], [⟨(some 20), none, none, .bin .eql 3 (.tmp 11) (.val (.int .i64 1))⟩, ⟨(some 19), none, none, .mov (.tmp 20)⟩])] [15, 20]
abbrev c_morainelaw03_odd_5 : SCode := .reg [([], [⟨(some 21), none, none, .mov (.tmp 2)⟩, ⟨(some 22), none, none, .fldA 1 (.tmp 4)⟩, ⟨none, none, none, .st 1 (.tmp 22) (.tmp 21)⟩])] [2, 3, 11, 19, 21, 22]
abbrev c_morainelaw03_odd_6 : SCode := .reg [([], [⟨(some 24), none, none, .bin .eql 3 (.tmp 11) (.val (.int .i64 2))⟩, ⟨(some 23), none, none, .mov (.tmp 24)⟩])] [19, 24]
abbrev c_morainelaw03_odd_7 : SCode := .reg [([], [⟨(some 25), none, none, .mov (.tmp 3)⟩, ⟨(some 26), none, none, .fldA 2 (.tmp 4)⟩, ⟨none, none, none, .st 1 (.tmp 26) (.tmp 25)⟩])] [2, 3, 11, 23, 25, 26]
abbrev c_morainelaw03_odd_8 : SCode := .reg [([], [⟨(some 28), none, none, .bin .eql 3 (.tmp 11) (.val (.int .i64 3))⟩, ⟨(some 27), none, none, .mov (.tmp 28)⟩])] [3, 23, 28]
abbrev c_morainelaw03_odd_9 : SCode := .reg [([31, 2132, 2133, 2134, 2135], [⟨(some 29), none, none, .fldA 3 (.tmp 4)⟩, ⟨(some 30), none, none, .ld false 1 (.tmp 29)⟩, ⟨(some 31), none, none, .appN 42 4 56 (.val (.slice none 0 0)) (.tmp 30)⟩, ⟨(some 32), none, none, .mov (.tmp 2)⟩, ⟨(some 33), none, none, .call 52 0 [(.tmp 32), (.val (.int .i64 7))]⟩, ⟨(some 34), none, none, .mov (.tmp 2)⟩, ⟨(some 35), none, none, .build [(.int .i64 0), (.int .i64 0), (.string ⟨#[]⟩), (.slice none 0 0)] [(0, 1, (.tmp 33)), (1, 1, (.tmp 34))]⟩, ⟨(some 36), none, none, .bsl 4 [(.tmp 35)]⟩, ⟨(some 37), none, none, .app 42 4 56 (.tmp 31) (.tmp 36)⟩, ⟨(some 38), none, none, .fldA 3 (.tmp 4)⟩, ⟨none, none, none, .st 1 (.tmp 38) (.tmp 37)⟩]), ([31, 2132, 2133, 2134, 2135], [⟨(some 29), none, none, .fldA 3 (.tmp 4)⟩, ⟨(some 30), none, none, .ld false 1 (.tmp 29)⟩, ⟨(some 31), none, none, .appN 42 4 56 (.val (.slice none 0 0)) (.tmp 30)⟩, ⟨(some 32), none, none, .mov (.tmp 2)⟩, ⟨(some 33), none, none, .call 52 0 [(.tmp 32), (.val (.int .i64 7))]⟩, ⟨(some 34), none, none, .mov (.tmp 2)⟩, ⟨(some 35), none, none, .build [(.int .i64 0), (.int .i64 0), (.string ⟨#[]⟩), (.slice none 0 0)] [(0, 1, (.tmp 33)), (1, 1, (.tmp 34))]⟩, ⟨(some 36), none, none, .bsl 4 [(.tmp 35)]⟩, ⟨(some 37), none, none, .app 42 4 56 (.tmp 31) (.tmp 36)⟩, ⟨(some 38), none, none, .fldA 3 (.tmp 4)⟩, ⟨none, none, none, .st 1 (.tmp 38) (.tmp 37)⟩])] [2, 11, 27, 29, 30, 31, 32, 33, 34, 35, 36, 37, 38]
abbrev c_morainelaw03_odd_10 : SCode := .reg [([], [⟨(some 40), none, none, .bin .eql 3 (.tmp 11) (.val (.int .i64 4))⟩, ⟨(some 39), none, none, .mov (.tmp 40)⟩])] [11, 27, 40]
abbrev c_morainelaw03_odd_11 : SCode := .reg [([], [⟨(some 9), none, none, .mov (.val (.int .i64 0))⟩])] [39]
abbrev c_morainelaw03_odd_12 : SCode := .reg [([2172, 2173, 2174, 2175], [⟨(some 41), none, none, .mov (.tmp 9)⟩, ⟨(some 42), none, none, .mov (.tmp 2)⟩, ⟨(some 43), none, none, .call 52 0 [(.tmp 42), (.val (.int .i64 14))]⟩, ⟨(some 44), none, none, .bin .lss 3 (.tmp 41) (.tmp 43)⟩])] [41, 42, 43]
abbrev c_morainelaw03_odd_13 : SCode := .reg [([49], [⟨(some 47), none, none, .fldA 3 (.tmp 4)⟩, ⟨(some 48), none, none, .ld false 1 (.tmp 47)⟩, ⟨(some 49), none, none, .appN 42 4 56 (.val (.slice none 0 0)) (.tmp 48)⟩, ⟨(some 50), none, none, .mov (.tmp 9)⟩, ⟨(some 51), none, none, .build [(.int .i64 0), (.int .i64 0), (.string ⟨#[]⟩), (.slice none 0 0)] [(0, 1, (.val (.int .i64 1))), (1, 1, (.tmp 50))]⟩, ⟨(some 52), none, none, .bsl 4 [(.tmp 51)]⟩, ⟨(some 53), none, none, .app 42 4 56 (.tmp 49) (.tmp 52)⟩, ⟨(some 54), none, none, .fldA 3 (.tmp 4)⟩, ⟨none, none, none, .st 1 (.tmp 54) (.tmp 53)⟩]), ([49], [⟨(some 47), none, none, .fldA 3 (.tmp 4)⟩, ⟨(some 48), none, none, .ld false 1 (.tmp 47)⟩, ⟨(some 49), none, none, .appN 42 4 56 (.val (.slice none 0 0)) (.tmp 48)⟩, ⟨(some 50), none, none, .mov (.tmp 9)⟩, ⟨(some 51), none, none, .build [(.int .i64 0), (.int .i64 0), (.string ⟨#[]⟩), (.slice none 0 0)] [(0, 1, (.val (.int .i64 1))), (1, 1, (.tmp 50))]⟩, ⟨(some 52), none, none, .bsl 4 [(.tmp 51)]⟩, ⟨(some 53), none, none, .app 42 4 56 (.tmp 49) (.tmp 52)⟩, ⟨(some 54), none, none, .fldA 3 (.tmp 4)⟩, ⟨none, none, none, .st 1 (.tmp 54) (.tmp 53)⟩])] [44, 47, 48, 49, 50, 51, 52, 53, 54]
abbrev c_morainelaw03_odd_14 : SCode := .reg [([], [⟨(some 45), none, none, .mov (.tmp 9)⟩, ⟨(some 46), none, none, .bin .add 3 (.tmp 45) (.val (.int .i64 1))⟩, ⟨(some 9), none, none, .mov (.tmp 46)⟩])] [45, 46]
abbrev c_morainelaw03_odd_15 : SCode := (.seq (.seq c_morainelaw03_odd_12 (.cond (.tmp 44) .skip (.exit 1))) (.seq (.block 2 c_morainelaw03_odd_13) c_morainelaw03_odd_14))
abbrev c_morainelaw03_odd_16 : SCode := .reg [([], [⟨(some 12), none, none, .ld true 4 (.tmp 4)⟩, ⟨(some 13), none, none, .bsl 4 [(.tmp 12)]⟩, ⟨(some 14), none, none, .fldA 3 (.tmp 4)⟩, ⟨none, none, none, .st 1 (.tmp 14) (.tmp 13)⟩])] [2, 12, 13, 14, 39]
abbrev c_morainelaw03_odd_17 : SCode := .reg [([], [⟨(some 55), none, none, .ld true 4 (.tmp 4)⟩, ⟨none, none, none, .st 4 (.tmp 8) (.tmp 55)⟩])] [2, 4, 9, 55]
abbrev F_morainelaw03_odd : SFunc := ⟨56, (.seq c_morainelaw03_odd_0 (.seq (.seq c_morainelaw03_odd_1 (.block 0 (.seq c_morainelaw03_odd_2 (.cond (.tmp 15) c_morainelaw03_odd_3 (.seq c_morainelaw03_odd_4 (.cond (.tmp 19) c_morainelaw03_odd_5 (.seq c_morainelaw03_odd_6 (.cond (.tmp 23) c_morainelaw03_odd_7 (.seq c_morainelaw03_odd_8 (.cond (.tmp 27) c_morainelaw03_odd_9 (.seq c_morainelaw03_odd_10 (.cond (.tmp 39) (.seq c_morainelaw03_odd_11 (.block 1 (.loop c_morainelaw03_odd_15))) c_morainelaw03_odd_16)))))))))))) (.seq c_morainelaw03_odd_17 .ret))), [.cell true 4 8], false⟩
theorem tf_morainelaw03_odd : transFunc Go.Proofs.Tryz.prog 25 (hintT [(11, 0), (31, 1), (33, 0), (37, 0), (43, 0), (49, 1), (53, 0)]) (fpT []) (killT [(0, [0]), (1, [1, 10]), (3, [16]), (4, [2, 3, 11, 15, 17, 18]), (5, [15, 20]), (6, [2, 3, 11, 19, 21, 22]), (7, [19, 24]), (8, [2, 3, 11, 23, 25, 26]), (9, [3, 23, 28]), (10, [2, 11, 27, 29, 30, 31, 32, 33, 34, 35, 36, 37, 38]), (11, [11, 27, 40]), (12, [39]), (13, [41, 42, 43]), (15, [44, 47, 48, 49, 50, 51, 52, 53, 54]), (14, [45, 46]), (2, [2, 12, 13, 14, 39]), (16, [2, 4, 9, 55])]) false = some F_morainelaw03_odd := by kernel_rfl
-- val.Right
abbrev c_val_Right_0 : SCode := .reg [([1], [⟨(some 1), none, none, .box (.tmp 0)⟩, ⟨(some 2), none, none, .mov (.val (.bool false))⟩])] [0, 2]
abbrev c_val_Right_1 : SCode := .reg [([], [⟨(some 3), none, none, .fldA 0 (.tmp 1)⟩, ⟨(some 4), none, none, .ld false 1 (.tmp 3)⟩])] [3]
abbrev c_val_Right_2 : SCode := .reg [([], [⟨(some 6), none, none, .bin .eql 3 (.tmp 4) (.val (.int .i64 0))⟩, ⟨(some 5), none, none, .mov (.tmp 6)⟩])] [6]
abbrev c_val_Right_3 : SCode := .reg [([2032, 2033, 2034, 2035], [⟨(some 7), none, none, .ld true 4 (.tmp 1)⟩, ⟨(some 8), none, none, .call 63 0 [(.tmp 7)]⟩, ⟨(some 9), none, none, .mov (.tmp 8)⟩, ⟨(some 10), (some (9, true)), none, .fldA 1 (.tmp 1)⟩, ⟨(some 11), (some (9, true)), none, .ld false 1 (.tmp 10)⟩, ⟨(some 12), (some (9, true)), none, .bin .eql 3 (.tmp 11) (.val (.int .i64 0))⟩, ⟨(some 13), none, none, .pick (.tmp 9) (.tmp 12) (.val (.bool false))⟩, ⟨(some 2), none, none, .mov (.tmp 13)⟩])] [1, 4, 5, 7, 8, 9, 10, 11, 12, 13]
abbrev c_val_Right_4 : SCode := .reg [([], [⟨(some 15), none, none, .bin .eql 3 (.tmp 4) (.val (.int .i64 1))⟩, ⟨(some 14), none, none, .mov (.tmp 15)⟩])] [5, 15]
abbrev c_val_Right_5 : SCode := .reg [([2068, 2069, 2070, 2071], [⟨(some 16), none, none, .ld true 4 (.tmp 1)⟩, ⟨(some 17), none, none, .call 63 0 [(.tmp 16)]⟩, ⟨(some 18), none, none, .mov (.tmp 17)⟩, ⟨(some 19), (some (18, true)), none, .fldA 1 (.tmp 1)⟩, ⟨(some 20), (some (18, true)), none, .ld false 1 (.tmp 19)⟩, ⟨(some 21), (some (18, true)), none, .bin .geq 3 (.tmp 20) (.val (.int .i64 (-1000000000000000)))⟩, ⟨(some 22), none, none, .pick (.tmp 18) (.tmp 21) (.val (.bool false))⟩, ⟨(some 23), none, none, .mov (.tmp 22)⟩, ⟨(some 24), (some (23, true)), none, .fldA 1 (.tmp 1)⟩, ⟨(some 25), (some (23, true)), none, .ld false 1 (.tmp 24)⟩, ⟨(some 26), (some (23, true)), none, .bin .leq 3 (.tmp 25) (.val (.int .i64 1000000000000000))⟩, ⟨(some 27), none, none, .pick (.tmp 23) (.tmp 26) (.val (.bool false))⟩, ⟨(some 2), none, none, .mov (.tmp 27)⟩])] [1, 4, 14, 16, 17, 18, 19, 20, 21, 22, 23, 24, 25, 26, 27]
abbrev c_val_Right_6 : SCode := .reg [([], [⟨(some 29), none, none, .bin .eql 3 (.tmp 4) (.val (.int .i64 2))⟩, ⟨(some 28), none, none, .mov (.tmp 29)⟩])] [14, 29]
abbrev c_val_Right_7 : SCode := .reg [([2168, 2169, 2170, 2171], [⟨(some 30), none, none, .fldA 1 (.tmp 1)⟩, ⟨(some 31), none, none, .ld false 1 (.tmp 30)⟩, ⟨(some 32), none, none, .bin .eql 3 (.tmp 31) (.val (.int .i64 0))⟩, ⟨(some 33), none, none, .mov (.tmp 32)⟩, ⟨(some 34), (some (33, true)), none, .fldA 3 (.tmp 1)⟩, ⟨(some 35), (some (33, true)), none, .ld false 1 (.tmp 34)⟩, ⟨(some 36), (some (33, true)), none, .len (.tmp 35)⟩, ⟨(some 37), (some (33, true)), none, .bin .eql 3 (.tmp 36) (.val (.int .i64 0))⟩, ⟨(some 38), none, none, .pick (.tmp 33) (.tmp 37) (.val (.bool false))⟩, ⟨(some 39), none, none, .mov (.tmp 38)⟩, ⟨(some 40), (some (39, true)), none, .fldA 2 (.tmp 1)⟩, ⟨(some 41), (some (39, true)), none, .ld false 1 (.tmp 40)⟩, ⟨(some 42), (some (39, true)), none, .call 64 0 [(.tmp 41)]⟩, ⟨(some 43), none, none, .pick (.tmp 39) (.tmp 42) (.val (.bool false))⟩, ⟨(some 2), none, none, .mov (.tmp 43)⟩])] [1, 4, 28, 30, 31, 32, 33, 34, 35, 36, 37, 38, 39, 40, 41, 42, 43]
abbrev c_val_Right_8 : SCode := .reg [([], [⟨(some 45), none, none, .bin .eql 3 (.tmp 4) (.val (.int .i64 3))⟩, ⟨(some 44), none, none, .mov (.tmp 45)⟩])] [28, 45]
abbrev c_val_Right_9 : SCode := .reg [([], [⟨(some 46), none, none, .bin .eql 3 (.tmp 4) (.val (.int .i64 4))⟩, ⟨(some 44), none, none, .mov (.tmp 46)⟩])] [46]
abbrev c_val_Right_10 : SCode := .reg [([2192, 2193, 2194, 2195, 2208, 2209, 2210, 2211], [⟨(some 47), none, none, .ld true 4 (.tmp 1)⟩, ⟨(some 48), none, none, .call 63 0 [(.tmp 47)]⟩, ⟨(some 49), none, none, .mov (.tmp 48)⟩, ⟨(some 50), (some (49, true)), none, .fldA 1 (.tmp 1)⟩, ⟨(some 51), (some (49, true)), none, .ld false 1 (.tmp 50)⟩, ⟨(some 52), (some (49, true)), none, .call 65 0 [(.tmp 51)]⟩, ⟨(some 53), none, none, .pick (.tmp 49) (.tmp 52) (.val (.bool false))⟩, ⟨(some 2), none, none, .mov (.tmp 53)⟩])] [1, 4, 44, 47, 48, 49, 50, 51, 52, 53]
abbrev c_val_Right_11 : SCode := .reg [([], [⟨(some 55), none, none, .bin .eql 3 (.tmp 4) (.val (.int .i64 5))⟩, ⟨(some 54), none, none, .mov (.tmp 55)⟩])] [4, 44, 55]
abbrev c_val_Right_12 : SCode := .reg [([2292, 2293, 2294, 2295], [⟨(some 56), none, none, .fldA 1 (.tmp 1)⟩, ⟨(some 57), none, none, .ld false 1 (.tmp 56)⟩, ⟨(some 58), none, none, .bin .eql 3 (.tmp 57) (.val (.int .i64 0))⟩, ⟨(some 59), none, none, .mov (.tmp 58)⟩, ⟨(some 60), (some (59, true)), none, .fldA 2 (.tmp 1)⟩, ⟨(some 61), (some (59, true)), none, .ld false 1 (.tmp 60)⟩, ⟨(some 62), (some (59, true)), none, .bin .eql 9 (.tmp 61) (.val (.string ⟨#[]⟩))⟩, ⟨(some 63), none, none, .pick (.tmp 59) (.tmp 62) (.val (.bool false))⟩, ⟨(some 64), none, none, .mov (.tmp 63)⟩, ⟨(some 65), (some (64, true)), none, .fldA 3 (.tmp 1)⟩, ⟨(some 66), (some (64, true)), none, .ld false 1 (.tmp 65)⟩, ⟨(some 67), (some (64, true)), none, .len (.tmp 66)⟩, ⟨(some 68), (some (64, true)), none, .bin .leq 3 (.tmp 67) (.val (.int .i64 12))⟩, ⟨(some 69), none, none, .pick (.tmp 64) (.tmp 68) (.val (.bool false))⟩, ⟨(some 70), none, none, .mov (.tmp 69)⟩, ⟨(some 71), (some (70, true)), none, .fldA 3 (.tmp 1)⟩, ⟨(some 72), (some (70, true)), none, .ld false 1 (.tmp 71)⟩, ⟨(some 73), (some (70, true)), none, .call 66 1 [(.tmp 72), (.val (.func (.func 67) #[] #[]))]⟩, ⟨(some 74), (some (70, true)), none, .un .not (.tmp 73)⟩, ⟨(some 75), none, none, .pick (.tmp 70) (.tmp 74) (.val (.bool false))⟩, ⟨(some 2), none, none, .mov (.tmp 75)⟩])] [1, 54, 56, 57, 58, 59, 60, 61, 62, 63, 64, 65, 66, 67, 68, 69, 70, 71, 72, 73, 74, 75]
abbrev c_val_Right_13 : SCode := .reg [([], [⟨(some 2), none, none, .mov (.val (.bool false))⟩])] [1, 54]
abbrev F_val_Right : SFunc := ⟨76, (.seq c_val_Right_0 (.seq (.seq c_val_Right_1 (.block 0 (.seq c_val_Right_2 (.cond (.tmp 5) (.seq c_val_Right_3 .ret) (.seq c_val_Right_4 (.cond (.tmp 14) (.seq c_val_Right_5 .ret) (.seq c_val_Right_6 (.cond (.tmp 28) (.seq c_val_Right_7 .ret) (.seq (.seq c_val_Right_8 (.cond (.tmp 44) .skip c_val_Right_9)) (.cond (.tmp 44) (.seq c_val_Right_10 .ret) (.seq c_val_Right_11 (.cond (.tmp 54) (.seq c_val_Right_12 .ret) .skip)))))))))))) (.seq c_val_Right_13 .ret))), [.tmp 2], false⟩
theorem tf_val_Right : transFunc Go.Proofs.Tryz.prog 28 (hintT [(8, 0), (17, 0), (42, 0), (48, 0), (52, 0), (73, 1)]) (fpT []) (killT [(0, [0, 2]), (1, [3]), (2, [6]), (3, [1, 4, 5, 7, 8, 9, 10, 11, 12, 13]), (4, [5, 15]), (5, [1, 4, 14, 16, 17, 18, 19, 20, 21, 22, 23, 24, 25, 26, 27]), (6, [14, 29]), (7, [1, 4, 28, 30, 31, 32, 33, 34, 35, 36, 37, 38, 39, 40, 41, 42, 43]), (8, [28, 45]), (9, [46]), (10, [1, 4, 44, 47, 48, 49, 50, 51, 52, 53]), (11, [4, 44, 55]), (12, [1, 54, 56, 57, 58, 59, 60, 61, 62, 63, 64, 65, 66, 67, 68, 69, 70, 71, 72, 73, 74, 75]), (13, [1, 54])]) false = some F_val_Right := by kernel_rfl
-- val.Compare
abbrev c_val_Compare_0 : SCode := .reg [([2, 3], [⟨(some 2), none, none, .box (.tmp 0)⟩, ⟨(some 3), none, none, .box (.tmp 1)⟩, ⟨(some 4), none, none, .mov (.val (.int .i64 0))⟩])] [0, 1, 4]
abbrev c_val_Compare_1 : SCode := .reg [([2048, 2049, 2050, 2051], [⟨(some 8), none, none, .fldA 0 (.tmp 2)⟩, ⟨(some 9), none, none, .ld false 1 (.tmp 8)⟩, ⟨(some 10), none, none, .fldA 0 (.tmp 3)⟩, ⟨(some 11), none, none, .ld false 1 (.tmp 10)⟩, ⟨(some 12), none, none, .call 70 0 [(.tmp 9), (.tmp 11)]⟩, ⟨(some 5), none, none, .mov (.tmp 12)⟩])] [8, 9, 10, 11, 12]
abbrev c_val_Compare_2 : SCode := .reg [([], [⟨(some 13), none, none, .mov (.tmp 5)⟩, ⟨(some 14), none, none, .bin .neq 3 (.tmp 13) (.val (.int .i64 0))⟩])] [13]
abbrev c_val_Compare_3 : SCode := .reg [([], [⟨(some 15), none, none, .mov (.tmp 5)⟩, ⟨(some 4), none, none, .mov (.tmp 15)⟩])] [2, 3, 5, 14, 15]
abbrev c_val_Compare_4 : SCode := .reg [([2080, 2081, 2082, 2083], [⟨(some 16), none, none, .fldA 1 (.tmp 2)⟩, ⟨(some 17), none, none, .ld false 1 (.tmp 16)⟩, ⟨(some 18), none, none, .fldA 1 (.tmp 3)⟩, ⟨(some 19), none, none, .ld false 1 (.tmp 18)⟩, ⟨(some 20), none, none, .call 70 0 [(.tmp 17), (.tmp 19)]⟩, ⟨(some 6), none, none, .mov (.tmp 20)⟩])] [4, 5, 14, 16, 17, 18, 19, 20]
abbrev c_val_Compare_5 : SCode := .reg [([], [⟨(some 21), none, none, .mov (.tmp 6)⟩, ⟨(some 22), none, none, .bin .neq 3 (.tmp 21) (.val (.int .i64 0))⟩])] [21]
abbrev c_val_Compare_6 : SCode := .reg [([], [⟨(some 23), none, none, .mov (.tmp 6)⟩, ⟨(some 4), none, none, .mov (.tmp 23)⟩])] [2, 3, 6, 22, 23]
abbrev c_val_Compare_7 : SCode := .reg [([2112, 2113, 2114, 2115], [⟨(some 24), none, none, .fldA 2 (.tmp 2)⟩, ⟨(some 25), none, none, .ld false 1 (.tmp 24)⟩, ⟨(some 26), none, none, .fldA 2 (.tmp 3)⟩, ⟨(some 27), none, none, .ld false 1 (.tmp 26)⟩, ⟨(some 28), none, none, .call 71 0 [(.tmp 25), (.tmp 27)]⟩, ⟨(some 7), none, none, .mov (.tmp 28)⟩])] [4, 6, 22, 24, 25, 26, 27, 28]
abbrev c_val_Compare_8 : SCode := .reg [([], [⟨(some 29), none, none, .mov (.tmp 7)⟩, ⟨(some 30), none, none, .bin .neq 3 (.tmp 29) (.val (.int .i64 0))⟩])] [29]
abbrev c_val_Compare_9 : SCode := .reg [([], [⟨(some 31), none, none, .mov (.tmp 7)⟩, ⟨(some 4), none, none, .mov (.tmp 31)⟩])] [2, 3, 7, 30, 31]
abbrev c_val_Compare_10 : SCode := .reg [([2144, 2145, 2146, 2147], [⟨(some 32), none, none, .fldA 3 (.tmp 2)⟩, ⟨(some 33), none, none, .ld false 1 (.tmp 32)⟩, ⟨(some 34), none, none, .fldA 3 (.tmp 3)⟩, ⟨(some 35), none, none, .ld false 1 (.tmp 34)⟩, ⟨(some 36), none, none, .call 72 1 [(.tmp 33), (.tmp 35), (.val (.func (.func 32) #[] #[]))]⟩, ⟨(some 4), none, none, .mov (.tmp 36)⟩])] [2, 3, 7, 30, 32, 33, 34, 35, 36]
abbrev F_val_Compare : SFunc := ⟨37, (.seq c_val_Compare_0 (.seq (.seq c_val_Compare_1 (.seq c_val_Compare_2 (.cond (.tmp 14) (.seq c_val_Compare_3 .ret) .skip))) (.seq (.seq c_val_Compare_4 (.seq c_val_Compare_5 (.cond (.tmp 22) (.seq c_val_Compare_6 .ret) .skip))) (.seq (.seq c_val_Compare_7 (.seq c_val_Compare_8 (.cond (.tmp 30) (.seq c_val_Compare_9 .ret) .skip))) (.seq c_val_Compare_10 .ret))))), [.tmp 4], false⟩
theorem tf_val_Compare : transFunc Go.Proofs.Tryz.prog 32 (hintT [(12, 0), (20, 0), (28, 0), (36, 1)]) (fpT []) (killT [(0, [0, 1, 4]), (1, [8, 9, 10, 11, 12]), (2, [13]), (3, [2, 3, 5, 14, 15]), (4, [4, 5, 14, 16, 17, 18, 19, 20]), (5, [21]), (6, [2, 3, 6, 22, 23]), (7, [4, 6, 22, 24, 25, 26, 27, 28]), (8, [29]), (9, [2, 3, 7, 30, 31]), (10, [2, 3, 7, 30, 32, 33, 34, 35, 36])]) false = some F_val_Compare := by kernel_rfl
-- moraineref03.Compare
abbrev c_moraineref03_Compare_0 : SCode := .reg [([2, 3], [⟨(some 2), none, none, .box (.tmp 0)⟩, ⟨(some 3), none, none, .box (.tmp 1)⟩, ⟨(some 4), none, none, .mov (.val (.int .i64 0))⟩])] [0, 1, 4]
abbrev c_moraineref03_Compare_1 : SCode := .reg [([2044, 2045, 2046, 2047], [⟨(some 7), none, none, .fldA 0 (.tmp 2)⟩, ⟨(some 8), none, none, .ld false 1 (.tmp 7)⟩, ⟨(some 9), none, none, .fldA 0 (.tmp 3)⟩, ⟨(some 10), none, none, .ld false 1 (.tmp 9)⟩, ⟨(some 11), none, none, .call 73 0 [(.tmp 8), (.tmp 10)]⟩, ⟨(some 5), none, none, .mov (.tmp 11)⟩])] [7, 8, 9, 10, 11]
abbrev c_moraineref03_Compare_2 : SCode := .reg [([], [⟨(some 12), none, none, .mov (.tmp 5)⟩, ⟨(some 13), none, none, .bin .eql 3 (.tmp 12) (.val (.int .i64 0))⟩])] [12]
abbrev c_moraineref03_Compare_3 : SCode := .reg [([2072, 2073, 2074, 2075], [⟨(some 14), none, none, .fldA 1 (.tmp 2)⟩, ⟨(some 15), none, none, .ld false 1 (.tmp 14)⟩, ⟨(some 16), none, none, .fldA 1 (.tmp 3)⟩, ⟨(some 17), none, none, .ld false 1 (.tmp 16)⟩, ⟨(some 18), none, none, .call 73 0 [(.tmp 15), (.tmp 17)]⟩, ⟨(some 5), none, none, .mov (.tmp 18)⟩])] [13, 14, 15, 16, 17, 18]
abbrev c_moraineref03_Compare_4 : SCode := .reg [([], [⟨(some 19), none, none, .mov (.tmp 5)⟩, ⟨(some 20), none, none, .bin .eql 3 (.tmp 19) (.val (.int .i64 0))⟩, ⟨(some 21), none, none, .mov (.tmp 20)⟩, ⟨(some 22), (some (21, true)), none, .fldA 2 (.tmp 2)⟩, ⟨(some 23), (some (21, true)), none, .ld false 1 (.tmp 22)⟩, ⟨(some 24), (some (21, true)), none, .fldA 2 (.tmp 3)⟩, ⟨(some 25), (some (21, true)), none, .ld false 1 (.tmp 24)⟩, ⟨(some 26), (some (21, true)), none, .bin .lss 9 (.tmp 23) (.tmp 25)⟩, ⟨(some 27), none, none, .pick (.tmp 21) (.tmp 26) (.val (.bool false))⟩])] [13, 19, 20, 21, 22, 23, 24, 25, 26]
abbrev c_moraineref03_Compare_5 : SCode := .reg [([], [⟨(some 5), none, none, .mov (.val (.int .i64 (-1)))⟩])] [27]
abbrev c_moraineref03_Compare_6 : SCode := .reg [([], [⟨(some 28), none, none, .mov (.tmp 5)⟩, ⟨(some 29), none, none, .bin .eql 3 (.tmp 28) (.val (.int .i64 0))⟩, ⟨(some 30), none, none, .mov (.tmp 29)⟩, ⟨(some 31), (some (30, true)), none, .fldA 2 (.tmp 2)⟩, ⟨(some 32), (some (30, true)), none, .ld false 1 (.tmp 31)⟩, ⟨(some 33), (some (30, true)), none, .fldA 2 (.tmp 3)⟩, ⟨(some 34), (some (30, true)), none, .ld false 1 (.tmp 33)⟩, ⟨(some 35), (some (30, true)), none, .bin .gtr 9 (.tmp 32) (.tmp 34)⟩, ⟨(some 36), none, none, .pick (.tmp 30) (.tmp 35) (.val (.bool false))⟩])] [27, 28, 29, 30, 31, 32, 33, 34, 35]
abbrev c_moraineref03_Compare_7 : SCode := .reg [([], [⟨(some 5), none, none, .mov (.val (.int .i64 1))⟩])] [36]
abbrev c_moraineref03_Compare_8 : SCode := .reg [([], [⟨(some 6), none, none, .mov (.val (.int .i64 0))⟩])] [36]
abbrev c_moraineref03_Compare_9 : SCode := .reg [([], [⟨(some 37), none, none, .mov (.tmp 5)⟩, ⟨(some 38), none, none, .bin .eql 3 (.tmp 37) (.val (.int .i64 0))⟩, ⟨(some 39), none, none, .mov (.tmp 38)⟩, ⟨(some 40), (some (39, true)), none, .mov (.tmp 6)⟩, ⟨(some 41), (some (39, true)), none, .fldA 3 (.tmp 2)⟩, ⟨(some 42), (some (39, true)), none, .ld false 1 (.tmp 41)⟩, ⟨(some 43), (some (39, true)), none, .len (.tmp 42)⟩, ⟨(some 44), (some (39, true)), none, .bin .lss 3 (.tmp 40) (.tmp 43)⟩, ⟨(some 45), none, none, .pick (.tmp 39) (.tmp 44) (.val (.bool false))⟩, ⟨(some 46), none, none, .mov (.tmp 45)⟩, ⟨(some 47), (some (46, true)), none, .mov (.tmp 6)⟩, ⟨(some 48), (some (46, true)), none, .fldA 3 (.tmp 3)⟩, ⟨(some 49), (some (46, true)), none, .ld false 1 (.tmp 48)⟩, ⟨(some 50), (some (46, true)), none, .len (.tmp 49)⟩, ⟨(some 51), (some (46, true)), none, .bin .lss 3 (.tmp 47) (.tmp 50)⟩, ⟨(some 52), none, none, .pick (.tmp 46) (.tmp 51) (.val (.bool false))⟩])] [37, 38, 39, 40, 41, 42, 43, 44, 45, 46, 47, 48, 49, 50, 51]
abbrev c_moraineref03_Compare_10 : SCode := .reg [([2260, 2261, 2262, 2263], [⟨(some 55), none, none, .fldA 3 (.tmp 2)⟩, ⟨(some 56), none, none, .ld false 1 (.tmp 55)⟩, ⟨(some 57), none, none, .mov (.tmp 6)⟩, ⟨(some 58), none, none, .idxA 4 (.tmp 56) (.tmp 57)⟩, ⟨(some 59), none, none, .ld true 4 (.tmp 58)⟩, ⟨(some 60), none, none, .fldA 3 (.tmp 3)⟩, ⟨(some 61), none, none, .ld false 1 (.tmp 60)⟩, ⟨(some 62), none, none, .mov (.tmp 6)⟩, ⟨(some 63), none, none, .idxA 4 (.tmp 61) (.tmp 62)⟩, ⟨(some 64), none, none, .ld true 4 (.tmp 63)⟩, ⟨(some 65), none, none, .call 33 0 [(.tmp 59), (.tmp 64)]⟩, ⟨(some 5), none, none, .mov (.tmp 65)⟩])] [52, 55, 56, 57, 58, 59, 60, 61, 62, 63, 64, 65]
abbrev c_moraineref03_Compare_11 : SCode := .reg [([], [⟨(some 53), none, none, .mov (.tmp 6)⟩, ⟨(some 54), none, none, .bin .add 3 (.tmp 53) (.val (.int .i64 1))⟩, ⟨(some 6), none, none, .mov (.tmp 54)⟩])] [53, 54]
abbrev c_moraineref03_Compare_12 : SCode := (.seq (.seq c_moraineref03_Compare_9 (.cond (.tmp 52) .skip (.exit 0))) (.seq (.block 1 c_moraineref03_Compare_10) c_moraineref03_Compare_11))
abbrev c_moraineref03_Compare_13 : SCode := .reg [([], [⟨(some 66), none, none, .mov (.tmp 5)⟩, ⟨(some 67), none, none, .bin .eql 3 (.tmp 66) (.val (.int .i64 0))⟩])] [6, 66]
abbrev c_moraineref03_Compare_14 : SCode := .reg [([2296, 2297, 2298, 2299], [⟨(some 68), none, none, .fldA 3 (.tmp 2)⟩, ⟨(some 69), none, none, .ld false 1 (.tmp 68)⟩, ⟨(some 70), none, none, .len (.tmp 69)⟩, ⟨(some 71), none, none, .fldA 3 (.tmp 3)⟩, ⟨(some 72), none, none, .ld false 1 (.tmp 71)⟩, ⟨(some 73), none, none, .len (.tmp 72)⟩, ⟨(some 74), none, none, .call 73 0 [(.tmp 70), (.tmp 73)]⟩, ⟨(some 4), none, none, .mov (.tmp 74)⟩])] [2, 3, 5, 67, 68, 69, 70, 71, 72, 73, 74]
abbrev c_moraineref03_Compare_15 : SCode := .reg [([], [⟨(some 75), none, none, .mov (.tmp 5)⟩, ⟨(some 4), none, none, .mov (.tmp 75)⟩])] [2, 3, 5, 67, 75]
abbrev F_moraineref03_Compare : SFunc := ⟨76, (.seq c_moraineref03_Compare_0 (.seq c_moraineref03_Compare_1 (.seq (.seq c_moraineref03_Compare_2 (.cond (.tmp 13) c_moraineref03_Compare_3 .skip)) (.seq (.seq c_moraineref03_Compare_4 (.cond (.tmp 27) c_moraineref03_Compare_5 .skip)) (.seq (.seq c_moraineref03_Compare_6 (.cond (.tmp 36) c_moraineref03_Compare_7 .skip)) (.seq (.seq c_moraineref03_Compare_8 (.block 0 (.loop c_moraineref03_Compare_12))) (.seq (.seq c_moraineref03_Compare_13 (.cond (.tmp 67) (.seq c_moraineref03_Compare_14 .ret) .skip)) (.seq c_moraineref03_Compare_15 .ret)))))))), [.tmp 4], false⟩
theorem tf_moraineref03_Compare : transFunc Go.Proofs.Tryz.prog 33 (hintT [(11, 0), (18, 0), (65, 0), (74, 0)]) (fpT []) (killT [(0, [0, 1, 4]), (1, [7, 8, 9, 10, 11]), (2, [12]), (3, [13, 14, 15, 16, 17, 18]), (4, [13, 19, 20, 21, 22, 23, 24, 25, 26]), (5, [27]), (6, [27, 28, 29, 30, 31, 32, 33, 34, 35]), (7, [36]), (8, [36]), (9, [37, 38, 39, 40, 41, 42, 43, 44, 45, 46, 47, 48, 49, 50, 51]), (11, [52, 55, 56, 57, 58, 59, 60, 61, 62, 63, 64, 65]), (10, [53, 54]), (12, [6, 66]), (13, [2, 3, 5, 67, 68, 69, 70, 71, 72, 73, 74]), (14, [2, 3, 5, 67, 75])]) false = some F_moraineref03_Compare := by kernel_rfl
-- val.Same
abbrev c_val_Same_0 : SCode := .reg [([2, 3], [⟨(some 2), none, none, .box (.tmp 0)⟩, ⟨(some 3), none, none, .box (.tmp 1)⟩, ⟨(some 4), none, none, .mov (.val (.bool false))⟩])] [0, 1, 4]
abbrev c_val_Same_1 : SCode := .reg [([2028, 2029, 2030, 2031], [⟨(some 5), none, none, .ld true 4 (.tmp 2)⟩, ⟨(some 6), none, none, .ld true 4 (.tmp 3)⟩, ⟨(some 7), none, none, .call 32 0 [(.tmp 5), (.tmp 6)]⟩, ⟨(some 8), none, none, .bin .eql 3 (.tmp 7) (.val (.int .i64 0))⟩, ⟨(some 4), none, none, .mov (.tmp 8)⟩])] [2, 3, 5, 6, 7, 8]
abbrev F_val_Same : SFunc := ⟨9, (.seq c_val_Same_0 (.seq c_val_Same_1 .ret)), [.tmp 4], false⟩
theorem tf_val_Same : transFunc Go.Proofs.Tryz.prog 34 (hintT [(7, 0)]) (fpT []) (killT [(0, [0, 1, 4]), (1, [2, 3, 5, 6, 7, 8])]) false = some F_val_Same := by kernel_rfl
-- morainelaw03.ValType
abbrev c_morainelaw03_ValType_0 : SCode := .reg [([4], [⟨(some 4), none, none, .new [(.int .i64 0), (.int .i64 0)]⟩])] []
abbrev c_morainelaw03_ValType_1 : SCode := .reg [([2028, 2029, 2030, 2031], [⟨(some 6), none, none, .mov (.tmp 0)⟩, ⟨(some 7), none, none, .call 52 0 [(.tmp 6), (.val (.int .i64 6))]⟩, ⟨(some 8), none, none, .bin .add 3 (.val (.int .i64 1)) (.tmp 7)⟩, ⟨(some 5), none, none, .mov (.tmp 8)⟩])] [0, 6, 7, 8]
abbrev c_morainelaw03_ValType_2 : SCode := .reg [([], [⟨(some 9), none, none, .mov (.tmp 5)⟩, ⟨(some 10), none, none, .bin .lss 3 (.tmp 9) (.val (.int .i64 5))⟩])] [9]
abbrev c_morainelaw03_ValType_3 : SCode := .reg [([], [⟨(some 11), none, none, .mov (.tmp 5)⟩, ⟨(some 12), none, none, .build [(.int .i64 0), (.int .i64 0)] [(0, 1, (.tmp 11))]⟩, ⟨none, none, none, .st 2 (.tmp 4) (.tmp 12)⟩])] [1, 5, 10, 11, 12]
abbrev c_morainelaw03_ValType_4 : SCode := .reg [([2056, 2057, 2058, 2059], [⟨(some 13), none, none, .mov (.tmp 1)⟩, ⟨(some 14), none, none, .call 52 0 [(.tmp 13), (.val (.int .i64 4))]⟩, ⟨(some 15), none, none, .bin .add 3 (.val (.int .i64 1)) (.tmp 14)⟩, ⟨(some 16), none, none, .build [(.int .i64 0), (.int .i64 0)] [(0, 1, (.val (.int .i64 5))), (1, 1, (.tmp 15))]⟩, ⟨none, none, none, .st 2 (.tmp 4) (.tmp 16)⟩])] [1, 5, 10, 13, 14, 15, 16]
abbrev F_morainelaw03_ValType : SFunc := ⟨17, (.seq c_morainelaw03_ValType_0 (.seq c_morainelaw03_ValType_1 (.seq (.seq c_morainelaw03_ValType_2 (.cond (.tmp 10) (.seq c_morainelaw03_ValType_3 .ret) .skip)) (.seq c_morainelaw03_ValType_4 .ret)))), [.cell true 2 4], false⟩
theorem tf_morainelaw03_ValType : transFunc Go.Proofs.Tryz.prog 35 (hintT [(7, 0), (14, 0)]) (fpT []) (killT [(1, [0, 6, 7, 8]), (2, [9]), (3, [1, 5, 10, 11, 12]), (4, [1, 5, 10, 13, 14, 15, 16])]) false = some F_morainelaw03_ValType := by kernel_rfl
-- val.Fits
abbrev c_val_Fits_0 : SCode := .reg [([2, 3], [⟨(some 2), none, none, .box (.tmp 0)⟩, ⟨(some 3), none, none, .box (.tmp 1)⟩, ⟨(some 4), none, none, .mov (.val (.bool false))⟩])] [0, 1, 4]
abbrev c_val_Fits_1 : SCode := .reg [([2024, 2025, 2026, 2027, 2040, 2041, 2042, 2043, 2068, 2069, 2070, 2071], [⟨(some 5), none, none, .ld true 4 (.tmp 2)⟩, ⟨(some 6), none, none, .call 28 0 [(.tmp 5)]⟩, ⟨(some 7), none, none, .un .not (.tmp 6)⟩, ⟨(some 8), none, none, .mov (.tmp 7)⟩, ⟨(some 9), (some (8, false)), none, .ld true 2 (.tmp 3)⟩, ⟨(some 10), (some (8, false)), none, .call 74 0 [(.tmp 9)]⟩, ⟨(some 11), (some (8, false)), none, .un .not (.tmp 10)⟩, ⟨(some 12), none, none, .pick (.tmp 8) (.val (.bool true)) (.tmp 11)⟩, ⟨(some 13), none, none, .mov (.tmp 12)⟩, ⟨(some 14), (some (13, false)), none, .ld true 4 (.tmp 2)⟩, ⟨(some 15), (some (13, false)), none, .fldA 0 (.tmp 3)⟩, ⟨(some 16), (some (13, false)), none, .ld false 1 (.tmp 15)⟩, ⟨(some 17), (some (13, false)), none, .call 75 0 [(.tmp 14), (.tmp 16)]⟩, ⟨(some 18), (some (13, false)), none, .un .not (.tmp 17)⟩, ⟨(some 19), none, none, .pick (.tmp 13) (.val (.bool true)) (.tmp 18)⟩])] [5, 6, 7, 8, 9, 10, 11, 12, 13, 14, 15, 16, 17, 18]
abbrev c_val_Fits_2 : SCode := .reg [([], [⟨(some 4), none, none, .mov (.val (.bool false))⟩])] [2, 3, 19]
abbrev c_val_Fits_3 : SCode := .reg [([2092, 2093, 2094, 2095], [⟨(some 20), none, none, .fldA 3 (.tmp 2)⟩, ⟨(some 21), none, none, .ld false 1 (.tmp 20)⟩, ⟨(some 22), none, none, .mkf (.func 76) [] [(.tmp 3)]⟩, ⟨(some 23), none, none, .call 66 1 [(.tmp 21), (.tmp 22)]⟩, ⟨(some 24), none, none, .un .not (.tmp 23)⟩, ⟨(some 4), none, none, .mov (.tmp 24)⟩])] [2, 3, 19, 20, 21, 22, 23, 24]
abbrev F_val_Fits : SFunc := ⟨25, (.seq c_val_Fits_0 (.seq (.seq c_val_Fits_1 (.cond (.tmp 19) (.seq c_val_Fits_2 .ret) .skip)) (.seq c_val_Fits_3 .ret))), [.tmp 4], false⟩
theorem tf_val_Fits : transFunc Go.Proofs.Tryz.prog 36 (hintT [(6, 0), (10, 0), (17, 0), (23, 1)]) (fpT []) (killT [(0, [0, 1, 4]), (1, [5, 6, 7, 8, 9, 10, 11, 12, 13, 14, 15, 16, 17, 18]), (2, [2, 3, 19]), (3, [2, 3, 19, 20, 21, 22, 23, 24])]) false = some F_val_Fits := by kernel_rfl
-- val.Zero
abbrev c_val_Zero_0 : SCode := .reg [([1, 2], [⟨(some 1), none, none, .box (.tmp 0)⟩, ⟨(some 2), none, none, .new [(.int .i64 0), (.int .i64 0), (.string ⟨#[]⟩), (.slice none 0 0)]⟩])] [0]
abbrev c_val_Zero_1 : SCode := .reg [([2016, 2017, 2018, 2019], [⟨(some 3), none, none, .ld true 2 (.tmp 1)⟩, ⟨(some 4), none, none, .call 74 0 [(.tmp 3)]⟩, ⟨(some 5), none, none, .un .not (.tmp 4)⟩, ⟨(some 6), none, none, .mov (.tmp 5)⟩, ⟨(some 7), (some (6, false)), none, .fldA 0 (.tmp 1)⟩, ⟨(some 8), (some (6, false)), none, .ld false 1 (.tmp 7)⟩, ⟨(some 9), (some (6, false)), none, .bin .eql 3 (.tmp 8) (.val (.int .i64 3))⟩, ⟨(some 10), none, none, .pick (.tmp 6) (.val (.bool true)) (.tmp 9)⟩, ⟨(some 11), none, none, .mov (.tmp 10)⟩, ⟨(some 12), (some (11, false)), none, .fldA 0 (.tmp 1)⟩, ⟨(some 13), (some (11, false)), none, .ld false 1 (.tmp 12)⟩, ⟨(some 14), (some (11, false)), none, .bin .eql 3 (.tmp 13) (.val (.int .i64 4))⟩, ⟨(some 15), none, none, .pick (.tmp 11) (.val (.bool true)) (.tmp 14)⟩])] [3, 4, 5, 6, 7, 8, 9, 10, 11, 12, 13, 14]
abbrev c_val_Zero_2 : SCode := .reg [([], [⟨(some 16), none, none, .build [(.int .i64 0), (.int .i64 0), (.string ⟨#[]⟩), (.slice none 0 0)] []⟩, ⟨none, none, none, .st 4 (.tmp 2) (.tmp 16)⟩])] [1, 15, 16]
abbrev c_val_Zero_3 : SCode := .reg [([], [⟨(some 17), none, none, .fldA 0 (.tmp 1)⟩, ⟨(some 18), none, none, .ld false 1 (.tmp 17)⟩, ⟨(some 19), none, none, .build [(.int .i64 0), (.int .i64 0), (.string ⟨#[]⟩), (.slice none 0 0)] [(0, 1, (.tmp 18))]⟩, ⟨none, none, none, .st 4 (.tmp 2) (.tmp 19)⟩])] [1, 15, 17, 18, 19]
abbrev F_val_Zero : SFunc := ⟨20, (.seq c_val_Zero_0 (.seq (.seq c_val_Zero_1 (.cond (.tmp 15) (.seq c_val_Zero_2 .ret) .skip)) (.seq c_val_Zero_3 .ret))), [.cell true 4 2], false⟩
theorem tf_val_Zero : transFunc Go.Proofs.Tryz.prog 38 (hintT [(4, 0)]) (fpT []) (killT [(0, [0]), (1, [3, 4, 5, 6, 7, 8, 9, 10, 11, 12, 13, 14]), (2, [1, 15, 16]), (3, [1, 15, 17, 18, 19])]) false = some F_val_Zero := by kernel_rfl
-- morainelaw03.pick
abbrev c_morainelaw03_pick_0 : SCode := .reg [([], [⟨(some 4), none, none, .mov (.val (.int .i64 0))⟩])] [4]
abbrev c_morainelaw03_pick_1 : SCode := .reg [([], [⟨(some 5), none, none, .mov (.tmp 0)⟩, ⟨(some 6), none, none, .bin .lss 3 (.tmp 5) (.val (.int .i64 0))⟩])] [5]
abbrev c_morainelaw03_pick_2 : SCode := .reg [([], [⟨(some 7), none, none, .mov (.tmp 0)⟩, ⟨(some 8), none, none, .bin .add 3 (.tmp 7) (.val (.int .i64 1))⟩, ⟨(some 9), none, none, .un .neg (.tmp 8)⟩, ⟨(some 0), none, none, .mov (.tmp 9)⟩])] [6, 7, 8, 9]
abbrev c_morainelaw03_pick_3 : SCode := .reg [([], [⟨(some 10), none, none, .mov (.tmp 0)⟩, ⟨(some 11), none, none, .mov (.tmp 1)⟩, ⟨(some 12), none, none, .bin .rem 3 (.tmp 10) (.tmp 11)⟩, ⟨(some 4), none, none, .mov (.tmp 12)⟩])] [0, 1, 6, 10, 11, 12]
abbrev F_morainelaw03_pick : SFunc := ⟨13, (.seq c_morainelaw03_pick_0 (.seq (.seq c_morainelaw03_pick_1 (.cond (.tmp 6) c_morainelaw03_pick_2 .skip)) (.seq c_morainelaw03_pick_3 .ret))), [.tmp 4], false⟩
theorem tf_morainelaw03_pick : transFunc Go.Proofs.Tryz.prog 52 (hintT []) (fpT []) (killT [(0, [4]), (1, [5]), (2, [6, 7, 8, 9]), (3, [0, 1, 6, 10, 11, 12])]) false = some F_morainelaw03_pick := by kernel_rfl
-- morainelaw03.ValOne
abbrev c_morainelaw03_ValOne_0 : SCode := .reg [([3, 4], [⟨(some 3), none, none, .box (.tmp 1)⟩, ⟨(some 4), none, none, .new [(.int .i64 0), (.int .i64 0), (.string ⟨#[]⟩), (.slice none 0 0)]⟩])] [1]
abbrev c_morainelaw03_ValOne_1 : SCode := .reg [([], [⟨(some 6), none, none, .mov (.tmp 0)⟩])] []
abbrev c_morainelaw03_ValOne_2 : SCode := .reg [([], [⟨(some 8), none, none, .bin .eql 3 (.tmp 6) (.val (.int .i64 1))⟩, ⟨(some 7), none, none, .mov (.tmp 8)⟩])] [8]
abbrev c_morainelaw03_ValOne_3 : SCode := .reg [([], [⟨(some 9), none, none, .fldA 1 (.tmp 3)⟩, ⟨(some 10), none, none, .ld false 1 (.tmp 9)⟩, ⟨(some 5), none, none, .mov (.tmp 10)⟩])] [6, 7, 9, 10]
abbrev c_morainelaw03_ValOne_4 : SCode := .reg [([], [⟨(some 11), none, none, .mov (.tmp 5)⟩, ⟨(some 12), none, none, .bin .lss 3 (.tmp 11) (.val (.int .i64 (-1000000000000000)))⟩, ⟨(some 13), none, none, .mov (.tmp 12)⟩, ⟨(some 14), (some (13, false)), none, .mov (.tmp 5)⟩, ⟨(some 15), (some (13, false)), none, .bin .gtr 3 (.tmp 14) (.val (.int .i64 1000000000000000))⟩, ⟨(some 16), none, none, .pick (.tmp 13) (.val (.bool true)) (.tmp 15)⟩])] [11, 12, 13, 14, 15]
abbrev c_morainelaw03_ValOne_5 : SCode := .reg [([2076, 2077, 2078, 2079], [⟨(some 17), none, none, .fldA 1 (.tmp 3)⟩, ⟨(some 18), none, none, .ld false 1 (.tmp 17)⟩, ⟨(some 19), none, none, .call 52 0 [(.tmp 18), (.val (.int .i64 1000000000000001))]⟩, ⟨(some 5), none, none, .mov (.tmp 19)⟩])] [3, 16, 17, 18, 19]
abbrev c_morainelaw03_ValOne_6 : SCode := .reg [([], [⟨(some 20), none, none, .mov (.tmp 0)⟩, ⟨(some 21), none, none, .mov (.tmp 5)⟩, ⟨(some 22), none, none, .build [(.int .i64 0), (.int .i64 0), (.string ⟨#[]⟩), (.slice none 0 0)] [(0, 1, (.tmp 20)), (1, 1, (.tmp 21))]⟩, ⟨none, none, none, .st 4 (.tmp 4) (.tmp 22)⟩])] [0, 3, 5, 16, 20, 21, 22]
abbrev c_morainelaw03_ValOne_7 : SCode := .reg [([], [⟨(some 24), none, none, .bin .eql 3 (.tmp 6) (.val (.int .i64 2))⟩, ⟨(some 23), none, none, .mov (.tmp 24)⟩])] [7, 24]
abbrev c_morainelaw03_ValOne_8 : SCode := .reg [([2112, 2113, 2114, 2115], [⟨(some 25), none, none, .mov (.tmp 0)⟩, ⟨(some 26), none, none, .fldA 2 (.tmp 3)⟩, ⟨(some 27), none, none, .ld false 1 (.tmp 26)⟩, ⟨(some 28), none, none, .call 103 0 [(.tmp 27)]⟩, ⟨(some 29), none, none, .build [(.int .i64 0), (.int .i64 0), (.string ⟨#[]⟩), (.slice none 0 0)] [(0, 1, (.tmp 25)), (2, 1, (.tmp 28))]⟩, ⟨none, none, none, .st 4 (.tmp 4) (.tmp 29)⟩])] [0, 3, 6, 23, 25, 26, 27, 28, 29]
abbrev c_morainelaw03_ValOne_9 : SCode := .reg [([], [⟨(some 31), none, none, .bin .eql 3 (.tmp 6) (.val (.int .i64 3))⟩, ⟨(some 30), none, none, .mov (.tmp 31)⟩])] [23, 31]
abbrev c_morainelaw03_ValOne_10 : SCode := .reg [([], [⟨(some 32), none, none, .bin .eql 3 (.tmp 6) (.val (.int .i64 4))⟩, ⟨(some 30), none, none, .mov (.tmp 32)⟩])] [6, 32]
abbrev c_morainelaw03_ValOne_11 : SCode := .reg [([2144, 2145, 2146, 2147], [⟨(some 33), none, none, .mov (.tmp 0)⟩, ⟨(some 34), none, none, .fldA 1 (.tmp 3)⟩, ⟨(some 35), none, none, .ld false 1 (.tmp 34)⟩, ⟨(some 36), none, none, .call 52 0 [(.tmp 35), (.val (.int .i64 100000))]⟩, ⟨(some 37), none, none, .bin .add 3 (.val (.int .i64 1)) (.tmp 36)⟩, ⟨(some 38), none, none, .build [(.int .i64 0), (.int .i64 0), (.string ⟨#[]⟩), (.slice none 0 0)] [(0, 1, (.tmp 33)), (1, 1, (.tmp 37))]⟩, ⟨none, none, none, .st 4 (.tmp 4) (.tmp 38)⟩])] [0, 3, 6, 30, 33, 34, 35, 36, 37, 38]
abbrev c_morainelaw03_ValOne_12 : SCode := .reg [([], [⟨(some 39), none, none, .build [(.int .i64 0), (.int .i64 0), (.string ⟨#[]⟩), (.slice none 0 0)] []⟩, ⟨none, none, none, .st 4 (.tmp 4) (.tmp 39)⟩])] [0, 3, 6, 30, 39]
abbrev F_morainelaw03_ValOne : SFunc := ⟨40, (.seq c_morainelaw03_ValOne_0 (.seq (.seq c_morainelaw03_ValOne_1 (.block 0 (.seq c_morainelaw03_ValOne_2 (.cond (.tmp 7) (.seq c_morainelaw03_ValOne_3 (.seq (.seq c_morainelaw03_ValOne_4 (.cond (.tmp 16) c_morainelaw03_ValOne_5 .skip)) (.seq c_morainelaw03_ValOne_6 .ret))) (.seq c_morainelaw03_ValOne_7 (.cond (.tmp 23) (.seq c_morainelaw03_ValOne_8 .ret) (.seq (.seq c_morainelaw03_ValOne_9 (.cond (.tmp 30) .skip c_morainelaw03_ValOne_10)) (.cond (.tmp 30) (.seq c_morainelaw03_ValOne_11 .ret) .skip)))))))) (.seq c_morainelaw03_ValOne_12 .ret))), [.cell true 4 4], false⟩
theorem tf_morainelaw03_ValOne : transFunc Go.Proofs.Tryz.prog 53 (hintT [(19, 0), (28, 0), (36, 0)]) (fpT []) (killT [(0, [1]), (2, [8]), (3, [6, 7, 9, 10]), (4, [11, 12, 13, 14, 15]), (5, [3, 16, 17, 18, 19]), (6, [0, 3, 5, 16, 20, 21, 22]), (7, [7, 24]), (8, [0, 3, 6, 23, 25, 26, 27, 28, 29]), (9, [23, 31]), (10, [6, 32]), (11, [0, 3, 6, 30, 33, 34, 35, 36, 37, 38]), (12, [0, 3, 6, 30, 39])]) false = some F_morainelaw03_ValOne := by kernel_rfl
-- val.reader
abbrev c_val_reader_0 : SCode := .reg [([2, 3], [⟨(some 2), none, none, .box (.tmp 0)⟩, ⟨(some 3), none, none, .box (.tmp 1)⟩, ⟨(some 4), none, none, .mov (.val .nilFunc)⟩])] [0, 1, 4]
abbrev c_val_reader_1 : SCode := .reg [([], [⟨(some 5), none, none, .mkf (.func 104) [] [(.tmp 2), (.tmp 3)]⟩, ⟨(some 4), none, none, .mov (.tmp 5)⟩])] [2, 3, 5]
abbrev F_val_reader : SFunc := ⟨6, (.seq c_val_reader_0 (.seq c_val_reader_1 .ret)), [.tmp 4], false⟩
theorem tf_val_reader : transFunc Go.Proofs.Tryz.prog 55 (hintT []) (fpT []) (killT [(0, [0, 1, 4]), (1, [2, 3, 5])]) false = some F_val_reader := by kernel_rfl
-- val.value
abbrev c_val_value_0 : SCode := .reg [([2], [⟨(some 2), none, none, .new [(.int .i64 0), (.int .i64 0), (.string ⟨#[]⟩), (.slice none 0 0)]⟩, ⟨(some 3), none, none, .mov (.val (.int .i64 0))⟩])] [3]
abbrev c_val_value_1 : SCode := .reg [([4], [⟨(some 6), none, none, .build [(.int .i64 0), (.int .i64 0), (.string ⟨#[]⟩), (.slice none 0 0)] []⟩, ⟨(some 4), none, none, .new [(.int .i64 0), (.int .i64 0), (.string ⟨#[]⟩), (.slice none 0 0)]⟩, ⟨none, none, none, .st 4 (.tmp 4) (.tmp 6)⟩, ⟨(some 5), none, none, .mov (.val (.int .i64 0))⟩])] [5, 6]
abbrev c_val_value_2 : SCode := .reg [([2032, 2033, 2034, 2035], [⟨(some 7), none, none, .mov (.tmp 0)⟩, ⟨(some 8), none, none, .call 105 0 [(.tmp 7)]⟩])] [7]
abbrev c_val_value_3 : SCode := .reg [([], [⟨(some 24), none, none, .bin .eql 21 (.tmp 8) (.val (.int .i32 34))⟩, ⟨(some 23), none, none, .mov (.tmp 24)⟩])] [24]
abbrev c_val_value_4 : SCode := .reg [([], [⟨(some 25), none, none, .fldA 0 (.tmp 4)⟩, ⟨none, none, none, .st 1 (.tmp 25) (.val (.int .i64 2))⟩])] [8, 23, 25]
abbrev c_val_value_5 : SCode := .reg [([2112, 2113, 2114, 2115], [⟨(some 27), none, none, .mov (.tmp 0)⟩, ⟨(some 28), none, none, .call 106 0 [(.tmp 27)]⟩, ⟨(some 26), none, none, .mov (.tmp 28)⟩, ⟨(some 29), none, none, .ext (.tmp 26) 0⟩, ⟨(some 30), none, none, .ext (.tmp 26) 1⟩, ⟨(some 31), none, none, .fldA 2 (.tmp 4)⟩, ⟨none, none, none, .st 1 (.tmp 31) (.tmp 29)⟩, ⟨(some 5), none, none, .mov (.tmp 30)⟩])] [0, 26, 27, 28, 29, 30, 31]
abbrev c_val_value_6 : SCode := .reg [([], [⟨(some 33), none, none, .bin .eql 21 (.tmp 8) (.val (.int .i32 64))⟩, ⟨(some 32), none, none, .mov (.tmp 33)⟩])] [23, 33]
abbrev c_val_value_7 : SCode := .reg [([], [⟨(some 34), none, none, .fldA 0 (.tmp 4)⟩, ⟨none, none, none, .st 1 (.tmp 34) (.val (.int .i64 3))⟩])] [8, 32, 34]
abbrev c_val_value_8 : SCode := .reg [([2148, 2149, 2150, 2151], [⟨(some 36), none, none, .mov (.tmp 0)⟩, ⟨(some 37), none, none, .call 107 0 [(.tmp 36)]⟩, ⟨(some 35), none, none, .mov (.tmp 37)⟩, ⟨(some 38), none, none, .ext (.tmp 35) 0⟩, ⟨(some 39), none, none, .ext (.tmp 35) 1⟩, ⟨(some 40), none, none, .fldA 1 (.tmp 4)⟩, ⟨none, none, none, .st 1 (.tmp 40) (.tmp 38)⟩, ⟨(some 5), none, none, .mov (.tmp 39)⟩])] [0, 35, 36, 37, 38, 39, 40]
abbrev c_val_value_9 : SCode := .reg [([], [⟨(some 42), none, none, .bin .eql 21 (.tmp 8) (.val (.int .i32 126))⟩, ⟨(some 41), none, none, .mov (.tmp 42)⟩])] [32, 42]
abbrev c_val_value_10 : SCode := .reg [([], [⟨(some 43), none, none, .fldA 0 (.tmp 4)⟩, ⟨none, none, none, .st 1 (.tmp 43) (.val (.int .i64 4))⟩])] [8, 41, 43]
abbrev c_val_value_11 : SCode := .reg [([2184, 2185, 2186, 2187], [⟨(some 45), none, none, .mov (.tmp 0)⟩, ⟨(some 46), none, none, .call 107 0 [(.tmp 45)]⟩, ⟨(some 44), none, none, .mov (.tmp 46)⟩, ⟨(some 47), none, none, .ext (.tmp 44) 0⟩, ⟨(some 48), none, none, .ext (.tmp 44) 1⟩, ⟨(some 49), none, none, .fldA 1 (.tmp 4)⟩, ⟨none, none, none, .st 1 (.tmp 49) (.tmp 47)⟩, ⟨(some 5), none, none, .mov (.tmp 48)⟩])] [0, 44, 45, 46, 47, 48, 49]
abbrev c_val_value_12 : SCode := .reg [([], [⟨(some 51), none, none, .bin .eql 21 (.tmp 8) (.val (.int .i32 91))⟩, ⟨(some 50), none, none, .mov (.tmp 51)⟩])] [8, 41, 51]
abbrev c_val_value_13 : SCode := .reg [([], [⟨(some 52), none, none, .fldA 0 (.tmp 4)⟩, ⟨none, none, none, .st 1 (.tmp 52) (.val (.int .i64 5))⟩, ⟨(some 5), none, none, .mov (.val (.int .i64 1))⟩])] [0, 50, 52]
abbrev c_val_value_14 : SCode := .reg [([2044, 2045, 2046, 2047], [⟨(some 10), none, none, .mov (.tmp 0)⟩, ⟨(some 11), none, none, .call 108 0 [(.tmp 10), (.val (.int .i64 (-1000000000000000))), (.val (.int .i64 1000000000000000))]⟩, ⟨(some 9), none, none, .mov (.tmp 11)⟩, ⟨(some 12), none, none, .ext (.tmp 9) 0⟩, ⟨(some 13), none, none, .ext (.tmp 9) 1⟩, ⟨(some 14), none, none, .fldA 1 (.tmp 4)⟩, ⟨none, none, none, .st 1 (.tmp 14) (.tmp 12)⟩, ⟨(some 5), none, none, .mov (.tmp 13)⟩])] [9, 10, 11, 12, 13, 14, 50]
abbrev c_val_value_15 : SCode := .reg [([], [⟨(some 15), none, none, .mov (.tmp 5)⟩, ⟨(some 16), none, none, .bin .eql 3 (.tmp 15) (.val (.int .i64 0))⟩])] [15]
abbrev c_val_value_16 : SCode := .reg [([2068, 2069, 2070, 2071, 2076, 2077, 2078, 2079], [⟨(some 17), none, none, .call 109 0 [(.val (.int .i32 45))]⟩, ⟨(some 18), none, none, .mov (.tmp 0)⟩, ⟨(some 19), none, none, .callv (.tmp 17) 1 [(.tmp 18)]⟩, ⟨(some 20), none, none, .ext (.tmp 19) 0⟩, ⟨(some 21), none, none, .ext (.tmp 19) 1⟩, ⟨none, none, none, .st 4 (.tmp 2) (.tmp 20)⟩, ⟨(some 3), none, none, .mov (.tmp 21)⟩])] [0, 4, 5, 16, 17, 18, 19, 20, 21]
abbrev c_val_value_17 : SCode := .reg [([], [⟨(some 22), none, none, .fldA 0 (.tmp 4)⟩, ⟨none, none, none, .st 1 (.tmp 22) (.val (.int .i64 1))⟩])] [0, 3, 16, 22]
abbrev c_val_value_18 : SCode := .reg [([], [⟨(some 53), none, none, .ld true 4 (.tmp 4)⟩, ⟨(some 54), none, none, .mov (.tmp 5)⟩, ⟨none, none, none, .st 4 (.tmp 2) (.tmp 53)⟩, ⟨(some 3), none, none, .mov (.tmp 54)⟩])] [4, 5, 53, 54]
abbrev F_val_value : SFunc := ⟨55, (.seq c_val_value_0 (.seq c_val_value_1 (.seq (.seq c_val_value_2 (.block 0 (.seq c_val_value_3 (.cond (.tmp 23) (.seq c_val_value_4 c_val_value_5) (.seq c_val_value_6 (.cond (.tmp 32) (.seq c_val_value_7 c_val_value_8) (.seq c_val_value_9 (.cond (.tmp 41) (.seq c_val_value_10 c_val_value_11) (.seq c_val_value_12 (.cond (.tmp 50) c_val_value_13 (.seq c_val_value_14 (.seq (.seq c_val_value_15 (.cond (.tmp 16) (.seq c_val_value_16 .ret) .skip)) c_val_value_17)))))))))))) (.seq c_val_value_18 .ret)))), [.cell true 4 2, .tmp 3], false⟩
theorem tf_val_value : transFunc Go.Proofs.Tryz.prog 56 (hintT [(8, 0), (28, 0), (37, 0), (46, 0), (11, 0), (17, 0), (19, 1)]) (fpT []) (killT [(0, [3]), (1, [5, 6]), (2, [7]), (7, [24]), (8, [8, 23, 25]), (9, [0, 26, 27, 28, 29, 30, 31]), (10, [23, 33]), (11, [8, 32, 34]), (12, [0, 35, 36, 37, 38, 39, 40]), (13, [32, 42]), (14, [8, 41, 43]), (15, [0, 44, 45, 46, 47, 48, 49]), (16, [8, 41, 51]), (17, [0, 50, 52]), (3, [9, 10, 11, 12, 13, 14, 50]), (4, [15]), (5, [0, 4, 5, 16, 17, 18, 19, 20, 21]), (6, [0, 3, 16, 22]), (18, [4, 5, 53, 54])]) false = some F_val_value := by kernel_rfl
-- val.items
abbrev c_val_items_0 : SCode := .reg [([], [⟨(some 2), none, none, .mov (.val (.slice none 0 0))⟩, ⟨(some 3), none, none, .mov (.val (.int .i64 0))⟩, ⟨(some 4), none, none, .mov (.val (.bool false))⟩])] [2, 3, 4]
abbrev c_val_items_1 : SCode := .reg [([], [⟨(some 5), none, none, .mov (.val (.slice none 0 0))⟩])] []
abbrev c_val_items_2 : SCode := .reg [([2068, 2069, 2070, 2071, 2072, 2073, 2074, 2075, 6], [⟨(some 16), none, none, .mov (.tmp 0)⟩, ⟨(some 17), none, none, .call 109 0 [(.val (.int .i32 93))]⟩, ⟨(some 18), none, none, .callv (.tmp 16) 1 [(.tmp 17)]⟩, ⟨(some 15), none, none, .mov (.tmp 18)⟩, ⟨(some 19), none, none, .ext (.tmp 15) 0⟩, ⟨(some 20), none, none, .ext (.tmp 15) 1⟩, ⟨(some 21), none, none, .ext (.tmp 15) 2⟩, ⟨(some 6), none, none, .new [(.int .i64 0), (.int .i64 0), (.string ⟨#[]⟩), (.slice none 0 0)]⟩, ⟨none, none, none, .st 4 (.tmp 6) (.tmp 19)⟩, ⟨(some 7), none, none, .mov (.tmp 20)⟩, ⟨(some 8), none, none, .mov (.tmp 21)⟩])] [6, 15, 16, 17, 18, 19, 20, 21]
abbrev c_val_items_3 : SCode := .reg [([], [⟨(some 22), none, none, .mov (.tmp 8)⟩])] [8]
abbrev c_val_items_4 : SCode := .reg [([], [⟨(some 23), none, none, .mov (.tmp 5)⟩, ⟨(some 24), none, none, .mov (.tmp 7)⟩, ⟨(some 2), none, none, .mov (.tmp 23)⟩, ⟨(some 3), none, none, .mov (.tmp 24)⟩, ⟨(some 4), none, none, .mov (.val (.bool true))⟩])] [0, 5, 7, 22, 23, 24]
abbrev c_val_items_5 : SCode := .reg [([], [⟨(some 25), none, none, .mov (.tmp 5)⟩, ⟨(some 26), none, none, .len (.tmp 25)⟩, ⟨(some 27), none, none, .bin .gtr 3 (.tmp 26) (.val (.int .i64 0))⟩])] [2, 3, 4, 7, 22, 25, 26]
abbrev c_val_items_6 : SCode := .reg [([2120, 2121, 2122, 2123, 2124, 2125, 2126, 2127, 9], [⟨(some 29), none, none, .mov (.tmp 0)⟩, ⟨(some 30), none, none, .call 109 0 [(.val (.int .i32 32))]⟩, ⟨(some 31), none, none, .callv (.tmp 29) 1 [(.tmp 30)]⟩, ⟨(some 28), none, none, .mov (.tmp 31)⟩, ⟨(some 32), none, none, .ext (.tmp 28) 0⟩, ⟨(some 33), none, none, .ext (.tmp 28) 1⟩, ⟨(some 34), none, none, .ext (.tmp 28) 2⟩, ⟨(some 9), none, none, .new [(.int .i64 0), (.int .i64 0), (.string ⟨#[]⟩), (.slice none 0 0)]⟩, ⟨none, none, none, .st 4 (.tmp 9) (.tmp 32)⟩, ⟨(some 10), none, none, .mov (.tmp 33)⟩, ⟨(some 11), none, none, .mov (.tmp 34)⟩])] [9, 10, 27, 28, 29, 30, 31, 32, 33, 34]
abbrev c_val_items_7 : SCode := .reg [([], [⟨(some 35), none, none, .mov (.tmp 11)⟩, ⟨(some 36), none, none, .un .not (.tmp 35)⟩])] [11, 35]
abbrev c_val_items_8 : SCode := .reg [([], [⟨(some 2), none, none, .mov (.val (.slice none 0 0))⟩, ⟨(some 3), none, none, .mov (.val (.int .i64 0))⟩, ⟨(some 4), none, none, .mov (.val (.bool false))⟩])] [0, 5, 36]
abbrev c_val_items_9 : SCode := .reg [([2156, 2157, 2158, 2159, 12], [⟨(some 38), none, none, .mov (.tmp 0)⟩, ⟨(some 39), none, none, .callv (.tmp 38) 1 [(.val (.func (.func 56) #[] #[]))]⟩, ⟨(some 37), none, none, .mov (.tmp 39)⟩, ⟨(some 40), none, none, .ext (.tmp 37) 0⟩, ⟨(some 41), none, none, .ext (.tmp 37) 1⟩, ⟨(some 42), none, none, .ext (.tmp 37) 2⟩, ⟨(some 12), none, none, .new [(.int .i64 0), (.int .i64 0), (.string ⟨#[]⟩), (.slice none 0 0)]⟩, ⟨none, none, none, .st 4 (.tmp 12) (.tmp 40)⟩, ⟨(some 13), none, none, .mov (.tmp 41)⟩, ⟨(some 14), none, none, .mov (.tmp 42)⟩])] [2, 3, 4, 13, 27, 36, 37, 38, 39, 40, 41, 42]
abbrev c_val_items_10 : SCode := .reg [([], [⟨(some 43), none, none, .mov (.tmp 14)⟩, ⟨(some 44), none, none, .un .not (.tmp 43)⟩, ⟨(some 45), none, none, .mov (.tmp 44)⟩, ⟨(some 46), (some (45, false)), none, .fldA 0 (.tmp 12)⟩, ⟨(some 47), (some (45, false)), none, .ld false 1 (.tmp 46)⟩, ⟨(some 48), (some (45, false)), none, .bin .eql 3 (.tmp 47) (.val (.int .i64 5))⟩, ⟨(some 49), none, none, .pick (.tmp 45) (.val (.bool true)) (.tmp 48)⟩, ⟨(some 50), none, none, .mov (.tmp 49)⟩, ⟨(some 51), (some (50, false)), none, .mov (.tmp 5)⟩, ⟨(some 52), (some (50, false)), none, .len (.tmp 51)⟩, ⟨(some 53), (some (50, false)), none, .bin .eql 3 (.tmp 52) (.val (.int .i64 12))⟩, ⟨(some 54), none, none, .pick (.tmp 50) (.val (.bool true)) (.tmp 53)⟩])] [14, 43, 44, 45, 46, 47, 48, 49, 50, 51, 52, 53]
abbrev c_val_items_11 : SCode := .reg [([], [⟨(some 2), none, none, .mov (.val (.slice none 0 0))⟩, ⟨(some 3), none, none, .mov (.val (.int .i64 0))⟩, ⟨(some 4), none, none, .mov (.val (.bool false))⟩])] [0, 5, 12, 54]
abbrev c_val_items_12 : SCode := .reg [([], [⟨(some 55), none, none, .mov (.tmp 5)⟩, ⟨(some 56), none, none, .ld true 4 (.tmp 12)⟩, ⟨(some 57), none, none, .bsl 4 [(.tmp 56)]⟩, ⟨(some 58), none, none, .app 42 4 56 (.tmp 55) (.tmp 57)⟩, ⟨(some 5), none, none, .mov (.tmp 58)⟩]), ([58], [⟨(some 55), none, none, .mov (.tmp 5)⟩, ⟨(some 56), none, none, .ld true 4 (.tmp 12)⟩, ⟨(some 57), none, none, .bsl 4 [(.tmp 56)]⟩, ⟨(some 58), none, none, .appN 42 4 56 (.tmp 55) (.tmp 57)⟩, ⟨(some 5), none, none, .mov (.tmp 58)⟩])] [2, 3, 4, 12, 54, 55, 56, 57, 58]
abbrev c_val_items_13 : SCode := (.block 1 (.seq (.seq c_val_items_2 (.seq c_val_items_3 (.cond (.tmp 22) (.seq c_val_items_4 .ret) .skip))) (.seq (.seq c_val_items_5 (.cond (.tmp 27) (.seq c_val_items_6 (.seq c_val_items_7 (.cond (.tmp 36) (.seq c_val_items_8 .ret) .skip))) .skip)) (.seq c_val_items_9 (.seq (.seq c_val_items_10 (.cond (.tmp 54) (.seq c_val_items_11 .ret) .skip)) c_val_items_12)))))
abbrev F_val_items : SFunc := ⟨59, (.seq c_val_items_0 (.seq c_val_items_1 (.block 0 (.loop c_val_items_13)))), [.tmp 2, .tmp 3, .tmp 4], false⟩
theorem tf_val_items : transFunc Go.Proofs.Tryz.prog 57 (hintT [(17, 0), (18, 1), (30, 0), (31, 1), (39, 1)]) (fpT []) (killT [(0, [2, 3, 4]), (2, [6, 15, 16, 17, 18, 19, 20, 21]), (3, [8]), (4, [0, 5, 7, 22, 23, 24]), (5, [2, 3, 4, 7, 22, 25, 26]), (6, [9, 10, 27, 28, 29, 30, 31, 32, 33, 34]), (7, [11, 35]), (8, [0, 5, 36]), (9, [2, 3, 4, 13, 27, 36, 37, 38, 39, 40, 41, 42]), (10, [14, 43, 44, 45, 46, 47, 48, 49, 50, 51, 52, 53]), (11, [0, 5, 12, 54]), (12, [2, 3, 4, 12, 54, 55, 56, 57, 58])]) false = some F_val_items := by kernel_rfl
-- val.lay
abbrev c_val_lay_0 : SCode := .reg [([3], [⟨(some 3), none, none, .box (.tmp 1)⟩, ⟨(some 4), none, none, .mov (.val (.slice none 0 0))⟩])] [1, 4]
abbrev c_val_lay_1 : SCode := .reg [([2048, 2049, 2050, 2051], [⟨(some 9), none, none, .mov (.tmp 0)⟩, ⟨(some 10), none, none, .fldA 0 (.tmp 3)⟩, ⟨(some 11), none, none, .ld false 1 (.tmp 10)⟩, ⟨(some 12), none, none, .call 110 0 [(.tmp 11)]⟩, ⟨(some 13), none, none, .appS 5 1 (.tmp 9) (.tmp 12)⟩, ⟨(some 0), none, none, .mov (.tmp 13)⟩]), ([2048, 2049, 2050, 2051, 13], [⟨(some 9), none, none, .mov (.tmp 0)⟩, ⟨(some 10), none, none, .fldA 0 (.tmp 3)⟩, ⟨(some 11), none, none, .ld false 1 (.tmp 10)⟩, ⟨(some 12), none, none, .call 110 0 [(.tmp 11)]⟩, ⟨(some 13), none, none, .appNS 5 1 (.tmp 9) (.tmp 12)⟩, ⟨(some 0), none, none, .mov (.tmp 13)⟩])] [9, 10, 11, 12, 13]
abbrev c_val_lay_2 : SCode := .reg [([], [⟨(some 14), none, none, .fldA 0 (.tmp 3)⟩, ⟨(some 15), none, none, .ld false 1 (.tmp 14)⟩])] [14]
abbrev c_val_lay_3 : SCode := .reg [([], [⟨(some 17), none, none, .bin .eql 3 (.tmp 15) (.val (.int .i64 1))⟩, ⟨(some 16), none, none, .mov (.tmp 17)⟩])] [17]
abbrev c_val_lay_4 : SCode := .reg [([], [⟨(some 18), none, none, .bin .eql 3 (.tmp 15) (.val (.int .i64 3))⟩, ⟨(some 16), none, none, .mov (.tmp 18)⟩])] [18]
abbrev c_val_lay_5 : SCode := .reg [([], [⟨(some 19), none, none, .bin .eql 3 (.tmp 15) (.val (.int .i64 4))⟩, ⟨(some 16), none, none, .mov (.tmp 19)⟩])] [19]
abbrev c_val_lay_6 : SCode := .reg [([2092, 2093, 2094, 2095], [⟨(some 20), none, none, .mov (.tmp 0)⟩, ⟨(some 21), none, none, .fldA 1 (.tmp 3)⟩, ⟨(some 22), none, none, .ld false 1 (.tmp 21)⟩, ⟨(some 23), none, none, .call 110 0 [(.tmp 22)]⟩, ⟨(some 24), none, none, .appS 5 1 (.tmp 20) (.tmp 23)⟩, ⟨(some 0), none, none, .mov (.tmp 24)⟩]), ([2092, 2093, 2094, 2095, 24], [⟨(some 20), none, none, .mov (.tmp 0)⟩, ⟨(some 21), none, none, .fldA 1 (.tmp 3)⟩, ⟨(some 22), none, none, .ld false 1 (.tmp 21)⟩, ⟨(some 23), none, none, .call 110 0 [(.tmp 22)]⟩, ⟨(some 24), none, none, .appNS 5 1 (.tmp 20) (.tmp 23)⟩, ⟨(some 0), none, none, .mov (.tmp 24)⟩])] [3, 15, 16, 20, 21, 22, 23, 24]
abbrev c_val_lay_7 : SCode := .reg [([], [⟨(some 26), none, none, .bin .eql 3 (.tmp 15) (.val (.int .i64 2))⟩, ⟨(some 25), none, none, .mov (.tmp 26)⟩])] [16, 26]
abbrev c_val_lay_8 : SCode := .reg [([2120, 2121, 2122, 2123], [⟨(some 28), none, none, .fldA 2 (.tmp 3)⟩, ⟨(some 29), none, none, .ld false 1 (.tmp 28)⟩, ⟨(some 30), none, none, .call 111 0 [(.tmp 29)]⟩, ⟨(some 27), none, none, .mov (.tmp 30)⟩, ⟨(some 31), none, none, .ext (.tmp 27) 0⟩, ⟨(some 32), none, none, .ext (.tmp 27) 1⟩, ⟨(some 5), none, none, .mov (.tmp 31)⟩, ⟨(some 6), none, none, .mov (.tmp 32)⟩])] [3, 6, 15, 25, 27, 28, 29, 30, 31, 32]
abbrev c_val_lay_9 : SCode := .reg [([], [⟨(some 33), none, none, .mov (.tmp 0)⟩, ⟨(some 34), none, none, .mov (.tmp 5)⟩, ⟨(some 35), none, none, .appS 5 1 (.tmp 33) (.tmp 34)⟩, ⟨(some 0), none, none, .mov (.tmp 35)⟩]), ([35], [⟨(some 33), none, none, .mov (.tmp 0)⟩, ⟨(some 34), none, none, .mov (.tmp 5)⟩, ⟨(some 35), none, none, .appNS 5 1 (.tmp 33) (.tmp 34)⟩, ⟨(some 0), none, none, .mov (.tmp 35)⟩])] [5, 33, 34, 35]
abbrev c_val_lay_10 : SCode := .reg [([], [⟨(some 37), none, none, .bin .eql 3 (.tmp 15) (.val (.int .i64 5))⟩, ⟨(some 36), none, none, .mov (.tmp 37)⟩])] [15, 25, 37]
abbrev c_val_lay_11 : SCode := .reg [([2168, 2169, 2170, 2171], [⟨(some 38), none, none, .mov (.tmp 0)⟩, ⟨(some 39), none, none, .fldA 3 (.tmp 3)⟩, ⟨(some 40), none, none, .ld false 1 (.tmp 39)⟩, ⟨(some 41), none, none, .len (.tmp 40)⟩, ⟨(some 42), none, none, .call 110 0 [(.tmp 41)]⟩, ⟨(some 43), none, none, .appS 5 1 (.tmp 38) (.tmp 42)⟩, ⟨(some 0), none, none, .mov (.tmp 43)⟩]), ([2168, 2169, 2170, 2171, 43], [⟨(some 38), none, none, .mov (.tmp 0)⟩, ⟨(some 39), none, none, .fldA 3 (.tmp 3)⟩, ⟨(some 40), none, none, .ld false 1 (.tmp 39)⟩, ⟨(some 41), none, none, .len (.tmp 40)⟩, ⟨(some 42), none, none, .call 110 0 [(.tmp 41)]⟩, ⟨(some 43), none, none, .appNS 5 1 (.tmp 38) (.tmp 42)⟩, ⟨(some 0), none, none, .mov (.tmp 43)⟩])] [36, 38, 39, 40, 41, 42, 43]
abbrev c_val_lay_12 : SCode := .reg [([], [⟨(some 44), none, none, .fldA 3 (.tmp 3)⟩, ⟨(some 45), none, none, .ld false 1 (.tmp 44)⟩, ⟨(some 46), none, none, .len (.tmp 45)⟩, ⟨(some 47), none, none, .mov (.val (.int .i64 0))⟩])] [3, 44]
abbrev c_val_lay_13 : SCode := .reg [([], [⟨(some 48), none, none, .bin .lss 3 (.tmp 47) (.tmp 46)⟩])] []
abbrev c_val_lay_14 : SCode := .reg [([8], [⟨(some 49), none, none, .idxA 4 (.tmp 45) (.tmp 47)⟩, ⟨(some 50), none, none, .ld true 4 (.tmp 49)⟩, ⟨(some 8), none, none, .new [(.int .i64 0), (.int .i64 0), (.string ⟨#[]⟩), (.slice none 0 0)]⟩, ⟨none, none, none, .st 4 (.tmp 8) (.tmp 50)⟩])] [48, 49, 50]
abbrev c_val_lay_15 : SCode := .reg [([2212, 2213, 2214, 2215], [⟨(some 51), none, none, .mov (.tmp 0)⟩, ⟨(some 52), none, none, .ld true 4 (.tmp 8)⟩, ⟨(some 53), none, none, .call 58 2 [(.tmp 51), (.tmp 52)]⟩, ⟨(some 0), none, none, .mov (.tmp 53)⟩])] [8, 51, 52, 53]
abbrev c_val_lay_16 : SCode := .reg [([], [⟨(some 54), none, none, .bin .add 3 (.tmp 47) (.val (.int .i64 1))⟩, ⟨(some 47), none, none, .mov (.tmp 54)⟩])] [54]
abbrev c_val_lay_17 : SCode := (.seq c_val_lay_13 (.seq (.cond (.tmp 48) .skip (.exit 1)) (.seq (.block 2 (.seq c_val_lay_14 c_val_lay_15)) c_val_lay_16)))
abbrev c_val_lay_18 : SCode := .reg [([], [⟨(some 55), none, none, .mov (.tmp 0)⟩, ⟨(some 4), none, none, .mov (.tmp 55)⟩])] [0, 3, 36, 45, 46, 47, 55]
abbrev F_val_lay : SFunc := ⟨56, (.seq c_val_lay_0 (.seq c_val_lay_1 (.seq (.seq c_val_lay_2 (.block 0 (.seq (.seq c_val_lay_3 (.cond (.tmp 16) .skip (.seq c_val_lay_4 (.cond (.tmp 16) .skip c_val_lay_5)))) (.cond (.tmp 16) c_val_lay_6 (.seq c_val_lay_7 (.cond (.tmp 25) (.seq c_val_lay_8 c_val_lay_9) (.seq c_val_lay_10 (.cond (.tmp 36) (.seq c_val_lay_11 (.seq c_val_lay_12 (.block 1 (.loop c_val_lay_17)))) .skip)))))))) (.seq c_val_lay_18 .ret)))), [.tmp 4], true⟩
theorem tf_val_lay : transFunc Go.Proofs.Tryz.prog 58 (hintT [(12, 0), (23, 0), (30, 0), (42, 0), (53, 2)]) (fpT []) (killT [(0, [1, 4]), (1, [9, 10, 11, 12, 13]), (2, [14]), (3, [17]), (4, [18]), (5, [19]), (6, [3, 15, 16, 20, 21, 22, 23, 24]), (7, [16, 26]), (8, [3, 6, 15, 25, 27, 28, 29, 30, 31, 32]), (9, [5, 33, 34, 35]), (10, [15, 25, 37]), (11, [36, 38, 39, 40, 41, 42, 43]), (12, [3, 44]), (14, [48, 49, 50]), (15, [8, 51, 52, 53]), (16, [54]), (17, [0, 3, 36, 45, 46, 47, 55])]) true = some F_val_lay := by kernel_rfl
-- (*val.decoder).value
abbrev c___val_decoder__value_0 : SCode := .reg [([4], [⟨(some 4), none, none, .new [(.int .i64 0), (.int .i64 0), (.string ⟨#[]⟩), (.slice none 0 0)]⟩, ⟨(some 5), none, none, .mov (.val (.int .i64 0))⟩])] [5]
abbrev c___val_decoder__value_1 : SCode := .reg [([2048, 2049, 2050, 2051], [⟨(some 10), none, none, .mov (.tmp 0)⟩, ⟨(some 11), none, none, .mov (.tmp 1)⟩, ⟨(some 12), none, none, .call 112 1 [(.tmp 10), (.val (.int .i64 0)), (.tmp 11)]⟩, ⟨(some 9), none, none, .mov (.tmp 12)⟩, ⟨(some 13), none, none, .ext (.tmp 9) 0⟩, ⟨(some 14), none, none, .ext (.tmp 9) 1⟩, ⟨(some 6), none, none, .mov (.tmp 13)⟩, ⟨(some 7), none, none, .mov (.tmp 14)⟩])] [1, 9, 10, 11, 12, 13, 14]
abbrev c___val_decoder__value_2 : SCode := .reg [([], [⟨(some 15), none, none, .mov (.tmp 7)⟩, ⟨(some 16), none, none, .bin .neq 28 (.tmp 15) (.val (.int .i64 0))⟩])] [15]
abbrev c___val_decoder__value_3 : SCode := .reg [([], [⟨(some 17), none, none, .build [(.int .i64 0), (.int .i64 0), (.string ⟨#[]⟩), (.slice none 0 0)] []⟩, ⟨(some 18), none, none, .mov (.tmp 7)⟩, ⟨none, none, none, .st 4 (.tmp 4) (.tmp 17)⟩, ⟨(some 5), none, none, .mov (.tmp 18)⟩])] [0, 6, 7, 16, 17, 18]
abbrev c___val_decoder__value_4 : SCode := .reg [([8], [⟨(some 19), none, none, .mov (.tmp 6)⟩, ⟨(some 20), none, none, .build [(.int .i64 0), (.int .i64 0), (.string ⟨#[]⟩), (.slice none 0 0)] [(0, 1, (.tmp 19))]⟩, ⟨(some 8), none, none, .new [(.int .i64 0), (.int .i64 0), (.string ⟨#[]⟩), (.slice none 0 0)]⟩, ⟨none, none, none, .st 4 (.tmp 8) (.tmp 20)⟩])] [5, 16, 19, 20]
abbrev c___val_decoder__value_5 : SCode := .reg [([], [⟨(some 21), none, none, .mov (.tmp 6)⟩])] [6]
abbrev c___val_decoder__value_6 : SCode := .reg [([], [⟨(some 23), none, none, .bin .eql 3 (.tmp 21) (.val (.int .i64 1))⟩, ⟨(some 22), none, none, .mov (.tmp 23)⟩])] [23]
abbrev c___val_decoder__value_7 : SCode := .reg [([2104, 2105, 2106, 2107], [⟨(some 25), none, none, .mov (.tmp 0)⟩, ⟨(some 26), none, none, .call 112 1 [(.tmp 25), (.val (.int .i64 (-1000000000000000))), (.val (.int .i64 1000000000000000))]⟩, ⟨(some 24), none, none, .mov (.tmp 26)⟩, ⟨(some 27), none, none, .ext (.tmp 24) 0⟩, ⟨(some 28), none, none, .ext (.tmp 24) 1⟩, ⟨(some 29), none, none, .fldA 1 (.tmp 8)⟩, ⟨none, none, none, .st 1 (.tmp 29) (.tmp 27)⟩, ⟨(some 7), none, none, .mov (.tmp 28)⟩])] [0, 21, 22, 24, 25, 26, 27, 28, 29]
abbrev c___val_decoder__value_8 : SCode := .reg [([], [⟨(some 31), none, none, .bin .eql 3 (.tmp 21) (.val (.int .i64 2))⟩, ⟨(some 30), none, none, .mov (.tmp 31)⟩])] [22, 31]
abbrev c___val_decoder__value_9 : SCode := .reg [([2136, 2137, 2138, 2139], [⟨(some 33), none, none, .mov (.tmp 0)⟩, ⟨(some 34), none, none, .call 113 1 [(.tmp 33)]⟩, ⟨(some 32), none, none, .mov (.tmp 34)⟩, ⟨(some 35), none, none, .ext (.tmp 32) 0⟩, ⟨(some 36), none, none, .ext (.tmp 32) 1⟩, ⟨(some 37), none, none, .fldA 2 (.tmp 8)⟩, ⟨none, none, none, .st 1 (.tmp 37) (.tmp 35)⟩, ⟨(some 7), none, none, .mov (.tmp 36)⟩])] [0, 21, 30, 32, 33, 34, 35, 36, 37]
abbrev c___val_decoder__value_10 : SCode := .reg [([], [⟨(some 39), none, none, .bin .eql 3 (.tmp 21) (.val (.int .i64 3))⟩, ⟨(some 38), none, none, .mov (.tmp 39)⟩])] [30, 39]
abbrev c___val_decoder__value_11 : SCode := .reg [([], [⟨(some 40), none, none, .bin .eql 3 (.tmp 21) (.val (.int .i64 4))⟩, ⟨(some 38), none, none, .mov (.tmp 40)⟩])] [40]
abbrev c___val_decoder__value_12 : SCode := .reg [([2172, 2173, 2174, 2175], [⟨(some 42), none, none, .mov (.tmp 0)⟩, ⟨(some 43), none, none, .call 112 1 [(.tmp 42), (.val (.int .i64 (-20))), (.val (.int .i64 100000))]⟩, ⟨(some 41), none, none, .mov (.tmp 43)⟩, ⟨(some 44), none, none, .ext (.tmp 41) 0⟩, ⟨(some 45), none, none, .ext (.tmp 41) 1⟩, ⟨(some 46), none, none, .fldA 1 (.tmp 8)⟩, ⟨none, none, none, .st 1 (.tmp 46) (.tmp 44)⟩, ⟨(some 7), none, none, .mov (.tmp 45)⟩])] [0, 21, 38, 41, 42, 43, 44, 45, 46]
abbrev c___val_decoder__value_13 : SCode := .reg [([], [⟨(some 47), none, none, .mov (.tmp 7)⟩, ⟨(some 48), none, none, .bin .eql 28 (.tmp 47) (.val (.int .i64 0))⟩, ⟨(some 49), none, none, .mov (.tmp 48)⟩, ⟨(some 50), (some (49, true)), none, .fldA 1 (.tmp 8)⟩, ⟨(some 51), (some (49, true)), none, .ld false 1 (.tmp 50)⟩, ⟨(some 52), (some (49, true)), none, .bin .eql 3 (.tmp 51) (.val (.int .i64 0))⟩, ⟨(some 53), none, none, .pick (.tmp 49) (.tmp 52) (.val (.bool false))⟩])] [47, 48, 49, 50, 51, 52]
abbrev c___val_decoder__value_14 : SCode := .reg [([], [⟨(some 7), none, none, .mov (.val (.int .i64 30))⟩])] [53]
abbrev c___val_decoder__value_15 : SCode := .reg [([], [⟨(some 55), none, none, .bin .eql 3 (.tmp 21) (.val (.int .i64 5))⟩, ⟨(some 54), none, none, .mov (.tmp 55)⟩])] [21, 38, 55]
abbrev c___val_decoder__value_16 : SCode := .reg [([2232, 2233, 2234, 2235], [⟨(some 57), none, none, .mov (.tmp 0)⟩, ⟨(some 58), none, none, .call 114 1 [(.tmp 57)]⟩, ⟨(some 56), none, none, .mov (.tmp 58)⟩, ⟨(some 59), none, none, .ext (.tmp 56) 0⟩, ⟨(some 60), none, none, .ext (.tmp 56) 1⟩, ⟨(some 61), none, none, .fldA 3 (.tmp 8)⟩, ⟨none, none, none, .st 1 (.tmp 61) (.tmp 59)⟩, ⟨(some 7), none, none, .mov (.tmp 60)⟩])] [0, 54, 56, 57, 58, 59, 60, 61]
abbrev c___val_decoder__value_17 : SCode := .reg [([], [⟨(some 62), none, none, .mov (.tmp 7)⟩, ⟨(some 63), none, none, .bin .neq 28 (.tmp 62) (.val (.int .i64 0))⟩])] [0, 53, 54, 62]
abbrev c___val_decoder__value_18 : SCode := .reg [([], [⟨(some 64), none, none, .build [(.int .i64 0), (.int .i64 0), (.string ⟨#[]⟩), (.slice none 0 0)] []⟩, ⟨(some 65), none, none, .mov (.tmp 7)⟩, ⟨none, none, none, .st 4 (.tmp 4) (.tmp 64)⟩, ⟨(some 5), none, none, .mov (.tmp 65)⟩])] [7, 8, 63, 64, 65]
abbrev c___val_decoder__value_19 : SCode := .reg [([], [⟨(some 66), none, none, .ld true 4 (.tmp 8)⟩, ⟨none, none, none, .st 4 (.tmp 4) (.tmp 66)⟩, ⟨(some 5), none, none, .mov (.val (.int .i64 0))⟩])] [7, 8, 63, 66]
abbrev F___val_decoder__value : SFunc := ⟨67, (.seq c___val_decoder__value_0 (.seq c___val_decoder__value_1 (.seq (.seq c___val_decoder__value_2 (.cond (.tmp 16) (.seq c___val_decoder__value_3 .ret) .skip)) (.seq c___val_decoder__value_4 (.seq (.seq c___val_decoder__value_5 (.block 0 (.seq c___val_decoder__value_6 (.cond (.tmp 22) c___val_decoder__value_7 (.seq c___val_decoder__value_8 (.cond (.tmp 30) c___val_decoder__value_9 (.seq (.seq c___val_decoder__value_10 (.cond (.tmp 38) .skip c___val_decoder__value_11)) (.cond (.tmp 38) (.seq c___val_decoder__value_12 (.seq c___val_decoder__value_13 (.cond (.tmp 53) c___val_decoder__value_14 .skip))) (.seq c___val_decoder__value_15 (.cond (.tmp 54) c___val_decoder__value_16 .skip)))))))))) (.seq (.seq c___val_decoder__value_17 (.cond (.tmp 63) (.seq c___val_decoder__value_18 .ret) .skip)) (.seq c___val_decoder__value_19 .ret))))))), [.cell true 4 4, .tmp 5], false⟩
theorem tf___val_decoder__value : transFunc Go.Proofs.Tryz.prog 59 (hintT [(12, 1), (26, 1), (34, 1), (43, 1), (58, 1)]) (fpT []) (killT [(0, [5]), (1, [1, 9, 10, 11, 12, 13, 14]), (2, [15]), (3, [0, 6, 7, 16, 17, 18]), (4, [5, 16, 19, 20]), (5, [6]), (6, [23]), (7, [0, 21, 22, 24, 25, 26, 27, 28, 29]), (8, [22, 31]), (9, [0, 21, 30, 32, 33, 34, 35, 36, 37]), (10, [30, 39]), (11, [40]), (12, [0, 21, 38, 41, 42, 43, 44, 45, 46]), (13, [47, 48, 49, 50, 51, 52]), (14, [53]), (15, [21, 38, 55]), (16, [0, 54, 56, 57, 58, 59, 60, 61]), (17, [0, 53, 54, 62]), (18, [7, 8, 63, 64, 65]), (19, [7, 8, 63, 66])]) false = some F___val_decoder__value := by kernel_rfl
-- val.bare
abbrev c_val_bare_0 : SCode := .reg [([1], [⟨(some 1), none, none, .box (.tmp 0)⟩, ⟨(some 2), none, none, .mov (.val (.bool false))⟩])] [0, 2]
abbrev c_val_bare_1 : SCode := .reg [([], [⟨(some 3), none, none, .fldA 2 (.tmp 1)⟩, ⟨(some 4), none, none, .ld false 1 (.tmp 3)⟩, ⟨(some 5), none, none, .bin .eql 9 (.tmp 4) (.val (.string ⟨#[]⟩))⟩, ⟨(some 6), none, none, .mov (.tmp 5)⟩, ⟨(some 7), (some (6, true)), none, .fldA 3 (.tmp 1)⟩, ⟨(some 8), (some (6, true)), none, .ld false 1 (.tmp 7)⟩, ⟨(some 9), (some (6, true)), none, .len (.tmp 8)⟩, ⟨(some 10), (some (6, true)), none, .bin .eql 3 (.tmp 9) (.val (.int .i64 0))⟩, ⟨(some 11), none, none, .pick (.tmp 6) (.tmp 10) (.val (.bool false))⟩, ⟨(some 2), none, none, .mov (.tmp 11)⟩])] [1, 3, 4, 5, 6, 7, 8, 9, 10, 11]
abbrev F_val_bare : SFunc := ⟨12, (.seq c_val_bare_0 (.seq c_val_bare_1 .ret)), [.tmp 2], false⟩
theorem tf_val_bare : transFunc Go.Proofs.Tryz.prog 63 (hintT []) (fpT []) (killT [(0, [0, 2]), (1, [1, 3, 4, 5, 6, 7, 8, 9, 10, 11])]) false = some F_val_bare := by kernel_rfl
-- val.rightText
abbrev c_val_rightText_0 : SCode := .reg [([], [⟨(some 2), none, none, .mov (.val (.bool false))⟩])] [2]
abbrev c_val_rightText_1 : SCode := .reg [([2040, 2041, 2042, 2043], [⟨(some 5), none, none, .mov (.tmp 0)⟩, ⟨(some 6), none, none, .slen (.tmp 5)⟩, ⟨(some 7), none, none, .bin .gtr 3 (.tmp 6) (.val (.int .i64 60))⟩, ⟨(some 8), none, none, .mov (.tmp 7)⟩, ⟨(some 9), (some (8, false)), none, .mov (.tmp 0)⟩, ⟨(some 10), (some (8, false)), none, .call 119 0 [(.tmp 9)]⟩, ⟨(some 11), (some (8, false)), none, .un .not (.tmp 10)⟩, ⟨(some 12), none, none, .pick (.tmp 8) (.val (.bool true)) (.tmp 11)⟩])] [5, 6, 7, 8, 9, 10, 11]
abbrev c_val_rightText_2 : SCode := .reg [([], [⟨(some 2), none, none, .mov (.val (.bool false))⟩])] [0, 12]
abbrev c_val_rightText_3 : SCode := .reg [([14], [⟨(some 13), none, none, .mov (.tmp 0)⟩, ⟨(some 14), none, none, .rng (.tmp 13)⟩])] [0, 2, 12, 13]
abbrev c_val_rightText_4 : SCode := .reg [([], [⟨(some 15), none, none, .nxt (.tmp 14)⟩, ⟨(some 16), none, none, .ext (.tmp 15) 0⟩])] []
abbrev c_val_rightText_5 : SCode := .reg [([], [⟨(some 17), none, none, .ext (.tmp 15) 2⟩, ⟨(some 4), none, none, .mov (.tmp 17)⟩])] [15, 16, 17]
abbrev c_val_rightText_6 : SCode := .reg [([2076, 2077, 2078, 2079], [⟨(some 18), none, none, .mov (.tmp 4)⟩, ⟨(some 19), none, none, .call 120 0 [(.tmp 18)]⟩, ⟨(some 20), none, none, .un .not (.tmp 19)⟩])] [4, 18, 19]
abbrev c_val_rightText_7 : SCode := .reg [([], [⟨(some 2), none, none, .mov (.val (.bool false))⟩])] [14, 20]
abbrev c_val_rightText_8 : SCode := (.seq c_val_rightText_4 (.seq (.cond (.tmp 16) .skip (.exit 0)) (.block 1 (.seq c_val_rightText_5 (.seq c_val_rightText_6 (.cond (.tmp 20) (.seq c_val_rightText_7 .ret) .skip))))))
abbrev c_val_rightText_9 : SCode := .reg [([], [⟨(some 2), none, none, .mov (.val (.bool true))⟩])] [14]
abbrev F_val_rightText : SFunc := ⟨21, (.seq c_val_rightText_0 (.seq (.seq c_val_rightText_1 (.cond (.tmp 12) (.seq c_val_rightText_2 .ret) .skip)) (.seq (.seq c_val_rightText_3 (.block 0 (.loop c_val_rightText_8))) (.seq c_val_rightText_9 .ret)))), [.tmp 2], false⟩
theorem tf_val_rightText : transFunc Go.Proofs.Tryz.prog 64 (hintT [(10, 0), (19, 0)]) (fpT []) (killT [(0, [2]), (1, [5, 6, 7, 8, 9, 10, 11]), (2, [0, 12]), (3, [0, 2, 12, 13]), (5, [15, 16, 17]), (6, [4, 18, 19]), (7, [14, 20]), (8, [14])]) false = some F_val_rightText := by kernel_rfl
-- val.rightID
abbrev c_val_rightID_0 : SCode := .reg [([], [⟨(some 2), none, none, .mov (.val (.bool false))⟩])] [2]
abbrev c_val_rightID_1 : SCode := .reg [([], [⟨(some 3), none, none, .mov (.tmp 0)⟩, ⟨(some 4), none, none, .bin .geq 3 (.tmp 3) (.val (.int .i64 1))⟩, ⟨(some 5), none, none, .mov (.tmp 4)⟩, ⟨(some 6), (some (5, true)), none, .mov (.tmp 0)⟩, ⟨(some 7), (some (5, true)), none, .bin .leq 3 (.tmp 6) (.val (.int .i64 100000))⟩, ⟨(some 8), none, none, .pick (.tmp 5) (.tmp 7) (.val (.bool false))⟩, ⟨(some 9), none, none, .mov (.tmp 8)⟩, ⟨(some 10), (some (9, false)), none, .mov (.tmp 0)⟩, ⟨(some 11), (some (9, false)), none, .bin .geq 3 (.tmp 10) (.val (.int .i64 (-20)))⟩, ⟨(some 12), (some (9, false)), none, .mov (.tmp 11)⟩, ⟨(some 13), (some (12, true)), none, .mov (.tmp 0)⟩, ⟨(some 14), (some (12, true)), none, .bin .leq 3 (.tmp 13) (.val (.int .i64 (-1)))⟩, ⟨(some 15), (some (9, false)), none, .pick (.tmp 12) (.tmp 14) (.val (.bool false))⟩, ⟨(some 16), none, none, .pick (.tmp 9) (.val (.bool true)) (.tmp 15)⟩, ⟨(some 2), none, none, .mov (.tmp 16)⟩])] [0, 3, 4, 5, 6, 7, 8, 9, 10, 11, 12, 13, 14, 15, 16]
abbrev F_val_rightID : SFunc := ⟨17, (.seq c_val_rightID_0 (.seq c_val_rightID_1 .ret)), [.tmp 2], false⟩
theorem tf_val_rightID : transFunc Go.Proofs.Tryz.prog 65 (hintT []) (fpT []) (killT [(0, [2]), (1, [0, 3, 4, 5, 6, 7, 8, 9, 10, 11, 12, 13, 14, 15, 16])]) false = some F_val_rightID := by kernel_rfl
-- slices.ContainsFunc[[]api.Val,api.Val]
abbrev c_slices_ContainsFunc___api_Val_api_Val__0 : SCode := .reg [([], [⟨(some 4), none, none, .mov (.val (.bool false))⟩])] [4]
abbrev c_slices_ContainsFunc___api_Val_api_Val__1 : SCode := .reg [([2028, 2029, 2030, 2031], [⟨(some 5), none, none, .mov (.tmp 0)⟩, ⟨(some 6), none, none, .mov (.tmp 1)⟩, ⟨(some 7), none, none, .call 121 1 [(.tmp 5), (.tmp 6)]⟩, ⟨(some 8), none, none, .bin .geq 3 (.tmp 7) (.val (.int .i64 0))⟩, ⟨(some 4), none, none, .mov (.tmp 8)⟩])] [0, 1, 5, 6, 7, 8]
abbrev F_slices_ContainsFunc___api_Val_api_Val_ : SFunc := ⟨9, (.seq c_slices_ContainsFunc___api_Val_api_Val__0 (.seq c_slices_ContainsFunc___api_Val_api_Val__1 .ret)), [.tmp 4], false⟩
theorem tf_slices_ContainsFunc___api_Val_api_Val_ : transFunc Go.Proofs.Tryz.prog 66 (hintT [(7, 1)]) (fpT []) (killT [(0, [4]), (1, [0, 1, 5, 6, 7, 8])]) false = some F_slices_ContainsFunc___api_Val_api_Val_ := by kernel_rfl
-- val.noItem
abbrev c_val_noItem_0 : SCode := .reg [([1], [⟨(some 1), none, none, .box (.tmp 0)⟩, ⟨(some 2), none, none, .mov (.val (.bool false))⟩])] [0, 2]
abbrev c_val_noItem_1 : SCode := .reg [([2032, 2033, 2034, 2035], [⟨(some 3), none, none, .fldA 0 (.tmp 1)⟩, ⟨(some 4), none, none, .ld false 1 (.tmp 3)⟩, ⟨(some 5), none, none, .bin .eql 3 (.tmp 4) (.val (.int .i64 5))⟩, ⟨(some 6), none, none, .mov (.tmp 5)⟩, ⟨(some 7), (some (6, false)), none, .ld true 4 (.tmp 1)⟩, ⟨(some 8), (some (6, false)), none, .call 28 0 [(.tmp 7)]⟩, ⟨(some 9), (some (6, false)), none, .un .not (.tmp 8)⟩, ⟨(some 10), none, none, .pick (.tmp 6) (.val (.bool true)) (.tmp 9)⟩, ⟨(some 2), none, none, .mov (.tmp 10)⟩])] [1, 3, 4, 5, 6, 7, 8, 9, 10]
abbrev F_val_noItem : SFunc := ⟨11, (.seq c_val_noItem_0 (.seq c_val_noItem_1 .ret)), [.tmp 2], false⟩
theorem tf_val_noItem : transFunc Go.Proofs.Tryz.prog 67 (hintT [(8, 0)]) (fpT []) (killT [(0, [0, 2]), (1, [1, 3, 4, 5, 6, 7, 8, 9, 10])]) false = some F_val_noItem := by kernel_rfl
-- moraineref03.IsText
abbrev c_moraineref03_IsText_0 : SCode := .reg [([], [⟨(some 2), none, none, .mov (.val (.bool false))⟩])] [2]
abbrev c_moraineref03_IsText_1 : SCode := .reg [([], [⟨(some 3), none, none, .mov (.val (.int .i64 0))⟩])] []
abbrev c_moraineref03_IsText_2 : SCode := .reg [([], [⟨(some 5), none, none, .mov (.tmp 3)⟩, ⟨(some 6), none, none, .mov (.tmp 0)⟩, ⟨(some 7), none, none, .slen (.tmp 6)⟩, ⟨(some 8), none, none, .bin .lss 3 (.tmp 5) (.tmp 7)⟩])] [5, 6, 7]
abbrev c_moraineref03_IsText_3 : SCode := .reg [([2048, 2049, 2050, 2051], [⟨(some 9), none, none, .mov (.tmp 0)⟩, ⟨(some 10), none, none, .mov (.tmp 3)⟩, ⟨(some 11), none, none, .ssub (.tmp 9) (some (.tmp 10)) none⟩, ⟨(some 12), none, none, .call 122 0 [(.tmp 11)]⟩, ⟨(some 4), none, none, .mov (.tmp 12)⟩])] [8, 9, 10, 11, 12]
abbrev c_moraineref03_IsText_4 : SCode := .reg [([], [⟨(some 13), none, none, .mov (.tmp 4)⟩, ⟨(some 14), none, none, .bin .eql 3 (.tmp 13) (.val (.int .i64 0))⟩, ⟨(some 15), none, none, .mov (.tmp 14)⟩, ⟨(some 16), (some (15, false)), none, .mov (.tmp 0)⟩, ⟨(some 17), (some (15, false)), none, .mov (.tmp 3)⟩, ⟨(some 18), (some (15, false)), none, .sidx (.tmp 16) (.tmp 17)⟩, ⟨(some 19), (some (15, false)), none, .bin .lss 5 (.tmp 18) (.val (.int .u8 32))⟩, ⟨(some 20), none, none, .pick (.tmp 15) (.val (.bool true)) (.tmp 19)⟩, ⟨(some 21), none, none, .mov (.tmp 20)⟩, ⟨(some 22), (some (21, false)), none, .mov (.tmp 0)⟩, ⟨(some 23), (some (21, false)), none, .mov (.tmp 3)⟩, ⟨(some 24), (some (21, false)), none, .sidx (.tmp 22) (.tmp 23)⟩, ⟨(some 25), (some (21, false)), none, .bin .eql 5 (.tmp 24) (.val (.int .u8 127))⟩, ⟨(some 26), none, none, .pick (.tmp 21) (.val (.bool true)) (.tmp 25)⟩])] [13, 14, 15, 16, 17, 18, 19, 20, 21, 22, 23, 24, 25]
abbrev c_moraineref03_IsText_5 : SCode := .reg [([], [⟨(some 2), none, none, .mov (.val (.bool false))⟩])] [0, 3, 4, 26]
abbrev c_moraineref03_IsText_6 : SCode := .reg [([], [⟨(some 27), none, none, .mov (.tmp 3)⟩, ⟨(some 28), none, none, .mov (.tmp 4)⟩, ⟨(some 29), none, none, .bin .add 3 (.tmp 27) (.tmp 28)⟩, ⟨(some 3), none, none, .mov (.tmp 29)⟩])] [2, 4, 26, 27, 28, 29]
abbrev c_moraineref03_IsText_7 : SCode := (.seq (.seq c_moraineref03_IsText_2 (.cond (.tmp 8) .skip (.exit 0))) (.block 1 (.seq c_moraineref03_IsText_3 (.seq (.seq c_moraineref03_IsText_4 (.cond (.tmp 26) (.seq c_moraineref03_IsText_5 .ret) .skip)) c_moraineref03_IsText_6))))
abbrev c_moraineref03_IsText_8 : SCode := .reg [([], [⟨(some 2), none, none, .mov (.val (.bool true))⟩])] [0, 3]
abbrev F_moraineref03_IsText : SFunc := ⟨30, (.seq c_moraineref03_IsText_0 (.seq (.seq c_moraineref03_IsText_1 (.block 0 (.loop c_moraineref03_IsText_7))) (.seq c_moraineref03_IsText_8 .ret))), [.tmp 2], false⟩
theorem tf_moraineref03_IsText : transFunc Go.Proofs.Tryz.prog 68 (hintT [(12, 0)]) (fpT []) (killT [(0, [2]), (2, [5, 6, 7]), (3, [8, 9, 10, 11, 12]), (4, [13, 14, 15, 16, 17, 18, 19, 20, 21, 22, 23, 24, 25]), (5, [0, 3, 4, 26]), (6, [2, 4, 26, 27, 28, 29]), (7, [0, 3])]) false = some F_moraineref03_IsText := by kernel_rfl
-- cmp.Compare[int]
abbrev c_cmp_Compare_int__0 : SCode := .reg [([], [⟨(some 4), none, none, .mov (.val (.int .i64 0))⟩])] [4]
abbrev c_cmp_Compare_int__1 : SCode := .reg [([2032, 2033, 2034, 2035], [⟨(some 7), none, none, .mov (.tmp 0)⟩, ⟨(some 8), none, none, .call 123 0 [(.tmp 7)]⟩, ⟨(some 5), none, none, .mov (.tmp 8)⟩])] [7, 8]
abbrev c_cmp_Compare_int__2 : SCode := .reg [([2040, 2041, 2042, 2043], [⟨(some 9), none, none, .mov (.tmp 1)⟩, ⟨(some 10), none, none, .call 123 0 [(.tmp 9)]⟩, ⟨(some 6), none, none, .mov (.tmp 10)⟩])] [9, 10]
abbrev c_cmp_Compare_int__3 : SCode := .reg [([], [⟨(some 11), none, none, .mov (.tmp 5)⟩])] [5]
abbrev c_cmp_Compare_int__4 : SCode := .reg [([], [⟨(some 12), none, none, .mov (.tmp 6)⟩])] [0, 1, 6, 11]
abbrev c_cmp_Compare_int__5 : SCode := .reg [([], [⟨(some 4), none, none, .mov (.val (.int .i64 0))⟩])] [12]
abbrev c_cmp_Compare_int__6 : SCode := .reg [([], [⟨(some 4), none, none, .mov (.val (.int .i64 (-1)))⟩])] [12]
abbrev c_cmp_Compare_int__7 : SCode := .reg [([], [⟨(some 13), none, none, .mov (.tmp 6)⟩])] [4, 6, 11]
abbrev c_cmp_Compare_int__8 : SCode := .reg [([], [⟨(some 4), none, none, .mov (.val (.int .i64 1))⟩])] [0, 1, 13]
abbrev c_cmp_Compare_int__9 : SCode := .reg [([], [⟨(some 14), none, none, .mov (.tmp 0)⟩, ⟨(some 15), none, none, .mov (.tmp 1)⟩, ⟨(some 16), none, none, .bin .lss 3 (.tmp 14) (.tmp 15)⟩])] [4, 13, 14, 15]
abbrev c_cmp_Compare_int__10 : SCode := .reg [([], [⟨(some 4), none, none, .mov (.val (.int .i64 (-1)))⟩])] [0, 1, 16]
abbrev c_cmp_Compare_int__11 : SCode := .reg [([], [⟨(some 17), none, none, .mov (.tmp 0)⟩, ⟨(some 18), none, none, .mov (.tmp 1)⟩, ⟨(some 19), none, none, .bin .gtr 3 (.tmp 17) (.tmp 18)⟩])] [0, 1, 4, 16, 17, 18]
abbrev c_cmp_Compare_int__12 : SCode := .reg [([], [⟨(some 4), none, none, .mov (.val (.int .i64 1))⟩])] [19]
abbrev c_cmp_Compare_int__13 : SCode := .reg [([], [⟨(some 4), none, none, .mov (.val (.int .i64 0))⟩])] [19]
abbrev F_cmp_Compare_int_ : SFunc := ⟨20, (.seq c_cmp_Compare_int__0 (.seq c_cmp_Compare_int__1 (.seq c_cmp_Compare_int__2 (.seq (.seq c_cmp_Compare_int__3 (.cond (.tmp 11) (.seq (.seq c_cmp_Compare_int__4 (.cond (.tmp 12) (.seq c_cmp_Compare_int__5 .ret) .skip)) (.seq c_cmp_Compare_int__6 .ret)) .skip)) (.seq (.seq c_cmp_Compare_int__7 (.cond (.tmp 13) (.seq c_cmp_Compare_int__8 .ret) .skip)) (.seq (.seq c_cmp_Compare_int__9 (.cond (.tmp 16) (.seq c_cmp_Compare_int__10 .ret) .skip)) (.seq (.seq c_cmp_Compare_int__11 (.cond (.tmp 19) (.seq c_cmp_Compare_int__12 .ret) .skip)) (.seq c_cmp_Compare_int__13 .ret)))))))), [.tmp 4], false⟩
theorem tf_cmp_Compare_int_ : transFunc Go.Proofs.Tryz.prog 70 (hintT [(8, 0), (10, 0)]) (fpT []) (killT [(0, [4]), (1, [7, 8]), (2, [9, 10]), (3, [5]), (4, [0, 1, 6, 11]), (5, [12]), (6, [12]), (7, [4, 6, 11]), (8, [0, 1, 13]), (9, [4, 13, 14, 15]), (10, [0, 1, 16]), (11, [0, 1, 4, 16, 17, 18]), (12, [19]), (13, [19])]) false = some F_cmp_Compare_int_ := by kernel_rfl
-- cmp.Compare[string]
abbrev c_cmp_Compare_string__0 : SCode := .reg [([], [⟨(some 4), none, none, .mov (.val (.int .i64 0))⟩])] [4]
abbrev c_cmp_Compare_string__1 : SCode := .reg [([2032, 2033, 2034, 2035], [⟨(some 7), none, none, .mov (.tmp 0)⟩, ⟨(some 8), none, none, .call 124 0 [(.tmp 7)]⟩, ⟨(some 5), none, none, .mov (.tmp 8)⟩])] [7, 8]
abbrev c_cmp_Compare_string__2 : SCode := .reg [([2040, 2041, 2042, 2043], [⟨(some 9), none, none, .mov (.tmp 1)⟩, ⟨(some 10), none, none, .call 124 0 [(.tmp 9)]⟩, ⟨(some 6), none, none, .mov (.tmp 10)⟩])] [9, 10]
abbrev c_cmp_Compare_string__3 : SCode := .reg [([], [⟨(some 11), none, none, .mov (.tmp 5)⟩])] [5]
abbrev c_cmp_Compare_string__4 : SCode := .reg [([], [⟨(some 12), none, none, .mov (.tmp 6)⟩])] [0, 1, 6, 11]
abbrev c_cmp_Compare_string__5 : SCode := .reg [([], [⟨(some 4), none, none, .mov (.val (.int .i64 0))⟩])] [12]
abbrev c_cmp_Compare_string__6 : SCode := .reg [([], [⟨(some 4), none, none, .mov (.val (.int .i64 (-1)))⟩])] [12]
abbrev c_cmp_Compare_string__7 : SCode := .reg [([], [⟨(some 13), none, none, .mov (.tmp 6)⟩])] [4, 6, 11]
abbrev c_cmp_Compare_string__8 : SCode := .reg [([], [⟨(some 4), none, none, .mov (.val (.int .i64 1))⟩])] [0, 1, 13]
abbrev c_cmp_Compare_string__9 : SCode := .reg [([], [⟨(some 14), none, none, .mov (.tmp 0)⟩, ⟨(some 15), none, none, .mov (.tmp 1)⟩, ⟨(some 16), none, none, .bin .lss 9 (.tmp 14) (.tmp 15)⟩])] [4, 13, 14, 15]
abbrev c_cmp_Compare_string__10 : SCode := .reg [([], [⟨(some 4), none, none, .mov (.val (.int .i64 (-1)))⟩])] [0, 1, 16]
abbrev c_cmp_Compare_string__11 : SCode := .reg [([], [⟨(some 17), none, none, .mov (.tmp 0)⟩, ⟨(some 18), none, none, .mov (.tmp 1)⟩, ⟨(some 19), none, none, .bin .gtr 9 (.tmp 17) (.tmp 18)⟩])] [0, 1, 4, 16, 17, 18]
abbrev c_cmp_Compare_string__12 : SCode := .reg [([], [⟨(some 4), none, none, .mov (.val (.int .i64 1))⟩])] [19]
abbrev c_cmp_Compare_string__13 : SCode := .reg [([], [⟨(some 4), none, none, .mov (.val (.int .i64 0))⟩])] [19]
abbrev F_cmp_Compare_string_ : SFunc := ⟨20, (.seq c_cmp_Compare_string__0 (.seq c_cmp_Compare_string__1 (.seq c_cmp_Compare_string__2 (.seq (.seq c_cmp_Compare_string__3 (.cond (.tmp 11) (.seq (.seq c_cmp_Compare_string__4 (.cond (.tmp 12) (.seq c_cmp_Compare_string__5 .ret) .skip)) (.seq c_cmp_Compare_string__6 .ret)) .skip)) (.seq (.seq c_cmp_Compare_string__7 (.cond (.tmp 13) (.seq c_cmp_Compare_string__8 .ret) .skip)) (.seq (.seq c_cmp_Compare_string__9 (.cond (.tmp 16) (.seq c_cmp_Compare_string__10 .ret) .skip)) (.seq (.seq c_cmp_Compare_string__11 (.cond (.tmp 19) (.seq c_cmp_Compare_string__12 .ret) .skip)) (.seq c_cmp_Compare_string__13 .ret)))))))), [.tmp 4], false⟩
theorem tf_cmp_Compare_string_ : transFunc Go.Proofs.Tryz.prog 71 (hintT [(8, 0), (10, 0)]) (fpT []) (killT [(0, [4]), (1, [7, 8]), (2, [9, 10]), (3, [5]), (4, [0, 1, 6, 11]), (5, [12]), (6, [12]), (7, [4, 6, 11]), (8, [0, 1, 13]), (9, [4, 13, 14, 15]), (10, [0, 1, 16]), (11, [0, 1, 4, 16, 17, 18]), (12, [19]), (13, [19])]) false = some F_cmp_Compare_string_ := by kernel_rfl
-- val.byItems[api.Val]
abbrev c_val_byItems_api_Val__0 : SCode := .reg [([], [⟨(some 6), none, none, .mov (.val (.int .i64 0))⟩])] [6]
abbrev c_val_byItems_api_Val__1 : SCode := .reg [([], [⟨(some 9), none, none, .mov (.tmp 0)⟩, ⟨(some 10), none, none, .len (.tmp 9)⟩, ⟨(some 11), none, none, .mov (.tmp 1)⟩, ⟨(some 12), none, none, .len (.tmp 11)⟩, ⟨(some 13), none, none, .imm false (.tmp 10) (.tmp 12)⟩, ⟨(some 14), none, none, .mov (.val (.int .i64 0))⟩])] [9, 10, 11, 12]
abbrev c_val_byItems_api_Val__2 : SCode := .reg [([], [⟨(some 15), none, none, .bin .lss 3 (.tmp 14) (.tmp 13)⟩])] []
abbrev c_val_byItems_api_Val__3 : SCode := .reg [([], [⟨(some 16), none, none, .mov (.tmp 14)⟩, ⟨(some 7), none, none, .mov (.tmp 16)⟩])] [15, 16]
abbrev c_val_byItems_api_Val__4 : SCode := .reg [([2104, 2105, 2106, 2107], [⟨(some 17), none, none, .mov (.tmp 2)⟩, ⟨(some 18), none, none, .mov (.tmp 0)⟩, ⟨(some 19), none, none, .mov (.tmp 7)⟩, ⟨(some 20), none, none, .idxA 4 (.tmp 18) (.tmp 19)⟩, ⟨(some 21), none, none, .ld true 4 (.tmp 20)⟩, ⟨(some 22), none, none, .mov (.tmp 1)⟩, ⟨(some 23), none, none, .mov (.tmp 7)⟩, ⟨(some 24), none, none, .idxA 4 (.tmp 22) (.tmp 23)⟩, ⟨(some 25), none, none, .ld true 4 (.tmp 24)⟩, ⟨(some 26), none, none, .callv (.tmp 17) 1 [(.tmp 21), (.tmp 25)]⟩, ⟨(some 8), none, none, .mov (.tmp 26)⟩])] [7, 17, 18, 19, 20, 21, 22, 23, 24, 25, 26]
abbrev c_val_byItems_api_Val__5 : SCode := .reg [([], [⟨(some 27), none, none, .mov (.tmp 8)⟩, ⟨(some 28), none, none, .bin .neq 3 (.tmp 27) (.val (.int .i64 0))⟩])] [27]
abbrev c_val_byItems_api_Val__6 : SCode := .reg [([], [⟨(some 29), none, none, .mov (.tmp 8)⟩, ⟨(some 6), none, none, .mov (.tmp 29)⟩])] [0, 1, 2, 8, 13, 14, 28, 29]
abbrev c_val_byItems_api_Val__7 : SCode := .reg [([], [⟨(some 30), none, none, .bin .add 3 (.tmp 14) (.val (.int .i64 1))⟩, ⟨(some 14), none, none, .mov (.tmp 30)⟩])] [6, 8, 28, 30]
abbrev c_val_byItems_api_Val__8 : SCode := (.seq c_val_byItems_api_Val__2 (.seq (.cond (.tmp 15) .skip (.exit 0)) (.seq (.block 1 (.seq c_val_byItems_api_Val__3 (.seq c_val_byItems_api_Val__4 (.seq c_val_byItems_api_Val__5 (.cond (.tmp 28) (.seq c_val_byItems_api_Val__6 .ret) .skip))))) c_val_byItems_api_Val__7)))
abbrev c_val_byItems_api_Val__9 : SCode := .reg [([2140, 2141, 2142, 2143], [⟨(some 31), none, none, .mov (.tmp 0)⟩, ⟨(some 32), none, none, .len (.tmp 31)⟩, ⟨(some 33), none, none, .mov (.tmp 1)⟩, ⟨(some 34), none, none, .len (.tmp 33)⟩, ⟨(some 35), none, none, .call 70 0 [(.tmp 32), (.tmp 34)]⟩, ⟨(some 6), none, none, .mov (.tmp 35)⟩])] [0, 1, 2, 13, 14, 31, 32, 33, 34, 35]
abbrev F_val_byItems_api_Val_ : SFunc := ⟨36, (.seq c_val_byItems_api_Val__0 (.seq (.seq c_val_byItems_api_Val__1 (.block 0 (.loop c_val_byItems_api_Val__8))) (.seq c_val_byItems_api_Val__9 .ret))), [.tmp 6], false⟩
theorem tf_val_byItems_api_Val_ : transFunc Go.Proofs.Tryz.prog 72 (hintT [(26, 1), (35, 0)]) (fpT []) (killT [(0, [6]), (1, [9, 10, 11, 12]), (3, [15, 16]), (4, [7, 17, 18, 19, 20, 21, 22, 23, 24, 25, 26]), (5, [27]), (6, [0, 1, 2, 8, 13, 14, 28, 29]), (7, [6, 8, 28, 30]), (8, [0, 1, 2, 13, 14, 31, 32, 33, 34, 35])]) false = some F_val_byItems_api_Val_ := by kernel_rfl
-- moraineref03.Order
abbrev c_moraineref03_Order_0 : SCode := .reg [([], [⟨(some 4), none, none, .mov (.val (.int .i64 0))⟩])] [4]
abbrev c_moraineref03_Order_1 : SCode := .reg [([], [⟨(some 5), none, none, .mov (.tmp 0)⟩, ⟨(some 6), none, none, .mov (.tmp 1)⟩, ⟨(some 7), none, none, .bin .lss 3 (.tmp 5) (.tmp 6)⟩])] [5, 6]
abbrev c_moraineref03_Order_2 : SCode := .reg [([], [⟨(some 4), none, none, .mov (.val (.int .i64 (-1)))⟩])] [0, 1, 7]
abbrev c_moraineref03_Order_3 : SCode := .reg [([], [⟨(some 8), none, none, .mov (.tmp 0)⟩, ⟨(some 9), none, none, .mov (.tmp 1)⟩, ⟨(some 10), none, none, .bin .gtr 3 (.tmp 8) (.tmp 9)⟩])] [0, 1, 4, 7, 8, 9]
abbrev c_moraineref03_Order_4 : SCode := .reg [([], [⟨(some 4), none, none, .mov (.val (.int .i64 1))⟩])] [10]
abbrev c_moraineref03_Order_5 : SCode := .reg [([], [⟨(some 4), none, none, .mov (.val (.int .i64 0))⟩])] [10]
abbrev F_moraineref03_Order : SFunc := ⟨11, (.seq c_moraineref03_Order_0 (.seq (.seq c_moraineref03_Order_1 (.cond (.tmp 7) (.seq c_moraineref03_Order_2 .ret) .skip)) (.seq (.seq c_moraineref03_Order_3 (.cond (.tmp 10) (.seq c_moraineref03_Order_4 .ret) .skip)) (.seq c_moraineref03_Order_5 .ret)))), [.tmp 4], false⟩
theorem tf_moraineref03_Order : transFunc Go.Proofs.Tryz.prog 73 (hintT []) (fpT []) (killT [(0, [4]), (1, [5, 6]), (2, [0, 1, 7]), (3, [0, 1, 4, 7, 8, 9]), (4, [10]), (5, [10])]) false = some F_moraineref03_Order := by kernel_rfl
-- val.rightType
abbrev c_val_rightType_0 : SCode := .reg [([1], [⟨(some 1), none, none, .box (.tmp 0)⟩, ⟨(some 2), none, none, .mov (.val (.bool false))⟩])] [0, 2]
abbrev c_val_rightType_1 : SCode := .reg [([], [⟨(some 3), none, none, .fldA 0 (.tmp 1)⟩, ⟨(some 4), none, none, .ld false 1 (.tmp 3)⟩, ⟨(some 5), none, none, .bin .eql 3 (.tmp 4) (.val (.int .i64 5))⟩])] [3, 4]
abbrev c_val_rightType_2 : SCode := .reg [([], [⟨(some 6), none, none, .fldA 1 (.tmp 1)⟩, ⟨(some 7), none, none, .ld false 1 (.tmp 6)⟩, ⟨(some 8), none, none, .bin .geq 3 (.tmp 7) (.val (.int .i64 1))⟩, ⟨(some 9), none, none, .mov (.tmp 8)⟩, ⟨(some 10), (some (9, true)), none, .fldA 1 (.tmp 1)⟩, ⟨(some 11), (some (9, true)), none, .ld false 1 (.tmp 10)⟩, ⟨(some 12), (some (9, true)), none, .bin .leq 3 (.tmp 11) (.val (.int .i64 4))⟩, ⟨(some 13), none, none, .pick (.tmp 9) (.tmp 12) (.val (.bool false))⟩, ⟨(some 2), none, none, .mov (.tmp 13)⟩])] [1, 5, 6, 7, 8, 9, 10, 11, 12, 13]
abbrev c_val_rightType_3 : SCode := .reg [([], [⟨(some 14), none, none, .fldA 0 (.tmp 1)⟩, ⟨(some 15), none, none, .ld false 1 (.tmp 14)⟩, ⟨(some 16), none, none, .bin .geq 3 (.tmp 15) (.val (.int .i64 1))⟩, ⟨(some 17), none, none, .mov (.tmp 16)⟩, ⟨(some 18), (some (17, true)), none, .fldA 0 (.tmp 1)⟩, ⟨(some 19), (some (17, true)), none, .ld false 1 (.tmp 18)⟩, ⟨(some 20), (some (17, true)), none, .bin .leq 3 (.tmp 19) (.val (.int .i64 4))⟩, ⟨(some 21), none, none, .pick (.tmp 17) (.tmp 20) (.val (.bool false))⟩, ⟨(some 22), none, none, .mov (.tmp 21)⟩, ⟨(some 23), (some (22, true)), none, .fldA 1 (.tmp 1)⟩, ⟨(some 24), (some (22, true)), none, .ld false 1 (.tmp 23)⟩, ⟨(some 25), (some (22, true)), none, .bin .eql 3 (.tmp 24) (.val (.int .i64 0))⟩, ⟨(some 26), none, none, .pick (.tmp 22) (.tmp 25) (.val (.bool false))⟩, ⟨(some 2), none, none, .mov (.tmp 26)⟩])] [1, 5, 14, 15, 16, 17, 18, 19, 20, 21, 22, 23, 24, 25, 26]
abbrev F_val_rightType : SFunc := ⟨27, (.seq c_val_rightType_0 (.seq (.seq c_val_rightType_1 (.cond (.tmp 5) (.seq c_val_rightType_2 .ret) .skip)) (.seq c_val_rightType_3 .ret))), [.tmp 2], false⟩
theorem tf_val_rightType : transFunc Go.Proofs.Tryz.prog 74 (hintT []) (fpT []) (killT [(0, [0, 2]), (1, [3, 4]), (2, [1, 5, 6, 7, 8, 9, 10, 11, 12, 13]), (3, [1, 5, 14, 15, 16, 17, 18, 19, 20, 21, 22, 23, 24, 25, 26])]) false = some F_val_rightType := by kernel_rfl
-- val.ofKind
abbrev c_val_ofKind_0 : SCode := .reg [([2], [⟨(some 2), none, none, .box (.tmp 0)⟩, ⟨(some 4), none, none, .mov (.val (.bool false))⟩])] [0, 4]
abbrev c_val_ofKind_1 : SCode := .reg [([], [⟨(some 5), none, none, .fldA 0 (.tmp 2)⟩, ⟨(some 6), none, none, .ld false 1 (.tmp 5)⟩, ⟨(some 7), none, none, .mov (.tmp 1)⟩, ⟨(some 8), none, none, .bin .eql 3 (.tmp 6) (.tmp 7)⟩, ⟨(some 9), none, none, .mov (.tmp 8)⟩, ⟨(some 10), (some (9, false)), none, .fldA 0 (.tmp 2)⟩, ⟨(some 11), (some (9, false)), none, .ld false 1 (.tmp 10)⟩, ⟨(some 12), (some (9, false)), none, .bin .eql 3 (.tmp 11) (.val (.int .i64 0))⟩, ⟨(some 13), (some (9, false)), none, .mov (.tmp 12)⟩, ⟨(some 14), (some (13, true)), none, .mov (.tmp 1)⟩, ⟨(some 15), (some (13, true)), none, .bin .eql 3 (.tmp 14) (.val (.int .i64 3))⟩, ⟨(some 16), (some (13, true)), none, .mov (.tmp 15)⟩, ⟨(some 17), (some (16, false)), none, .mov (.tmp 1)⟩, ⟨(some 18), (some (16, false)), none, .bin .eql 3 (.tmp 17) (.val (.int .i64 4))⟩, ⟨(some 19), (some (13, true)), none, .pick (.tmp 16) (.val (.bool true)) (.tmp 18)⟩, ⟨(some 20), (some (9, false)), none, .pick (.tmp 13) (.tmp 19) (.val (.bool false))⟩, ⟨(some 21), none, none, .pick (.tmp 9) (.val (.bool true)) (.tmp 20)⟩, ⟨(some 4), none, none, .mov (.tmp 21)⟩])] [1, 2, 5, 6, 7, 8, 9, 10, 11, 12, 13, 14, 15, 16, 17, 18, 19, 20, 21]
abbrev F_val_ofKind : SFunc := ⟨22, (.seq c_val_ofKind_0 (.seq c_val_ofKind_1 .ret)), [.tmp 4], false⟩
theorem tf_val_ofKind : transFunc Go.Proofs.Tryz.prog 75 (hintT []) (fpT []) (killT [(0, [0, 4]), (1, [1, 2, 5, 6, 7, 8, 9, 10, 11, 12, 13, 14, 15, 16, 17, 18, 19, 20, 21])]) false = some F_val_ofKind := by kernel_rfl
-- val.Fits$1
abbrev c_val_Fits_1_0 : SCode := .reg [([2], [⟨(some 2), none, none, .box (.tmp 0)⟩, ⟨(some 3), none, none, .mov (.val (.bool false))⟩])] [0, 3]
abbrev c_val_Fits_1_1 : SCode := .reg [([2028, 2029, 2030, 2031], [⟨(some 4), none, none, .ld true 4 (.tmp 2)⟩, ⟨(some 5), none, none, .fldA 1 (.tmp 1)⟩, ⟨(some 6), none, none, .ld false 1 (.tmp 5)⟩, ⟨(some 7), none, none, .call 75 0 [(.tmp 4), (.tmp 6)]⟩, ⟨(some 8), none, none, .un .not (.tmp 7)⟩, ⟨(some 3), none, none, .mov (.tmp 8)⟩])] [1, 2, 4, 5, 6, 7, 8]
abbrev F_val_Fits_1 : SFunc := ⟨9, (.seq c_val_Fits_1_0 (.seq c_val_Fits_1_1 .ret)), [.tmp 3], false⟩
theorem tf_val_Fits_1 : transFunc Go.Proofs.Tryz.prog 76 (hintT [(7, 0)]) (fpT []) (killT [(0, [0, 3]), (1, [1, 2, 4, 5, 6, 7, 8])]) false = some F_val_Fits_1 := by kernel_rfl
-- morainelaw03.ValText
abbrev c_morainelaw03_ValText_0 : SCode := .reg [([], [⟨(some 2), none, none, .mov (.val (.string ⟨#[]⟩))⟩])] [2]
abbrev c_morainelaw03_ValText_1 : SCode := .reg [([], [⟨(some 3), none, none, .mov (.val (.string ⟨#[]⟩))⟩])] []
abbrev c_morainelaw03_ValText_2 : SCode := .reg [([], [⟨(some 4), none, none, .mov (.val (.int .i64 0))⟩])] []
abbrev c_morainelaw03_ValText_3 : SCode := .reg [([], [⟨(some 7), none, none, .mov (.tmp 4)⟩, ⟨(some 8), none, none, .mov (.tmp 0)⟩, ⟨(some 9), none, none, .slen (.tmp 8)⟩, ⟨(some 10), none, none, .bin .lss 3 (.tmp 7) (.tmp 9)⟩, ⟨(some 11), none, none, .mov (.tmp 10)⟩, ⟨(some 12), (some (11, true)), none, .mov (.tmp 3)⟩, ⟨(some 13), (some (11, true)), none, .slen (.tmp 12)⟩, ⟨(some 14), (some (11, true)), none, .bin .lss 3 (.tmp 13) (.val (.int .i64 17))⟩, ⟨(some 15), none, none, .pick (.tmp 11) (.tmp 14) (.val (.bool false))⟩])] [7, 8, 9, 10, 11, 12, 13, 14]
abbrev c_morainelaw03_ValText_4 : SCode := .reg [([2076, 2077, 2078, 2079], [⟨(some 16), none, none, .mov (.tmp 0)⟩, ⟨(some 17), none, none, .mov (.tmp 4)⟩, ⟨(some 18), none, none, .ssub (.tmp 16) (some (.tmp 17)) none⟩, ⟨(some 19), none, none, .call 122 0 [(.tmp 18)]⟩, ⟨(some 20), none, none, .imm true (.tmp 19) (.val (.int .i64 1))⟩, ⟨(some 5), none, none, .mov (.tmp 20)⟩])] [15, 16, 17, 18, 19, 20]
abbrev c_morainelaw03_ValText_5 : SCode := .reg [([2108, 2109, 2110, 2111], [⟨(some 21), none, none, .mov (.tmp 0)⟩, ⟨(some 22), none, none, .mov (.tmp 4)⟩, ⟨(some 23), none, none, .mov (.tmp 4)⟩, ⟨(some 24), none, none, .mov (.tmp 5)⟩, ⟨(some 25), none, none, .bin .add 3 (.tmp 23) (.tmp 24)⟩, ⟨(some 26), none, none, .ssub (.tmp 21) (some (.tmp 22)) (some (.tmp 25))⟩, ⟨(some 27), none, none, .call 68 0 [(.tmp 26)]⟩, ⟨(some 6), none, none, .mov (.tmp 27)⟩])] [21, 22, 23, 24, 25, 26, 27]
abbrev c_morainelaw03_ValText_6 : SCode := .reg [([], [⟨(some 28), none, none, .mov (.tmp 6)⟩])] [6]
abbrev c_morainelaw03_ValText_7 : SCode := .reg [([], [⟨(some 29), none, none, .mov (.tmp 3)⟩, ⟨(some 30), none, none, .mov (.tmp 0)⟩, ⟨(some 31), none, none, .mov (.tmp 4)⟩, ⟨(some 32), none, none, .mov (.tmp 4)⟩, ⟨(some 33), none, none, .mov (.tmp 5)⟩, ⟨(some 34), none, none, .bin .add 3 (.tmp 32) (.tmp 33)⟩, ⟨(some 35), none, none, .ssub (.tmp 30) (some (.tmp 31)) (some (.tmp 34))⟩, ⟨(some 36), none, none, .bin .add 9 (.tmp 29) (.tmp 35)⟩, ⟨(some 3), none, none, .mov (.tmp 36)⟩])] [28, 29, 30, 31, 32, 33, 34, 35, 36]
abbrev c_morainelaw03_ValText_8 : SCode := .reg [([], [⟨(some 37), none, none, .mov (.tmp 4)⟩, ⟨(some 38), none, none, .mov (.tmp 5)⟩, ⟨(some 39), none, none, .bin .add 3 (.tmp 37) (.tmp 38)⟩, ⟨(some 4), none, none, .mov (.tmp 39)⟩])] [5, 28, 37, 38, 39]
abbrev c_morainelaw03_ValText_9 : SCode := (.seq (.seq c_morainelaw03_ValText_3 (.cond (.tmp 15) .skip (.exit 0))) (.block 1 (.seq c_morainelaw03_ValText_4 (.seq c_morainelaw03_ValText_5 (.seq (.seq c_morainelaw03_ValText_6 (.cond (.tmp 28) c_morainelaw03_ValText_7 .skip)) c_morainelaw03_ValText_8)))))
abbrev c_morainelaw03_ValText_10 : SCode := .reg [([], [⟨(some 40), none, none, .mov (.tmp 3)⟩, ⟨(some 2), none, none, .mov (.tmp 40)⟩])] [0, 3, 4, 40]
abbrev F_morainelaw03_ValText : SFunc := ⟨41, (.seq c_morainelaw03_ValText_0 (.seq c_morainelaw03_ValText_1 (.seq (.seq c_morainelaw03_ValText_2 (.block 0 (.loop c_morainelaw03_ValText_9))) (.seq c_morainelaw03_ValText_10 .ret)))), [.tmp 2], false⟩
theorem tf_morainelaw03_ValText : transFunc Go.Proofs.Tryz.prog 103 (hintT [(19, 0), (27, 0)]) (fpT []) (killT [(0, [2]), (3, [7, 8, 9, 10, 11, 12, 13, 14]), (4, [15, 16, 17, 18, 19, 20]), (5, [21, 22, 23, 24, 25, 26, 27]), (6, [6]), (7, [28, 29, 30, 31, 32, 33, 34, 35, 36]), (8, [5, 28, 37, 38, 39]), (9, [0, 3, 4, 40])]) false = some F_morainelaw03_ValText := by kernel_rfl
-- val.reader$1
abbrev c_val_reader_1_0 : SCode := .reg [([4], [⟨(some 4), none, none, .new [(.int .i64 0), (.int .i64 0), (.string ⟨#[]⟩), (.slice none 0 0)]⟩, ⟨(some 5), none, none, .mov (.val (.int .i64 0))⟩, ⟨(some 6), none, none, .mov (.val (.bool false))⟩])] [5, 6]
abbrev c_val_reader_1_1 : SCode := .reg [([2056, 2057, 2058, 2059, 7], [⟨(some 10), none, none, .mov (.tmp 0)⟩, ⟨(some 11), none, none, .ld false 1 (.tmp 1)⟩, ⟨(some 12), none, none, .ld false 1 (.tmp 2)⟩, ⟨(some 13), none, none, .ssub (.tmp 11) (some (.tmp 12)) none⟩, ⟨(some 14), none, none, .callv (.tmp 10) 1 [(.tmp 13)]⟩, ⟨(some 9), none, none, .mov (.tmp 14)⟩, ⟨(some 15), none, none, .ext (.tmp 9) 0⟩, ⟨(some 16), none, none, .ext (.tmp 9) 1⟩, ⟨(some 7), none, none, .new [(.int .i64 0), (.int .i64 0), (.string ⟨#[]⟩), (.slice none 0 0)]⟩, ⟨none, none, none, .st 4 (.tmp 7) (.tmp 15)⟩, ⟨(some 8), none, none, .mov (.tmp 16)⟩])] [0, 1, 9, 10, 11, 12, 13, 14, 15, 16]
abbrev c_val_reader_1_2 : SCode := .reg [([], [⟨(some 17), none, none, .ld false 1 (.tmp 2)⟩, ⟨(some 18), none, none, .mov (.tmp 8)⟩, ⟨(some 19), none, none, .bin .add 3 (.tmp 17) (.tmp 18)⟩, ⟨none, none, none, .st 1 (.tmp 2) (.tmp 19)⟩])] [17, 18, 19]
abbrev c_val_reader_1_3 : SCode := .reg [([], [⟨(some 20), none, (some 7), .ld true 4 (.tmp 7)⟩, ⟨(some 21), none, (some 1000), .ld false 1 (.tmp 2)⟩, ⟨(some 22), none, none, .mov (.tmp 8)⟩, ⟨(some 23), none, none, .bin .gtr 3 (.tmp 22) (.val (.int .i64 0))⟩, ⟨none, none, (some 4), .st 4 (.tmp 4) (.tmp 20)⟩, ⟨(some 5), none, none, .mov (.tmp 21)⟩, ⟨(some 6), none, none, .mov (.tmp 23)⟩]), ([], [⟨(some 20), none, (some 7), .ld true 4 (.tmp 7)⟩, ⟨(some 21), none, (some 1001), .ld false 1 (.tmp 2)⟩, ⟨(some 22), none, none, .mov (.tmp 8)⟩, ⟨(some 23), none, none, .bin .gtr 3 (.tmp 22) (.val (.int .i64 0))⟩, ⟨none, none, (some 4), .st 4 (.tmp 4) (.tmp 20)⟩, ⟨(some 5), none, none, .mov (.tmp 21)⟩, ⟨(some 6), none, none, .mov (.tmp 23)⟩]), ([], [⟨(some 20), none, (some 7), .ld true 4 (.tmp 7)⟩, ⟨(some 21), none, (some 1002), .ld false 1 (.tmp 2)⟩, ⟨(some 22), none, none, .mov (.tmp 8)⟩, ⟨(some 23), none, none, .bin .gtr 3 (.tmp 22) (.val (.int .i64 0))⟩, ⟨none, none, (some 4), .st 4 (.tmp 4) (.tmp 20)⟩, ⟨(some 5), none, none, .mov (.tmp 21)⟩, ⟨(some 6), none, none, .mov (.tmp 23)⟩]), ([], [⟨(some 20), none, (some 7), .ld true 4 (.tmp 7)⟩, ⟨(some 21), none, (some 1003), .ld false 1 (.tmp 2)⟩, ⟨(some 22), none, none, .mov (.tmp 8)⟩, ⟨(some 23), none, none, .bin .gtr 3 (.tmp 22) (.val (.int .i64 0))⟩, ⟨none, none, (some 4), .st 4 (.tmp 4) (.tmp 20)⟩, ⟨(some 5), none, none, .mov (.tmp 21)⟩, ⟨(some 6), none, none, .mov (.tmp 23)⟩])] [2, 7, 8, 20, 21, 22, 23]
abbrev F_val_reader_1 : SFunc := ⟨24, (.seq c_val_reader_1_0 (.seq c_val_reader_1_1 (.seq c_val_reader_1_2 (.seq c_val_reader_1_3 .ret)))), [.cell true 4 4, .tmp 5, .tmp 6], false⟩
theorem tf_val_reader_1 : transFunc Go.Proofs.Tryz.prog 104 (hintT [(14, 1)]) (fpT [(3, [[(0, 7), (4, 4), (1, 1000)], [(0, 7), (4, 4), (1, 1001)], [(0, 7), (4, 4), (1, 1002)], [(0, 7), (4, 4), (1, 1003)]])]) (killT [(0, [5, 6]), (1, [0, 1, 9, 10, 11, 12, 13, 14, 15, 16]), (2, [17, 18, 19]), (3, [2, 7, 8, 20, 21, 22, 23])]) false = some F_val_reader_1 := by kernel_rfl
-- val.first
abbrev c_val_first_0 : SCode := .reg [([], [⟨(some 2), none, none, .mov (.val (.int .i32 0))⟩])] [2]
abbrev c_val_first_1 : SCode := .reg [([], [⟨(some 5), none, none, .mov (.tmp 0)⟩, ⟨(some 6), none, none, .bin .eql 9 (.tmp 5) (.val (.string ⟨#[]⟩))⟩])] [5]
abbrev c_val_first_2 : SCode := .reg [([], [⟨(some 2), none, none, .mov (.val (.int .i32 0))⟩])] [0, 6]
abbrev c_val_first_3 : SCode := .reg [([2036, 2037, 2038, 2039], [⟨(some 8), none, none, .mov (.tmp 0)⟩, ⟨(some 9), none, none, .call 149 0 [(.tmp 8)]⟩, ⟨(some 7), none, none, .mov (.tmp 9)⟩, ⟨(some 10), none, none, .ext (.tmp 7) 0⟩, ⟨(some 11), none, none, .ext (.tmp 7) 1⟩, ⟨(some 3), none, none, .mov (.tmp 10)⟩, ⟨(some 4), none, none, .mov (.tmp 11)⟩])] [0, 2, 4, 6, 7, 8, 9, 10, 11]
abbrev c_val_first_4 : SCode := .reg [([], [⟨(some 12), none, none, .mov (.tmp 3)⟩, ⟨(some 2), none, none, .mov (.tmp 12)⟩])] [3, 12]
abbrev F_val_first : SFunc := ⟨13, (.seq c_val_first_0 (.seq (.seq c_val_first_1 (.cond (.tmp 6) (.seq c_val_first_2 .ret) .skip)) (.seq c_val_first_3 (.seq c_val_first_4 .ret)))), [.tmp 2], false⟩
theorem tf_val_first : transFunc Go.Proofs.Tryz.prog 105 (hintT [(9, 0)]) (fpT []) (killT [(0, [2]), (1, [5]), (2, [0, 6]), (3, [0, 2, 4, 6, 7, 8, 9, 10, 11]), (4, [3, 12])]) false = some F_val_first := by kernel_rfl
-- val.quoted
abbrev c_val_quoted_0 : SCode := .reg [([], [⟨(some 2), none, none, .mov (.val (.string ⟨#[]⟩))⟩, ⟨(some 3), none, none, .mov (.val (.int .i64 0))⟩])] [2, 3]
abbrev c_val_quoted_1 : SCode := .reg [([], [⟨(some 4), none, none, .mov (.val (.slice none 0 0))⟩])] []
abbrev c_val_quoted_2 : SCode := .reg [([], [⟨(some 5), none, none, .mov (.val (.int .i64 1))⟩])] []
abbrev c_val_quoted_3 : SCode := .reg [([], [⟨(some 8), none, none, .mov (.tmp 5)⟩, ⟨(some 9), none, none, .mov (.tmp 0)⟩, ⟨(some 10), none, none, .slen (.tmp 9)⟩, ⟨(some 11), none, none, .bin .lss 3 (.tmp 8) (.tmp 10)⟩, ⟨(some 12), none, none, .mov (.tmp 11)⟩, ⟨(some 13), (some (12, true)), none, .mov (.tmp 4)⟩, ⟨(some 14), (some (12, true)), none, .len (.tmp 13)⟩, ⟨(some 15), (some (12, true)), none, .bin .leq 3 (.tmp 14) (.val (.int .i64 60))⟩, ⟨(some 16), none, none, .pick (.tmp 12) (.tmp 15) (.val (.bool false))⟩])] [8, 9, 10, 11, 12, 13, 14, 15]
abbrev c_val_quoted_4 : SCode := .reg [([2084, 2085, 2086, 2087], [⟨(some 18), none, none, .mov (.tmp 0)⟩, ⟨(some 19), none, none, .mov (.tmp 5)⟩, ⟨(some 20), none, none, .ssub (.tmp 18) (some (.tmp 19)) none⟩, ⟨(some 21), none, none, .call 149 0 [(.tmp 20)]⟩, ⟨(some 17), none, none, .mov (.tmp 21)⟩, ⟨(some 22), none, none, .ext (.tmp 17) 0⟩, ⟨(some 23), none, none, .ext (.tmp 17) 1⟩, ⟨(some 6), none, none, .mov (.tmp 22)⟩, ⟨(some 7), none, none, .mov (.tmp 23)⟩])] [16, 17, 18, 19, 20, 21, 22, 23]
abbrev c_val_quoted_5 : SCode := .reg [([], [⟨(some 24), none, none, .mov (.tmp 6)⟩])] [6]
abbrev c_val_quoted_6 : SCode := .reg [([], [⟨(some 26), none, none, .bin .eql 21 (.tmp 24) (.val (.int .i32 34))⟩, ⟨(some 25), none, none, .mov (.tmp 26)⟩])] [26]
abbrev c_val_quoted_7 : SCode := .reg [([2116, 2117, 2118, 2119], [⟨(some 27), none, none, .mov (.tmp 4)⟩, ⟨(some 28), none, none, .b2s (.tmp 27)⟩, ⟨(some 29), none, none, .call 64 0 [(.tmp 28)]⟩, ⟨(some 30), none, none, .un .not (.tmp 29)⟩])] [0, 7, 24, 25, 27, 28, 29]
abbrev c_val_quoted_8 : SCode := .reg [([], [⟨(some 2), none, none, .mov (.val (.string ⟨#[]⟩))⟩, ⟨(some 3), none, none, .mov (.val (.int .i64 0))⟩])] [4, 5, 30]
abbrev c_val_quoted_9 : SCode := .reg [([], [⟨(some 31), none, none, .mov (.tmp 4)⟩, ⟨(some 32), none, none, .b2s (.tmp 31)⟩, ⟨(some 33), none, none, .mov (.tmp 5)⟩, ⟨(some 34), none, none, .bin .add 3 (.tmp 33) (.val (.int .i64 1))⟩, ⟨(some 2), none, none, .mov (.tmp 32)⟩, ⟨(some 3), none, none, .mov (.tmp 34)⟩])] [4, 5, 30, 31, 32, 33, 34]
abbrev c_val_quoted_10 : SCode := .reg [([], [⟨(some 36), none, none, .bin .eql 21 (.tmp 24) (.val (.int .i32 92))⟩, ⟨(some 35), none, none, .mov (.tmp 36)⟩])] [24, 25, 36]
abbrev c_val_quoted_11 : SCode := .reg [([], [⟨(some 37), none, none, .mov (.tmp 5)⟩, ⟨(some 38), none, none, .bin .add 3 (.tmp 37) (.val (.int .i64 1))⟩, ⟨(some 5), none, none, .mov (.tmp 38)⟩])] [35, 37, 38]
abbrev c_val_quoted_12 : SCode := .reg [([], [⟨(some 39), none, none, .mov (.tmp 5)⟩, ⟨(some 40), none, none, .mov (.tmp 0)⟩, ⟨(some 41), none, none, .slen (.tmp 40)⟩, ⟨(some 42), none, none, .bin .eql 3 (.tmp 39) (.tmp 41)⟩, ⟨(some 43), none, none, .mov (.tmp 42)⟩, ⟨(some 44), (some (43, false)), none, .mov (.tmp 0)⟩, ⟨(some 45), (some (43, false)), none, .mov (.tmp 5)⟩, ⟨(some 46), (some (43, false)), none, .sidx (.tmp 44) (.tmp 45)⟩, ⟨(some 47), (some (43, false)), none, .bin .neq 5 (.tmp 46) (.val (.int .u8 34))⟩, ⟨(some 48), (some (43, false)), none, .mov (.tmp 47)⟩, ⟨(some 49), (some (48, true)), none, .mov (.tmp 0)⟩, ⟨(some 50), (some (48, true)), none, .mov (.tmp 5)⟩, ⟨(some 51), (some (48, true)), none, .sidx (.tmp 49) (.tmp 50)⟩, ⟨(some 52), (some (48, true)), none, .bin .neq 5 (.tmp 51) (.val (.int .u8 92))⟩, ⟨(some 53), (some (43, false)), none, .pick (.tmp 48) (.tmp 52) (.val (.bool false))⟩, ⟨(some 54), none, none, .pick (.tmp 43) (.val (.bool true)) (.tmp 53)⟩])] [39, 40, 41, 42, 43, 44, 45, 46, 47, 48, 49, 50, 51, 52, 53]
abbrev c_val_quoted_13 : SCode := .reg [([], [⟨(some 2), none, none, .mov (.val (.string ⟨#[]⟩))⟩, ⟨(some 3), none, none, .mov (.val (.int .i64 0))⟩])] [0, 4, 5, 7, 54]
abbrev c_val_quoted_14 : SCode := .reg [([], [⟨(some 55), none, none, .mov (.tmp 4)⟩, ⟨(some 56), none, none, .mov (.tmp 0)⟩, ⟨(some 57), none, none, .mov (.tmp 5)⟩, ⟨(some 58), none, none, .mov (.tmp 5)⟩, ⟨(some 59), none, none, .mov (.tmp 7)⟩, ⟨(some 60), none, none, .bin .add 3 (.tmp 58) (.tmp 59)⟩, ⟨(some 61), none, none, .ssub (.tmp 56) (some (.tmp 57)) (some (.tmp 60))⟩, ⟨(some 62), none, none, .appS 5 1 (.tmp 55) (.tmp 61)⟩, ⟨(some 4), none, none, .mov (.tmp 62)⟩]), ([62], [⟨(some 55), none, none, .mov (.tmp 4)⟩, ⟨(some 56), none, none, .mov (.tmp 0)⟩, ⟨(some 57), none, none, .mov (.tmp 5)⟩, ⟨(some 58), none, none, .mov (.tmp 5)⟩, ⟨(some 59), none, none, .mov (.tmp 7)⟩, ⟨(some 60), none, none, .bin .add 3 (.tmp 58) (.tmp 59)⟩, ⟨(some 61), none, none, .ssub (.tmp 56) (some (.tmp 57)) (some (.tmp 60))⟩, ⟨(some 62), none, none, .appNS 5 1 (.tmp 55) (.tmp 61)⟩, ⟨(some 4), none, none, .mov (.tmp 62)⟩])] [2, 3, 35, 54, 55, 56, 57, 58, 59, 60, 61, 62]
abbrev c_val_quoted_15 : SCode := .reg [([], [⟨(some 63), none, none, .mov (.tmp 5)⟩, ⟨(some 64), none, none, .mov (.tmp 7)⟩, ⟨(some 65), none, none, .bin .add 3 (.tmp 63) (.tmp 64)⟩, ⟨(some 5), none, none, .mov (.tmp 65)⟩])] [7, 63, 64, 65]
abbrev c_val_quoted_16 : SCode := (.seq (.seq c_val_quoted_3 (.cond (.tmp 16) .skip (.exit 0))) (.block 1 (.seq c_val_quoted_4 (.seq (.seq c_val_quoted_5 (.block 2 (.seq c_val_quoted_6 (.cond (.tmp 25) (.seq (.seq c_val_quoted_7 (.cond (.tmp 30) (.seq c_val_quoted_8 .ret) .skip)) (.seq c_val_quoted_9 .ret)) (.seq c_val_quoted_10 (.cond (.tmp 35) (.seq c_val_quoted_11 (.seq c_val_quoted_12 (.cond (.tmp 54) (.seq c_val_quoted_13 .ret) .skip))) .skip)))))) (.seq c_val_quoted_14 c_val_quoted_15)))))
abbrev c_val_quoted_17 : SCode := .reg [([], [⟨(some 2), none, none, .mov (.val (.string ⟨#[]⟩))⟩, ⟨(some 3), none, none, .mov (.val (.int .i64 0))⟩])] [0, 4, 5]
abbrev F_val_quoted : SFunc := ⟨66, (.seq c_val_quoted_0 (.seq c_val_quoted_1 (.seq (.seq c_val_quoted_2 (.block 0 (.loop c_val_quoted_16))) (.seq c_val_quoted_17 .ret)))), [.tmp 2, .tmp 3], false⟩
theorem tf_val_quoted : transFunc Go.Proofs.Tryz.prog 106 (hintT [(21, 0), (29, 0)]) (fpT []) (killT [(0, [2, 3]), (3, [8, 9, 10, 11, 12, 13, 14, 15]), (4, [16, 17, 18, 19, 20, 21, 22, 23]), (5, [6]), (6, [26]), (7, [0, 7, 24, 25, 27, 28, 29]), (8, [4, 5, 30]), (9, [4, 5, 30, 31, 32, 33, 34]), (10, [24, 25, 36]), (11, [35, 37, 38]), (12, [39, 40, 41, 42, 43, 44, 45, 46, 47, 48, 49, 50, 51, 52, 53]), (13, [0, 4, 5, 7, 54]), (14, [2, 3, 35, 54, 55, 56, 57, 58, 59, 60, 61, 62]), (15, [7, 63, 64, 65]), (16, [0, 4, 5])]) false = some F_val_quoted := by kernel_rfl
-- val.reference
abbrev c_val_reference_0 : SCode := .reg [([], [⟨(some 2), none, none, .mov (.val (.int .i64 0))⟩, ⟨(some 3), none, none, .mov (.val (.int .i64 0))⟩])] [2, 3]
abbrev c_val_reference_1 : SCode := .reg [([2036, 2037, 2038, 2039], [⟨(some 7), none, none, .mov (.tmp 0)⟩, ⟨(some 8), none, none, .ssub (.tmp 7) (some (.val (.int .i64 1))) none⟩, ⟨(some 9), none, none, .call 108 0 [(.tmp 8), (.val (.int .i64 (-20))), (.val (.int .i64 100000))]⟩, ⟨(some 6), none, none, .mov (.tmp 9)⟩, ⟨(some 10), none, none, .ext (.tmp 6) 0⟩, ⟨(some 11), none, none, .ext (.tmp 6) 1⟩, ⟨(some 4), none, none, .mov (.tmp 10)⟩, ⟨(some 5), none, none, .mov (.tmp 11)⟩])] [0, 6, 7, 8, 9, 10, 11]
abbrev c_val_reference_2 : SCode := .reg [([], [⟨(some 12), none, none, .mov (.tmp 4)⟩, ⟨(some 13), none, none, .bin .eql 3 (.tmp 12) (.val (.int .i64 0))⟩])] [12]
abbrev c_val_reference_3 : SCode := .reg [([], [⟨(some 2), none, none, .mov (.val (.int .i64 0))⟩, ⟨(some 3), none, none, .mov (.val (.int .i64 0))⟩])] [4, 5, 13]
abbrev c_val_reference_4 : SCode := .reg [([], [⟨(some 14), none, none, .mov (.tmp 4)⟩, ⟨(some 15), none, none, .mov (.tmp 5)⟩, ⟨(some 16), none, none, .bin .add 3 (.tmp 15) (.val (.int .i64 1))⟩, ⟨(some 2), none, none, .mov (.tmp 14)⟩, ⟨(some 3), none, none, .mov (.tmp 16)⟩])] [4, 5, 13, 14, 15, 16]
abbrev F_val_reference : SFunc := ⟨17, (.seq c_val_reference_0 (.seq c_val_reference_1 (.seq (.seq c_val_reference_2 (.cond (.tmp 13) (.seq c_val_reference_3 .ret) .skip)) (.seq c_val_reference_4 .ret)))), [.tmp 2, .tmp 3], false⟩
theorem tf_val_reference : transFunc Go.Proofs.Tryz.prog 107 (hintT [(9, 0)]) (fpT []) (killT [(0, [2, 3]), (1, [0, 6, 7, 8, 9, 10, 11]), (2, [12]), (3, [4, 5, 13]), (4, [4, 5, 13, 14, 15, 16])]) false = some F_val_reference := by kernel_rfl
-- val.number
abbrev c_val_number_0 : SCode := .reg [([], [⟨(some 6), none, none, .mov (.val (.int .i64 0))⟩, ⟨(some 7), none, none, .mov (.val (.int .i64 0))⟩])] [6, 7]
abbrev c_val_number_1 : SCode := .reg [([], [⟨(some 8), none, none, .mov (.val (.int .i64 0))⟩, ⟨(some 9), none, none, .mov (.val (.int .i64 0))⟩, ⟨(some 10), none, none, .mov (.val (.int .i64 0))⟩, ⟨(some 11), none, none, .mov (.val (.int .i64 0))⟩])] []
abbrev c_val_number_2 : SCode := .reg [([2060, 2061, 2062, 2063], [⟨(some 14), none, none, .mov (.tmp 0)⟩, ⟨(some 15), none, none, .call 105 0 [(.tmp 14)]⟩, ⟨(some 16), none, none, .bin .eql 21 (.tmp 15) (.val (.int .i32 45))⟩])] [14, 15]
abbrev c_val_number_3 : SCode := .reg [([], [⟨(some 11), none, none, .mov (.val (.int .i64 1))⟩])] [16]
abbrev c_val_number_4 : SCode := .reg [([], [⟨(some 17), none, none, .mov (.tmp 11)⟩, ⟨(some 12), none, none, .mov (.tmp 17)⟩])] [16, 17]
abbrev c_val_number_5 : SCode := .reg [([], [⟨(some 18), none, none, .mov (.tmp 11)⟩, ⟨(some 19), none, none, .mov (.tmp 0)⟩, ⟨(some 20), none, none, .slen (.tmp 19)⟩, ⟨(some 21), none, none, .bin .lss 3 (.tmp 18) (.tmp 20)⟩, ⟨(some 22), none, none, .mov (.tmp 21)⟩, ⟨(some 23), (some (22, true)), none, .mov (.tmp 0)⟩, ⟨(some 24), (some (22, true)), none, .mov (.tmp 11)⟩, ⟨(some 25), (some (22, true)), none, .sidx (.tmp 23) (.tmp 24)⟩, ⟨(some 26), (some (22, true)), none, .bin .geq 5 (.tmp 25) (.val (.int .u8 48))⟩, ⟨(some 27), none, none, .pick (.tmp 22) (.tmp 26) (.val (.bool false))⟩, ⟨(some 28), none, none, .mov (.tmp 27)⟩, ⟨(some 29), (some (28, true)), none, .mov (.tmp 0)⟩, ⟨(some 30), (some (28, true)), none, .mov (.tmp 11)⟩, ⟨(some 31), (some (28, true)), none, .sidx (.tmp 29) (.tmp 30)⟩, ⟨(some 32), (some (28, true)), none, .bin .leq 5 (.tmp 31) (.val (.int .u8 57))⟩, ⟨(some 33), none, none, .pick (.tmp 28) (.tmp 32) (.val (.bool false))⟩])] [18, 19, 20, 21, 22, 23, 24, 25, 26, 27, 28, 29, 30, 31, 32]
abbrev c_val_number_6 : SCode := .reg [([], [⟨(some 36), none, none, .mov (.tmp 8)⟩, ⟨(some 37), none, none, .bin .mul 3 (.val (.int .i64 10)) (.tmp 36)⟩, ⟨(some 38), none, none, .mov (.tmp 0)⟩, ⟨(some 39), none, none, .mov (.tmp 11)⟩, ⟨(some 40), none, none, .sidx (.tmp 38) (.tmp 39)⟩, ⟨(some 41), none, none, .bin .sub 5 (.tmp 40) (.val (.int .u8 48))⟩, ⟨(some 42), none, none, .cvi .i64 (.tmp 41)⟩, ⟨(some 43), none, none, .bin .add 3 (.tmp 37) (.tmp 42)⟩, ⟨(some 8), none, none, .mov (.tmp 43)⟩])] [33, 36, 37, 38, 39, 40, 41, 42, 43]
abbrev c_val_number_7 : SCode := .reg [([], [⟨(some 44), none, none, .mov (.tmp 8)⟩, ⟨(some 45), none, none, .bin .gtr 3 (.tmp 44) (.val (.int .i64 1000000000000000))⟩, ⟨(some 46), none, none, .mov (.tmp 45)⟩, ⟨(some 47), (some (46, false)), none, .mov (.tmp 12)⟩, ⟨(some 48), (some (46, false)), none, .bin .eql 3 (.tmp 47) (.val (.int .i64 1))⟩, ⟨(some 49), (some (46, false)), none, .mov (.tmp 48)⟩, ⟨(some 50), (some (49, true)), none, .mov (.tmp 8)⟩, ⟨(some 51), (some (49, true)), none, .bin .eql 3 (.tmp 50) (.val (.int .i64 0))⟩, ⟨(some 52), (some (46, false)), none, .pick (.tmp 49) (.tmp 51) (.val (.bool false))⟩, ⟨(some 53), none, none, .pick (.tmp 46) (.val (.bool true)) (.tmp 52)⟩])] [44, 45, 46, 47, 48, 49, 50, 51, 52]
abbrev c_val_number_8 : SCode := .reg [([], [⟨(some 54), none, none, .mov (.tmp 8)⟩, ⟨(some 13), none, none, .mov (.tmp 54)⟩])] [53, 54]
abbrev c_val_number_9 : SCode := .reg [([], [⟨(some 55), none, none, .mov (.tmp 12)⟩, ⟨(some 56), none, none, .bin .eql 3 (.tmp 55) (.val (.int .i64 1))⟩])] [55]
abbrev c_val_number_10 : SCode := .reg [([], [⟨(some 57), none, none, .mov (.tmp 8)⟩, ⟨(some 58), none, none, .un .neg (.tmp 57)⟩, ⟨(some 13), none, none, .mov (.tmp 58)⟩])] [56, 57, 58]
abbrev c_val_number_11 : SCode := .reg [([], [⟨(some 59), none, none, .mov (.tmp 13)⟩, ⟨(some 60), none, none, .mov (.tmp 1)⟩, ⟨(some 61), none, none, .bin .geq 3 (.tmp 59) (.tmp 60)⟩, ⟨(some 62), none, none, .mov (.tmp 61)⟩, ⟨(some 63), (some (62, true)), none, .mov (.tmp 13)⟩, ⟨(some 64), (some (62, true)), none, .mov (.tmp 2)⟩, ⟨(some 65), (some (62, true)), none, .bin .leq 3 (.tmp 63) (.tmp 64)⟩, ⟨(some 66), none, none, .pick (.tmp 62) (.tmp 65) (.val (.bool false))⟩])] [56, 59, 60, 61, 62, 63, 64, 65]
abbrev c_val_number_12 : SCode := .reg [([], [⟨(some 67), none, none, .mov (.tmp 13)⟩, ⟨(some 68), none, none, .mov (.tmp 11)⟩, ⟨(some 69), none, none, .bin .add 3 (.tmp 68) (.val (.int .i64 1))⟩, ⟨(some 9), none, none, .mov (.tmp 67)⟩, ⟨(some 10), none, none, .mov (.tmp 69)⟩])] [13, 66, 67, 68, 69]
abbrev c_val_number_13 : SCode := .reg [([], [⟨(some 70), none, none, .mov (.tmp 8)⟩, ⟨(some 71), none, none, .bin .eql 3 (.tmp 70) (.val (.int .i64 0))⟩])] [13, 66, 70]
abbrev c_val_number_14 : SCode := .reg [([], [⟨(some 34), none, none, .mov (.tmp 11)⟩, ⟨(some 35), none, none, .bin .add 3 (.tmp 34) (.val (.int .i64 1))⟩, ⟨(some 11), none, none, .mov (.tmp 35)⟩])] [34, 35, 71]
abbrev c_val_number_15 : SCode := (.seq (.seq c_val_number_5 (.cond (.tmp 33) .skip (.exit 0))) (.seq (.block 1 (.seq c_val_number_6 (.seq (.seq c_val_number_7 (.cond (.tmp 53) (.exit 0) .skip)) (.seq c_val_number_8 (.seq (.seq c_val_number_9 (.cond (.tmp 56) c_val_number_10 .skip)) (.seq (.seq c_val_number_11 (.cond (.tmp 66) c_val_number_12 .skip)) (.seq c_val_number_13 (.cond (.tmp 71) (.exit 0) .skip)))))))) c_val_number_14))
abbrev c_val_number_16 : SCode := .reg [([], [⟨(some 72), none, none, .mov (.tmp 9)⟩, ⟨(some 73), none, none, .mov (.tmp 10)⟩, ⟨(some 6), none, none, .mov (.tmp 72)⟩, ⟨(some 7), none, none, .mov (.tmp 73)⟩])] [0, 1, 2, 8, 9, 10, 11, 12, 72, 73]
abbrev F_val_number : SFunc := ⟨74, (.seq c_val_number_0 (.seq c_val_number_1 (.seq (.seq c_val_number_2 (.cond (.tmp 16) c_val_number_3 .skip)) (.seq (.seq c_val_number_4 (.block 0 (.loop c_val_number_15))) (.seq c_val_number_16 .ret))))), [.tmp 6, .tmp 7], false⟩
theorem tf_val_number : transFunc Go.Proofs.Tryz.prog 108 (hintT [(15, 0)]) (fpT []) (killT [(0, [6, 7]), (2, [14, 15]), (3, [16]), (4, [16, 17]), (5, [18, 19, 20, 21, 22, 23, 24, 25, 26, 27, 28, 29, 30, 31, 32]), (7, [33, 36, 37, 38, 39, 40, 41, 42, 43]), (8, [44, 45, 46, 47, 48, 49, 50, 51, 52]), (9, [53, 54]), (10, [55]), (11, [56, 57, 58]), (12, [56, 59, 60, 61, 62, 63, 64, 65]), (13, [13, 66, 67, 68, 69]), (14, [13, 66, 70]), (6, [34, 35, 71]), (15, [0, 1, 2, 8, 9, 10, 11, 12, 72, 73])]) false = some F_val_number := by kernel_rfl
-- val.sign
abbrev c_val_sign_0 : SCode := .reg [([1], [⟨(some 1), none, none, .box (.tmp 0)⟩, ⟨(some 2), none, none, .mov (.val .nilFunc)⟩])] [0, 2]
abbrev c_val_sign_1 : SCode := .reg [([], [⟨(some 3), none, none, .mkf (.func 150) [] [(.tmp 1)]⟩, ⟨(some 2), none, none, .mov (.tmp 3)⟩])] [1, 3]
abbrev F_val_sign : SFunc := ⟨4, (.seq c_val_sign_0 (.seq c_val_sign_1 .ret)), [.tmp 2], false⟩
theorem tf_val_sign : transFunc Go.Proofs.Tryz.prog 109 (hintT []) (fpT []) (killT [(0, [0, 2]), (1, [1, 3])]) false = some F_val_sign := by kernel_rfl
-- (*val.decoder).number
abbrev c___val_decoder__number_0 : SCode := .reg [([], [⟨(some 6), none, none, .mov (.val (.int .i64 0))⟩, ⟨(some 7), none, none, .mov (.val (.int .i64 0))⟩])] [6, 7]
abbrev c___val_decoder__number_1 : SCode := .reg [([2080, 2081, 2082, 2083], [⟨(some 12), none, none, .mov (.tmp 0)⟩, ⟨(some 13), none, none, .nchk (.tmp 12)⟩, ⟨(some 14), none, none, .fldA 0 (.tmp 13)⟩, ⟨(some 15), none, none, .ld false 1 (.tmp 14)⟩, ⟨(some 16), none, none, .mov (.tmp 0)⟩, ⟨(some 17), none, none, .nchk (.tmp 16)⟩, ⟨(some 18), none, none, .fldA 1 (.tmp 17)⟩, ⟨(some 19), none, none, .ld false 1 (.tmp 18)⟩, ⟨(some 20), none, none, .call 152 0 [(.tmp 15), (.tmp 19)]⟩, ⟨(some 11), none, none, .mov (.tmp 20)⟩, ⟨(some 21), none, none, .ext (.tmp 11) 0⟩, ⟨(some 22), none, none, .ext (.tmp 11) 1⟩, ⟨(some 23), none, none, .ext (.tmp 11) 2⟩, ⟨(some 8), none, none, .mov (.tmp 21)⟩, ⟨(some 9), none, none, .mov (.tmp 22)⟩, ⟨(some 10), none, none, .mov (.tmp 23)⟩])] [11, 12, 13, 14, 15, 16, 17, 18, 19, 20, 21, 22, 23]
abbrev c___val_decoder__number_2 : SCode := .reg [([], [⟨(some 24), none, none, .mov (.tmp 10)⟩, ⟨(some 25), none, none, .bin .neq 28 (.tmp 24) (.val (.int .i64 0))⟩])] [10, 24]
abbrev c___val_decoder__number_3 : SCode := .reg [([], [⟨(some 6), none, none, .mov (.val (.int .i64 0))⟩, ⟨(some 7), none, none, .mov (.val (.int .i64 10))⟩])] [0, 1, 2, 8, 9, 25]
abbrev c___val_decoder__number_4 : SCode := .reg [([], [⟨(some 26), none, none, .mov (.tmp 8)⟩, ⟨(some 27), none, none, .mov (.tmp 1)⟩, ⟨(some 28), none, none, .bin .lss 3 (.tmp 26) (.tmp 27)⟩, ⟨(some 29), none, none, .mov (.tmp 28)⟩, ⟨(some 30), (some (29, false)), none, .mov (.tmp 8)⟩, ⟨(some 31), (some (29, false)), none, .mov (.tmp 2)⟩, ⟨(some 32), (some (29, false)), none, .bin .gtr 3 (.tmp 30) (.tmp 31)⟩, ⟨(some 33), none, none, .pick (.tmp 29) (.val (.bool true)) (.tmp 32)⟩])] [1, 2, 6, 7, 25, 26, 27, 28, 29, 30, 31, 32]
abbrev c___val_decoder__number_5 : SCode := .reg [([], [⟨(some 6), none, none, .mov (.val (.int .i64 0))⟩, ⟨(some 7), none, none, .mov (.val (.int .i64 30))⟩])] [0, 8, 9, 33]
abbrev c___val_decoder__number_6 : SCode := .reg [([], [⟨(some 34), none, none, .mov (.tmp 0)⟩, ⟨(some 35), none, none, .mov (.tmp 9)⟩, ⟨(some 36), none, none, .nchk (.tmp 34)⟩, ⟨(some 37), none, none, .fldA 1 (.tmp 36)⟩, ⟨none, none, none, .st 1 (.tmp 37) (.tmp 35)⟩])] [0, 6, 7, 9, 33, 34, 35, 36, 37]
abbrev c___val_decoder__number_7 : SCode := .reg [([], [⟨(some 38), none, none, .mov (.tmp 8)⟩, ⟨(some 6), none, none, .mov (.tmp 38)⟩, ⟨(some 7), none, none, .mov (.val (.int .i64 0))⟩])] [8, 38]
abbrev F___val_decoder__number : SFunc := ⟨39, (.seq c___val_decoder__number_0 (.seq c___val_decoder__number_1 (.seq (.seq c___val_decoder__number_2 (.cond (.tmp 25) (.seq c___val_decoder__number_3 .ret) .skip)) (.seq (.seq c___val_decoder__number_4 (.cond (.tmp 33) (.seq c___val_decoder__number_5 .ret) .skip)) (.seq c___val_decoder__number_6 (.seq c___val_decoder__number_7 .ret)))))), [.tmp 6, .tmp 7], false⟩
theorem tf___val_decoder__number : transFunc Go.Proofs.Tryz.prog 112 (hintT [(20, 0)]) (fpT []) (killT [(0, [6, 7]), (1, [11, 12, 13, 14, 15, 16, 17, 18, 19, 20, 21, 22, 23]), (2, [10, 24]), (3, [0, 1, 2, 8, 9, 25]), (4, [1, 2, 6, 7, 25, 26, 27, 28, 29, 30, 31, 32]), (5, [0, 8, 9, 33]), (6, [0, 6, 7, 9, 33, 34, 35, 36, 37]), (7, [8, 38])]) false = some F___val_decoder__number := by kernel_rfl
-- (*val.decoder).text
abbrev c___val_decoder__text_0 : SCode := .reg [([], [⟨(some 2), none, none, .mov (.val (.string ⟨#[]⟩))⟩, ⟨(some 3), none, none, .mov (.val (.int .i64 0))⟩])] [2, 3]
abbrev c___val_decoder__text_1 : SCode := .reg [([2064, 2065, 2066, 2067], [⟨(some 8), none, none, .mov (.tmp 0)⟩, ⟨(some 9), none, none, .nchk (.tmp 8)⟩, ⟨(some 10), none, none, .fldA 0 (.tmp 9)⟩, ⟨(some 11), none, none, .ld false 1 (.tmp 10)⟩, ⟨(some 12), none, none, .mov (.tmp 0)⟩, ⟨(some 13), none, none, .nchk (.tmp 12)⟩, ⟨(some 14), none, none, .fldA 1 (.tmp 13)⟩, ⟨(some 15), none, none, .ld false 1 (.tmp 14)⟩, ⟨(some 16), none, none, .call 153 0 [(.tmp 11), (.tmp 15)]⟩, ⟨(some 7), none, none, .mov (.tmp 16)⟩, ⟨(some 17), none, none, .ext (.tmp 7) 0⟩, ⟨(some 18), none, none, .ext (.tmp 7) 1⟩, ⟨(some 19), none, none, .ext (.tmp 7) 2⟩, ⟨(some 4), none, none, .mov (.tmp 17)⟩, ⟨(some 5), none, none, .mov (.tmp 18)⟩, ⟨(some 6), none, none, .mov (.tmp 19)⟩])] [7, 8, 9, 10, 11, 12, 13, 14, 15, 16, 17, 18, 19]
abbrev c___val_decoder__text_2 : SCode := .reg [([], [⟨(some 20), none, none, .mov (.tmp 6)⟩, ⟨(some 21), none, none, .bin .neq 28 (.tmp 20) (.val (.int .i64 0))⟩])] [6, 20]
abbrev c___val_decoder__text_3 : SCode := .reg [([], [⟨(some 2), none, none, .mov (.val (.string ⟨#[]⟩))⟩, ⟨(some 3), none, none, .mov (.val (.int .i64 10))⟩])] [0, 4, 5, 21]
abbrev c___val_decoder__text_4 : SCode := .reg [([2092, 2093, 2094, 2095], [⟨(some 22), none, none, .mov (.tmp 4)⟩, ⟨(some 23), none, none, .call 64 0 [(.tmp 22)]⟩, ⟨(some 24), none, none, .un .not (.tmp 23)⟩])] [2, 3, 21, 22, 23]
abbrev c___val_decoder__text_5 : SCode := .reg [([], [⟨(some 2), none, none, .mov (.val (.string ⟨#[]⟩))⟩, ⟨(some 3), none, none, .mov (.val (.int .i64 30))⟩])] [0, 4, 5, 24]
abbrev c___val_decoder__text_6 : SCode := .reg [([], [⟨(some 25), none, none, .mov (.tmp 0)⟩, ⟨(some 26), none, none, .mov (.tmp 5)⟩, ⟨(some 27), none, none, .nchk (.tmp 25)⟩, ⟨(some 28), none, none, .fldA 1 (.tmp 27)⟩, ⟨none, none, none, .st 1 (.tmp 28) (.tmp 26)⟩])] [0, 2, 3, 5, 24, 25, 26, 27, 28]
abbrev c___val_decoder__text_7 : SCode := .reg [([], [⟨(some 29), none, none, .mov (.tmp 4)⟩, ⟨(some 2), none, none, .mov (.tmp 29)⟩, ⟨(some 3), none, none, .mov (.val (.int .i64 0))⟩])] [4, 29]
abbrev F___val_decoder__text : SFunc := ⟨30, (.seq c___val_decoder__text_0 (.seq c___val_decoder__text_1 (.seq (.seq c___val_decoder__text_2 (.cond (.tmp 21) (.seq c___val_decoder__text_3 .ret) .skip)) (.seq (.seq c___val_decoder__text_4 (.cond (.tmp 24) (.seq c___val_decoder__text_5 .ret) .skip)) (.seq c___val_decoder__text_6 (.seq c___val_decoder__text_7 .ret)))))), [.tmp 2, .tmp 3], false⟩
theorem tf___val_decoder__text : transFunc Go.Proofs.Tryz.prog 113 (hintT [(16, 0), (23, 0)]) (fpT []) (killT [(0, [2, 3]), (1, [7, 8, 9, 10, 11, 12, 13, 14, 15, 16, 17, 18, 19]), (2, [6, 20]), (3, [0, 4, 5, 21]), (4, [2, 3, 21, 22, 23]), (5, [0, 4, 5, 24]), (6, [0, 2, 3, 5, 24, 25, 26, 27, 28]), (7, [4, 29])]) false = some F___val_decoder__text := by kernel_rfl
-- (*val.decoder).items
abbrev c___val_decoder__items_0 : SCode := .reg [([], [⟨(some 2), none, none, .mov (.val (.slice none 0 0))⟩, ⟨(some 3), none, none, .mov (.val (.int .i64 0))⟩])] [2, 3]
abbrev c___val_decoder__items_1 : SCode := .reg [([2044, 2045, 2046, 2047], [⟨(some 10), none, none, .mov (.tmp 0)⟩, ⟨(some 11), none, none, .call 112 1 [(.tmp 10), (.val (.int .i64 0)), (.val (.int .i64 12))]⟩, ⟨(some 9), none, none, .mov (.tmp 11)⟩, ⟨(some 12), none, none, .ext (.tmp 9) 0⟩, ⟨(some 13), none, none, .ext (.tmp 9) 1⟩, ⟨(some 4), none, none, .mov (.tmp 12)⟩, ⟨(some 5), none, none, .mov (.tmp 13)⟩])] [9, 10, 11, 12, 13]
abbrev c___val_decoder__items_2 : SCode := .reg [([], [⟨(some 14), none, none, .mov (.tmp 5)⟩, ⟨(some 15), none, none, .bin .neq 28 (.tmp 14) (.val (.int .i64 0))⟩])] [14]
abbrev c___val_decoder__items_3 : SCode := .reg [([], [⟨(some 16), none, none, .mov (.tmp 5)⟩, ⟨(some 2), none, none, .mov (.val (.slice none 0 0))⟩, ⟨(some 3), none, none, .mov (.tmp 16)⟩])] [0, 4, 5, 15, 16]
abbrev c___val_decoder__items_4 : SCode := .reg [([], [⟨(some 6), none, none, .mov (.val (.slice none 0 0))⟩])] [2, 3, 5, 15]
abbrev c___val_decoder__items_5 : SCode := .reg [([], [⟨(some 17), none, none, .mov (.tmp 4)⟩, ⟨(some 18), none, none, .mov (.val (.int .i64 0))⟩])] [4]
abbrev c___val_decoder__items_6 : SCode := .reg [([], [⟨(some 19), none, none, .bin .lss 3 (.tmp 18) (.tmp 17)⟩])] []
abbrev c___val_decoder__items_7 : SCode := .reg [([2088, 2089, 2090, 2091, 7], [⟨(some 21), none, none, .mov (.tmp 0)⟩, ⟨(some 22), none, none, .call 59 1 [(.tmp 21), (.val (.int .i64 4))]⟩, ⟨(some 20), none, none, .mov (.tmp 22)⟩, ⟨(some 23), none, none, .ext (.tmp 20) 0⟩, ⟨(some 24), none, none, .ext (.tmp 20) 1⟩, ⟨(some 7), none, none, .new [(.int .i64 0), (.int .i64 0), (.string ⟨#[]⟩), (.slice none 0 0)]⟩, ⟨none, none, none, .st 4 (.tmp 7) (.tmp 23)⟩, ⟨(some 8), none, none, .mov (.tmp 24)⟩])] [19, 20, 21, 22, 23, 24]
abbrev c___val_decoder__items_8 : SCode := .reg [([], [⟨(some 25), none, none, .mov (.tmp 8)⟩, ⟨(some 26), none, none, .bin .neq 28 (.tmp 25) (.val (.int .i64 0))⟩])] [25]
abbrev c___val_decoder__items_9 : SCode := .reg [([], [⟨(some 27), none, none, .mov (.tmp 8)⟩, ⟨(some 2), none, none, .mov (.val (.slice none 0 0))⟩, ⟨(some 3), none, none, .mov (.tmp 27)⟩])] [0, 6, 7, 8, 17, 18, 26, 27]
abbrev c___val_decoder__items_10 : SCode := .reg [([], [⟨(some 28), none, none, .mov (.tmp 6)⟩, ⟨(some 29), none, none, .ld true 4 (.tmp 7)⟩, ⟨(some 30), none, none, .bsl 4 [(.tmp 29)]⟩, ⟨(some 31), none, none, .app 42 4 56 (.tmp 28) (.tmp 30)⟩, ⟨(some 6), none, none, .mov (.tmp 31)⟩]), ([31], [⟨(some 28), none, none, .mov (.tmp 6)⟩, ⟨(some 29), none, none, .ld true 4 (.tmp 7)⟩, ⟨(some 30), none, none, .bsl 4 [(.tmp 29)]⟩, ⟨(some 31), none, none, .appN 42 4 56 (.tmp 28) (.tmp 30)⟩, ⟨(some 6), none, none, .mov (.tmp 31)⟩])] [2, 3, 7, 8, 26, 28, 29, 30, 31]
abbrev c___val_decoder__items_11 : SCode := .reg [([], [⟨(some 32), none, none, .bin .add 3 (.tmp 18) (.val (.int .i64 1))⟩, ⟨(some 18), none, none, .mov (.tmp 32)⟩])] [32]
abbrev c___val_decoder__items_12 : SCode := (.seq c___val_decoder__items_6 (.seq (.cond (.tmp 19) .skip (.exit 0)) (.seq (.block 1 (.seq c___val_decoder__items_7 (.seq (.seq c___val_decoder__items_8 (.cond (.tmp 26) (.seq c___val_decoder__items_9 .ret) .skip)) c___val_decoder__items_10))) c___val_decoder__items_11)))
abbrev c___val_decoder__items_13 : SCode := .reg [([], [⟨(some 33), none, none, .mov (.tmp 6)⟩, ⟨(some 2), none, none, .mov (.tmp 33)⟩, ⟨(some 3), none, none, .mov (.val (.int .i64 0))⟩])] [0, 6, 17, 18, 33]
abbrev F___val_decoder__items : SFunc := ⟨34, (.seq c___val_decoder__items_0 (.seq c___val_decoder__items_1 (.seq (.seq c___val_decoder__items_2 (.cond (.tmp 15) (.seq c___val_decoder__items_3 .ret) .skip)) (.seq c___val_decoder__items_4 (.seq (.seq c___val_decoder__items_5 (.block 0 (.loop c___val_decoder__items_12))) (.seq c___val_decoder__items_13 .ret)))))), [.tmp 2, .tmp 3], false⟩
theorem tf___val_decoder__items : transFunc Go.Proofs.Tryz.prog 114 (hintT [(11, 1), (22, 1)]) (fpT []) (killT [(0, [2, 3]), (1, [9, 10, 11, 12, 13]), (2, [14]), (3, [0, 4, 5, 15, 16]), (4, [2, 3, 5, 15]), (5, [4]), (7, [19, 20, 21, 22, 23, 24]), (8, [25]), (9, [0, 6, 7, 8, 17, 18, 26, 27]), (10, [2, 3, 7, 8, 26, 28, 29, 30, 31]), (11, [32]), (12, [0, 6, 17, 18, 33])]) false = some F___val_decoder__items := by kernel_rfl
-- val.plain
abbrev c_val_plain_0 : SCode := .reg [([], [⟨(some 2), none, none, .mov (.val (.bool false))⟩])] [2]
abbrev c_val_plain_1 : SCode := .reg [([], [⟨(some 3), none, none, .mov (.tmp 0)⟩, ⟨(some 4), none, none, .bin .geq 21 (.tmp 3) (.val (.int .i32 32))⟩, ⟨(some 5), none, none, .mov (.tmp 4)⟩, ⟨(some 6), (some (5, true)), none, .mov (.tmp 0)⟩, ⟨(some 7), (some (5, true)), none, .bin .neq 21 (.tmp 6) (.val (.int .i32 127))⟩, ⟨(some 8), none, none, .pick (.tmp 5) (.tmp 7) (.val (.bool false))⟩, ⟨(some 2), none, none, .mov (.tmp 8)⟩])] [0, 3, 4, 5, 6, 7, 8]
abbrev F_val_plain : SFunc := ⟨9, (.seq c_val_plain_0 (.seq c_val_plain_1 .ret)), [.tmp 2], false⟩
theorem tf_val_plain : transFunc Go.Proofs.Tryz.prog 120 (hintT []) (fpT []) (killT [(0, [2]), (1, [0, 3, 4, 5, 6, 7, 8])]) false = some F_val_plain := by kernel_rfl
-- slices.IndexFunc[[]api.Val,api.Val]
abbrev c_slices_IndexFunc___api_Val_api_Val__0 : SCode := .reg [([], [⟨(some 4), none, none, .mov (.val (.int .i64 0))⟩])] [4]
abbrev c_slices_IndexFunc___api_Val_api_Val__1 : SCode := .reg [([], [⟨(some 6), none, none, .mov (.tmp 0)⟩, ⟨(some 7), none, none, .len (.tmp 6)⟩, ⟨(some 8), none, none, .mov (.val (.int .i64 0))⟩])] [6]
abbrev c_slices_IndexFunc___api_Val_api_Val__2 : SCode := .reg [([], [⟨(some 9), none, none, .bin .lss 3 (.tmp 8) (.tmp 7)⟩])] []
abbrev c_slices_IndexFunc___api_Val_api_Val__3 : SCode := .reg [([], [⟨(some 10), none, none, .mov (.tmp 8)⟩, ⟨(some 5), none, none, .mov (.tmp 10)⟩])] [9, 10]
abbrev c_slices_IndexFunc___api_Val_api_Val__4 : SCode := .reg [([2064, 2065, 2066, 2067], [⟨(some 11), none, none, .mov (.tmp 1)⟩, ⟨(some 12), none, none, .mov (.tmp 0)⟩, ⟨(some 13), none, none, .mov (.tmp 5)⟩, ⟨(some 14), none, none, .idxA 4 (.tmp 12) (.tmp 13)⟩, ⟨(some 15), none, none, .ld true 4 (.tmp 14)⟩, ⟨(some 16), none, none, .callv (.tmp 11) 1 [(.tmp 15)]⟩])] [11, 12, 13, 14, 15]
abbrev c_slices_IndexFunc___api_Val_api_Val__5 : SCode := .reg [([], [⟨(some 17), none, none, .mov (.tmp 5)⟩, ⟨(some 4), none, none, .mov (.tmp 17)⟩])] [0, 1, 5, 7, 8, 16, 17]
abbrev c_slices_IndexFunc___api_Val_api_Val__6 : SCode := .reg [([], [⟨(some 18), none, none, .bin .add 3 (.tmp 8) (.val (.int .i64 1))⟩, ⟨(some 8), none, none, .mov (.tmp 18)⟩])] [4, 5, 16, 18]
abbrev c_slices_IndexFunc___api_Val_api_Val__7 : SCode := (.seq c_slices_IndexFunc___api_Val_api_Val__2 (.seq (.cond (.tmp 9) .skip (.exit 0)) (.seq (.block 1 (.seq c_slices_IndexFunc___api_Val_api_Val__3 (.seq c_slices_IndexFunc___api_Val_api_Val__4 (.cond (.tmp 16) (.seq c_slices_IndexFunc___api_Val_api_Val__5 .ret) .skip)))) c_slices_IndexFunc___api_Val_api_Val__6)))
abbrev c_slices_IndexFunc___api_Val_api_Val__8 : SCode := .reg [([], [⟨(some 4), none, none, .mov (.val (.int .i64 (-1)))⟩])] [0, 1, 7, 8]
abbrev F_slices_IndexFunc___api_Val_api_Val_ : SFunc := ⟨19, (.seq c_slices_IndexFunc___api_Val_api_Val__0 (.seq (.seq c_slices_IndexFunc___api_Val_api_Val__1 (.block 0 (.loop c_slices_IndexFunc___api_Val_api_Val__7))) (.seq c_slices_IndexFunc___api_Val_api_Val__8 .ret))), [.tmp 4], false⟩
theorem tf_slices_IndexFunc___api_Val_api_Val_ : transFunc Go.Proofs.Tryz.prog 121 (hintT [(16, 1)]) (fpT []) (killT [(0, [4]), (1, [6]), (3, [9, 10]), (4, [11, 12, 13, 14, 15]), (5, [0, 1, 5, 7, 8, 16, 17]), (6, [4, 5, 16, 18]), (7, [0, 1, 7, 8])]) false = some F_slices_IndexFunc___api_Val_api_Val_ := by kernel_rfl
-- moraineref03.Sign
abbrev c_moraineref03_Sign_0 : SCode := .reg [([], [⟨(some 2), none, none, .mov (.val (.int .i64 0))⟩])] [2]
abbrev c_moraineref03_Sign_1 : SCode := .reg [([], [⟨(some 8), none, none, .mov (.tmp 0)⟩, ⟨(some 9), none, none, .slen (.tmp 8)⟩, ⟨(some 10), none, none, .bin .eql 3 (.tmp 9) (.val (.int .i64 0))⟩])] [8, 9]
abbrev c_moraineref03_Sign_2 : SCode := .reg [([], [⟨(some 2), none, none, .mov (.val (.int .i64 0))⟩])] [0, 10]
abbrev c_moraineref03_Sign_3 : SCode := .reg [([], [⟨(some 11), none, none, .mov (.tmp 0)⟩, ⟨(some 12), none, none, .sidx (.tmp 11) (.val (.int .i64 0))⟩, ⟨(some 13), none, none, .cvi .i64 (.tmp 12)⟩, ⟨(some 3), none, none, .mov (.tmp 13)⟩])] [2, 10, 11, 12, 13]
abbrev c_moraineref03_Sign_4 : SCode := .reg [([], [⟨(some 14), none, none, .mov (.tmp 3)⟩, ⟨(some 15), none, none, .bin .lss 3 (.tmp 14) (.val (.int .i64 128))⟩])] [14]
abbrev c_moraineref03_Sign_5 : SCode := .reg [([], [⟨(some 2), none, none, .mov (.val (.int .i64 1))⟩])] [0, 3, 15]
abbrev c_moraineref03_Sign_6 : SCode := .reg [([], [⟨(some 4), none, none, .mov (.val (.int .i64 0))⟩])] [2, 15]
abbrev c_moraineref03_Sign_7 : SCode := .reg [([], [⟨(some 5), none, none, .mov (.val (.int .i64 128))⟩])] []
abbrev c_moraineref03_Sign_8 : SCode := .reg [([], [⟨(some 6), none, none, .mov (.val (.int .i64 191))⟩])] []
abbrev c_moraineref03_Sign_9 : SCode := .reg [([], [⟨(some 16), none, none, .mov (.tmp 3)⟩, ⟨(some 17), none, none, .bin .geq 3 (.tmp 16) (.val (.int .i64 194))⟩, ⟨(some 18), none, none, .mov (.tmp 17)⟩, ⟨(some 19), (some (18, true)), none, .mov (.tmp 3)⟩, ⟨(some 20), (some (18, true)), none, .bin .leq 3 (.tmp 19) (.val (.int .i64 223))⟩, ⟨(some 21), none, none, .pick (.tmp 18) (.tmp 20) (.val (.bool false))⟩])] [16, 17, 18, 19, 20]
abbrev c_moraineref03_Sign_10 : SCode := .reg [([], [⟨(some 4), none, none, .mov (.val (.int .i64 2))⟩])] [21]
abbrev c_moraineref03_Sign_11 : SCode := .reg [([], [⟨(some 22), none, none, .mov (.tmp 3)⟩, ⟨(some 23), none, none, .bin .geq 3 (.tmp 22) (.val (.int .i64 224))⟩, ⟨(some 24), none, none, .mov (.tmp 23)⟩, ⟨(some 25), (some (24, true)), none, .mov (.tmp 3)⟩, ⟨(some 26), (some (24, true)), none, .bin .leq 3 (.tmp 25) (.val (.int .i64 239))⟩, ⟨(some 27), none, none, .pick (.tmp 24) (.tmp 26) (.val (.bool false))⟩])] [21, 22, 23, 24, 25, 26]
abbrev c_moraineref03_Sign_12 : SCode := .reg [([], [⟨(some 4), none, none, .mov (.val (.int .i64 3))⟩])] [27]
abbrev c_moraineref03_Sign_13 : SCode := .reg [([], [⟨(some 28), none, none, .mov (.tmp 3)⟩, ⟨(some 29), none, none, .bin .geq 3 (.tmp 28) (.val (.int .i64 240))⟩, ⟨(some 30), none, none, .mov (.tmp 29)⟩, ⟨(some 31), (some (30, true)), none, .mov (.tmp 3)⟩, ⟨(some 32), (some (30, true)), none, .bin .leq 3 (.tmp 31) (.val (.int .i64 244))⟩, ⟨(some 33), none, none, .pick (.tmp 30) (.tmp 32) (.val (.bool false))⟩])] [27, 28, 29, 30, 31, 32]
abbrev c_moraineref03_Sign_14 : SCode := .reg [([], [⟨(some 4), none, none, .mov (.val (.int .i64 4))⟩])] [33]
abbrev c_moraineref03_Sign_15 : SCode := .reg [([], [⟨(some 34), none, none, .mov (.tmp 4)⟩, ⟨(some 35), none, none, .bin .eql 3 (.tmp 34) (.val (.int .i64 0))⟩, ⟨(some 36), none, none, .mov (.tmp 35)⟩, ⟨(some 37), (some (36, false)), none, .mov (.tmp 0)⟩, ⟨(some 38), (some (36, false)), none, .slen (.tmp 37)⟩, ⟨(some 39), (some (36, false)), none, .mov (.tmp 4)⟩, ⟨(some 40), (some (36, false)), none, .bin .lss 3 (.tmp 38) (.tmp 39)⟩, ⟨(some 41), none, none, .pick (.tmp 36) (.val (.bool true)) (.tmp 40)⟩])] [33, 34, 35, 36, 37, 38, 39, 40]
abbrev c_moraineref03_Sign_16 : SCode := .reg [([], [⟨(some 2), none, none, .mov (.val (.int .i64 0))⟩])] [0, 3, 4, 5, 6, 41]
abbrev c_moraineref03_Sign_17 : SCode := .reg [([], [⟨(some 42), none, none, .mov (.tmp 3)⟩])] [2, 3, 41]
abbrev c_moraineref03_Sign_18 : SCode := .reg [([], [⟨(some 44), none, none, .bin .eql 3 (.tmp 42) (.val (.int .i64 224))⟩, ⟨(some 43), none, none, .mov (.tmp 44)⟩])] [44]
abbrev c_moraineref03_Sign_19 : SCode := .reg [([], [⟨(some 5), none, none, .mov (.val (.int .i64 160))⟩])] [42, 43]
abbrev c_moraineref03_Sign_20 : SCode := .reg [([], [⟨(some 46), none, none, .bin .eql 3 (.tmp 42) (.val (.int .i64 237))⟩, ⟨(some 45), none, none, .mov (.tmp 46)⟩])] [43, 46]
abbrev c_moraineref03_Sign_21 : SCode := .reg [([], [⟨(some 6), none, none, .mov (.val (.int .i64 159))⟩])] [42, 45]
abbrev c_moraineref03_Sign_22 : SCode := .reg [([], [⟨(some 48), none, none, .bin .eql 3 (.tmp 42) (.val (.int .i64 240))⟩, ⟨(some 47), none, none, .mov (.tmp 48)⟩])] [45, 48]
abbrev c_moraineref03_Sign_23 : SCode := .reg [([], [⟨(some 5), none, none, .mov (.val (.int .i64 144))⟩])] [42, 47]
abbrev c_moraineref03_Sign_24 : SCode := .reg [([], [⟨(some 50), none, none, .bin .eql 3 (.tmp 42) (.val (.int .i64 244))⟩, ⟨(some 49), none, none, .mov (.tmp 50)⟩])] [42, 47, 50]
abbrev c_moraineref03_Sign_25 : SCode := .reg [([], [⟨(some 6), none, none, .mov (.val (.int .i64 143))⟩])] [49]
abbrev c_moraineref03_Sign_26 : SCode := .reg [([], [⟨(some 51), none, none, .mov (.tmp 0)⟩, ⟨(some 52), none, none, .sidx (.tmp 51) (.val (.int .i64 1))⟩, ⟨(some 53), none, none, .cvi .i64 (.tmp 52)⟩, ⟨(some 54), none, none, .mov (.tmp 5)⟩, ⟨(some 55), none, none, .bin .lss 3 (.tmp 53) (.tmp 54)⟩, ⟨(some 56), none, none, .mov (.tmp 55)⟩, ⟨(some 57), (some (56, false)), none, .mov (.tmp 0)⟩, ⟨(some 58), (some (56, false)), none, .sidx (.tmp 57) (.val (.int .i64 1))⟩, ⟨(some 59), (some (56, false)), none, .cvi .i64 (.tmp 58)⟩, ⟨(some 60), (some (56, false)), none, .mov (.tmp 6)⟩, ⟨(some 61), (some (56, false)), none, .bin .gtr 3 (.tmp 59) (.tmp 60)⟩, ⟨(some 62), none, none, .pick (.tmp 56) (.val (.bool true)) (.tmp 61)⟩])] [5, 6, 49, 51, 52, 53, 54, 55, 56, 57, 58, 59, 60, 61]
abbrev c_moraineref03_Sign_27 : SCode := .reg [([], [⟨(some 2), none, none, .mov (.val (.int .i64 0))⟩])] [0, 4, 62]
abbrev c_moraineref03_Sign_28 : SCode := .reg [([], [⟨(some 7), none, none, .mov (.val (.int .i64 2))⟩])] [2, 62]
abbrev c_moraineref03_Sign_29 : SCode := .reg [([], [⟨(some 63), none, none, .mov (.tmp 7)⟩, ⟨(some 64), none, none, .mov (.tmp 4)⟩, ⟨(some 65), none, none, .bin .lss 3 (.tmp 63) (.tmp 64)⟩])] [63, 64]
abbrev c_moraineref03_Sign_30 : SCode := .reg [([], [⟨(some 68), none, none, .mov (.tmp 0)⟩, ⟨(some 69), none, none, .mov (.tmp 7)⟩, ⟨(some 70), none, none, .sidx (.tmp 68) (.tmp 69)⟩, ⟨(some 71), none, none, .bin .lss 5 (.tmp 70) (.val (.int .u8 128))⟩, ⟨(some 72), none, none, .mov (.tmp 71)⟩, ⟨(some 73), (some (72, false)), none, .mov (.tmp 0)⟩, ⟨(some 74), (some (72, false)), none, .mov (.tmp 7)⟩, ⟨(some 75), (some (72, false)), none, .sidx (.tmp 73) (.tmp 74)⟩, ⟨(some 76), (some (72, false)), none, .bin .gtr 5 (.tmp 75) (.val (.int .u8 191))⟩, ⟨(some 77), none, none, .pick (.tmp 72) (.val (.bool true)) (.tmp 76)⟩])] [65, 68, 69, 70, 71, 72, 73, 74, 75, 76]
abbrev c_moraineref03_Sign_31 : SCode := .reg [([], [⟨(some 2), none, none, .mov (.val (.int .i64 0))⟩])] [0, 4, 7, 77]
abbrev c_moraineref03_Sign_32 : SCode := .reg [([], [⟨(some 66), none, none, .mov (.tmp 7)⟩, ⟨(some 67), none, none, .bin .add 3 (.tmp 66) (.val (.int .i64 1))⟩, ⟨(some 7), none, none, .mov (.tmp 67)⟩])] [2, 66, 67, 77]
abbrev c_moraineref03_Sign_33 : SCode := (.seq (.seq c_moraineref03_Sign_29 (.cond (.tmp 65) .skip (.exit 1))) (.seq (.block 2 (.seq c_moraineref03_Sign_30 (.cond (.tmp 77) (.seq c_moraineref03_Sign_31 .ret) .skip))) c_moraineref03_Sign_32))
abbrev c_moraineref03_Sign_34 : SCode := .reg [([], [⟨(some 78), none, none, .mov (.tmp 4)⟩, ⟨(some 2), none, none, .mov (.tmp 78)⟩])] [0, 4, 7, 78]
abbrev F_moraineref03_Sign : SFunc := ⟨79, (.seq c_moraineref03_Sign_0 (.seq (.seq c_moraineref03_Sign_1 (.cond (.tmp 10) (.seq c_moraineref03_Sign_2 .ret) .skip)) (.seq c_moraineref03_Sign_3 (.seq (.seq c_moraineref03_Sign_4 (.cond (.tmp 15) (.seq c_moraineref03_Sign_5 .ret) .skip)) (.seq c_moraineref03_Sign_6 (.seq c_moraineref03_Sign_7 (.seq c_moraineref03_Sign_8 (.seq (.seq c_moraineref03_Sign_9 (.cond (.tmp 21) c_moraineref03_Sign_10 .skip)) (.seq (.seq c_moraineref03_Sign_11 (.cond (.tmp 27) c_moraineref03_Sign_12 .skip)) (.seq (.seq c_moraineref03_Sign_13 (.cond (.tmp 33) c_moraineref03_Sign_14 .skip)) (.seq (.seq c_moraineref03_Sign_15 (.cond (.tmp 41) (.seq c_moraineref03_Sign_16 .ret) .skip)) (.seq (.seq c_moraineref03_Sign_17 (.block 0 (.seq c_moraineref03_Sign_18 (.cond (.tmp 43) c_moraineref03_Sign_19 (.seq c_moraineref03_Sign_20 (.cond (.tmp 45) c_moraineref03_Sign_21 (.seq c_moraineref03_Sign_22 (.cond (.tmp 47) c_moraineref03_Sign_23 (.seq c_moraineref03_Sign_24 (.cond (.tmp 49) c_moraineref03_Sign_25 .skip)))))))))) (.seq (.seq c_moraineref03_Sign_26 (.cond (.tmp 62) (.seq c_moraineref03_Sign_27 .ret) .skip)) (.seq (.seq c_moraineref03_Sign_28 (.block 1 (.loop c_moraineref03_Sign_33))) (.seq c_moraineref03_Sign_34 .ret))))))))))))))), [.tmp 2], false⟩
theorem tf_moraineref03_Sign : transFunc Go.Proofs.Tryz.prog 122 (hintT []) (fpT []) (killT [(0, [2]), (1, [8, 9]), (2, [0, 10]), (3, [2, 10, 11, 12, 13]), (4, [14]), (5, [0, 3, 15]), (6, [2, 15]), (9, [16, 17, 18, 19, 20]), (10, [21]), (11, [21, 22, 23, 24, 25, 26]), (12, [27]), (13, [27, 28, 29, 30, 31, 32]), (14, [33]), (15, [33, 34, 35, 36, 37, 38, 39, 40]), (16, [0, 3, 4, 5, 6, 41]), (17, [2, 3, 41]), (18, [44]), (19, [42, 43]), (20, [43, 46]), (21, [42, 45]), (22, [45, 48]), (23, [42, 47]), (24, [42, 47, 50]), (25, [49]), (26, [5, 6, 49, 51, 52, 53, 54, 55, 56, 57, 58, 59, 60, 61]), (27, [0, 4, 62]), (28, [2, 62]), (29, [63, 64]), (31, [65, 68, 69, 70, 71, 72, 73, 74, 75, 76]), (32, [0, 4, 7, 77]), (30, [2, 66, 67, 77]), (33, [0, 4, 7, 78])]) false = some F_moraineref03_Sign := by kernel_rfl
-- cmp.isNaN[int]
abbrev c_cmp_isNaN_int__0 : SCode := .reg [([], [⟨(some 2), none, none, .mov (.val (.bool false))⟩])] [2]
abbrev c_cmp_isNaN_int__1 : SCode := .reg [([], [⟨(some 3), none, none, .mov (.tmp 0)⟩, ⟨(some 4), none, none, .mov (.tmp 0)⟩, ⟨(some 5), none, none, .bin .neq 3 (.tmp 3) (.tmp 4)⟩, ⟨(some 2), none, none, .mov (.tmp 5)⟩])] [0, 3, 4, 5]
abbrev F_cmp_isNaN_int_ : SFunc := ⟨6, (.seq c_cmp_isNaN_int__0 (.seq c_cmp_isNaN_int__1 .ret)), [.tmp 2], false⟩
theorem tf_cmp_isNaN_int_ : transFunc Go.Proofs.Tryz.prog 123 (hintT []) (fpT []) (killT [(0, [2]), (1, [0, 3, 4, 5])]) false = some F_cmp_isNaN_int_ := by kernel_rfl
-- cmp.isNaN[string]
abbrev c_cmp_isNaN_string__0 : SCode := .reg [([], [⟨(some 2), none, none, .mov (.val (.bool false))⟩])] [2]
abbrev c_cmp_isNaN_string__1 : SCode := .reg [([], [⟨(some 3), none, none, .mov (.tmp 0)⟩, ⟨(some 4), none, none, .mov (.tmp 0)⟩, ⟨(some 5), none, none, .bin .neq 9 (.tmp 3) (.tmp 4)⟩, ⟨(some 2), none, none, .mov (.tmp 5)⟩])] [0, 3, 4, 5]
abbrev F_cmp_isNaN_string_ : SFunc := ⟨6, (.seq c_cmp_isNaN_string__0 (.seq c_cmp_isNaN_string__1 .ret)), [.tmp 2], false⟩
theorem tf_cmp_isNaN_string_ : transFunc Go.Proofs.Tryz.prog 124 (hintT []) (fpT []) (killT [(0, [2]), (1, [0, 3, 4, 5])]) false = some F_cmp_isNaN_string_ := by kernel_rfl
-- val.sign$1
abbrev c_val_sign_1_0 : SCode := .reg [([3], [⟨(some 3), none, none, .new [(.int .i64 0), (.int .i64 0), (.string ⟨#[]⟩), (.slice none 0 0)]⟩, ⟨(some 4), none, none, .mov (.val (.int .i64 0))⟩])] [4]
abbrev c_val_sign_1_1 : SCode := .reg [([2036, 2037, 2038, 2039], [⟨(some 5), none, none, .mov (.tmp 0)⟩, ⟨(some 6), none, none, .bin .neq 9 (.tmp 5) (.val (.string ⟨#[]⟩))⟩, ⟨(some 7), none, none, .mov (.tmp 6)⟩, ⟨(some 8), (some (7, true)), none, .mov (.tmp 0)⟩, ⟨(some 9), (some (7, true)), none, .call 105 0 [(.tmp 8)]⟩, ⟨(some 10), (some (7, true)), none, .ld false 1 (.tmp 1)⟩, ⟨(some 11), (some (7, true)), none, .bin .eql 21 (.tmp 9) (.tmp 10)⟩, ⟨(some 12), none, none, .pick (.tmp 7) (.tmp 11) (.val (.bool false))⟩])] [0, 1, 5, 6, 7, 8, 9, 10, 11]
abbrev c_val_sign_1_2 : SCode := .reg [([], [⟨(some 13), none, none, .build [(.int .i64 0), (.int .i64 0), (.string ⟨#[]⟩), (.slice none 0 0)] []⟩, ⟨none, none, none, .st 4 (.tmp 3) (.tmp 13)⟩, ⟨(some 4), none, none, .mov (.val (.int .i64 1))⟩])] [12, 13]
abbrev c_val_sign_1_3 : SCode := .reg [([], [⟨(some 14), none, none, .build [(.int .i64 0), (.int .i64 0), (.string ⟨#[]⟩), (.slice none 0 0)] []⟩, ⟨none, none, none, .st 4 (.tmp 3) (.tmp 14)⟩, ⟨(some 4), none, none, .mov (.val (.int .i64 0))⟩])] [12, 14]
abbrev F_val_sign_1 : SFunc := ⟨15, (.seq c_val_sign_1_0 (.seq (.seq c_val_sign_1_1 (.cond (.tmp 12) (.seq c_val_sign_1_2 .ret) .skip)) (.seq c_val_sign_1_3 .ret))), [.cell true 4 3, .tmp 4], false⟩
theorem tf_val_sign_1 : transFunc Go.Proofs.Tryz.prog 150 (hintT [(9, 0)]) (fpT []) (killT [(0, [4]), (1, [0, 1, 5, 6, 7, 8, 9, 10, 11]), (2, [12, 13]), (3, [12, 14])]) false = some F_val_sign_1 := by kernel_rfl
def funcs : Nat → Option SFunc
  | 15 => some F_morainelaw03_awake
  | 18 => some F_val_Read
  | 19 => some F_moraineref03_Same
  | 20 => some F_val_Encode
  | 21 => some F_val_Decode
  | 28 => some F_val_Right
  | 32 => some F_val_Compare
  | 33 => some F_moraineref03_Compare
  | 34 => some F_val_Same
  | 55 => some F_val_reader
  | 56 => some F_val_value
  | 57 => some F_val_items
  | 58 => some F_val_lay
  | 59 => some F___val_decoder__value
  | 63 => some F_val_bare
  | 64 => some F_val_rightText
  | 65 => some F_val_rightID
  | 66 => some F_slices_ContainsFunc___api_Val_api_Val_
  | 67 => some F_val_noItem
  | 70 => some F_cmp_Compare_int_
  | 71 => some F_cmp_Compare_string_
  | 72 => some F_val_byItems_api_Val_
  | 73 => some F_moraineref03_Order
  | 104 => some F_val_reader_1
  | 105 => some F_val_first
  | 106 => some F_val_quoted
  | 107 => some F_val_reference
  | 108 => some F_val_number
  | 109 => some F_val_sign
  | 112 => some F___val_decoder__number
  | 113 => some F___val_decoder__text
  | 114 => some F___val_decoder__items
  | 120 => some F_val_plain
  | 121 => some F_slices_IndexFunc___api_Val_api_Val_
  | 123 => some F_cmp_isNaN_int_
  | 124 => some F_cmp_isNaN_string_
  | 150 => some F_val_sign_1
  | _ => none
end Go.Sh.Cd1
end

section
/- Sh: what is to be shown of code, reckoned by rewriting. No statement of the program is proved here. -/
namespace Go.Sh
open Go Go.RowKit
/-- By a truth value. -/
def boolW (t : Bool) (A B : Prop) : Prop := (t = true → A) ∧ (t = false → B)
def boolK (x : Option TV) (A B : Prop) : Prop := match x with
  | some (.pv (.v (.bool t))) => boolW t A B
  | _ => False
/-- By a slot that guards: it is known behind it. -/
def guardW (x : Option TV) (want : Bool) (gs : Nat) (A B : ES → Prop) (s : ES) : Prop := match x with
  | some (.pv (.v (.bool t))) => boolW t ((if want then A else B) (s.put (some gs) (.pv (.v (.bool true))))) ((if want then B else A) (s.put (some gs) (.pv (.v (.bool false)))))
  | some (.pv (.v _)) => B s
  | _ => False
def guardK (t : Bool) (want : Bool) (gs : Nat) (A B : ES → Prop) (s : ES) : Prop := boolW t ((if want then A else B) (s.put (some gs) (.pv (.v (.bool true))))) ((if want then B else A) (s.put (some gs) (.pv (.v (.bool false)))))
section
variable {P : Program} {g : Glob} {a b c : SCode} {Q : SExit → ES → Prop} {K : ES → Prop} {s s' : ES} {l : List SOper} {A B : Prop} {o : SOper}
@[congr] theorem boolW_congr {t t' : Bool} (h : t = t') : boolW t A B = boolW t' A B := by rw [h]
@[congr] theorem boolK_congr {t t' : Option TV} (h : t = t') : boolK t A B = boolK t' A B := by rw [h]
@[congr] theorem guardW_congr {t t' : Option TV} {w : Bool} {gs : Nat} {A B : ES → Prop} (h : t = t') : guardW t w gs A B s = guardW t' w gs A B s := by rw [h]
@[congr] theorem guardK_congr {t t' : Bool} {w : Bool} {gs : Nat} {A B : ES → Prop} (h : t = t') : guardK t w gs A B s = guardK t' w gs A B s := by rw [h]
@[congr] theorem swp_congr (h : s = s') : swp P g a Q s = swp P g a Q s' := by rw [h]
@[congr] theorem opsW_congr (h : s = s') : opsW P g l K s = opsW P g l K s' := by rw [h]
@[congr] theorem stepW_congr {e e' : Option (TV × Upd)} (h : e = e') : stepW P o K s e = stepW P o K s e' := by rw [h]
@[congr] theorem thenW_congr {e : SExit} (h : s = s') : thenW K Q e s = thenW K Q e s' := by rw [h]
@[congr] theorem blockW_congr {e : SExit} {id : Nat} (h : s = s') : blockW id Q e s = blockW id Q e s' := by rw [h]
theorem bW_T : boolW true A B = A := by simp [boolW]
theorem bW_F : boolW false A B = B := by simp [boolW]
theorem bW_d {p : Prop} [Decidable p] : boolW (decide p) A B = ((p → A) ∧ (¬ p → B)) := by simp [boolW]
theorem bW_n {t : Bool} : boolW (!t) A B = boolW t B A := by cases t <;> simp [boolW]
theorem bW_a {t u : Bool} : boolW (t && u) A B = boolW t (boolW u A B) B := by cases t <;> simp [boolW]
theorem bW_o {t u : Bool} : boolW (t || u) A B = boolW t A (boolW u A B) := by cases t <;> simp [boolW]
theorem bK {t : Bool} : boolK (some (.pv (.v (.bool t)))) A B = boolW t A B := rfl
theorem gW {t w : Bool} {gs : Nat} {A B : ES → Prop} : guardW (some (.pv (.v (.bool t)))) w gs A B s = guardK t w gs A B s := rfl
theorem gW_u {w : Bool} {gs : Nat} {A B : ES → Prop} : guardW (some (.pv (.v (.nilIface)))) w gs A B s = B s := rfl
theorem gW_i {w : Bool} {k : IntKind} {n : Int} {gs : Nat} {A B : ES → Prop} : guardW (some (.pv (.v (.int k n)))) w gs A B s = B s := rfl
def regK (Q : SExit → ES → Prop) (kill : List Nat) (s : ES) : Prop := Q .normal (s.kill kill)
def skipK (P : Program) (g : Glob) (l : List SOper) (K : ES → Prop) (dst : Option Nat) (s : ES) : Prop := opsW P g l K (s.put dst (.pv (.v undef)))
@[congr] theorem regK_congr {kill : List Nat} (h : s = s') : regK Q kill s = regK Q kill s' := by rw [h]
theorem v_regK {kill : List Nat} : regK Q kill s = Q .normal (s.kill kill) := rfl
theorem v_skipK {dst : Option Nat} : skipK P g l K dst s = opsW P g l K (s.put dst (.pv (.v undef))) := rfl
theorem sv_same {α : Type} {k : Nat} {x : α} : ∀ {l : List (Nat × α)}, lk l k = some x → sv l k x = l
  | [], h => by simp [lk] at h
  | (j, y) :: l, h => by
    simp only [lk] at h
    simp only [sv]
    cases hj : Nat.beq j k with
    | true =>
      rw [hj] at h; simp only [Option.some.injEq] at h
      rw [Nat.eq_of_beq_eq_true hj, h]
    | false => rw [hj] at h; simp only [sv_same h]
theorem put_same {gs : Nat} {x : TV} (h : lk s.t gs = some x) : s.put (some gs) x = s := by
  show ES.mk _ _ _ _ = _
  rw [sv_same h]
theorem boolW_iff {t : Bool} : boolW t A B ↔ (if t then A else B) := by cases t <;> simp [boolW]
theorem v_skip : swp P g .skip Q s = Q .normal s := rfl
theorem v_seq : swp P g (.seq a b) Q s = swp P g a (thenW (swp P g b Q) Q) s := rfl
theorem v_exit {id : Nat} : swp P g (.exit id) Q s = Q (.exit id) s := rfl
theorem v_ret : swp P g .ret Q s = Q .ret s := rfl
theorem v_block {id : Nat} : swp P g (.block id a) Q s = swp P g a (blockW id Q) s := rfl
theorem v_cond {x : Arg} : swp P g (.cond x a b) Q s = boolK (x.get s.fs) (swp P g a Q s) (swp P g b Q s) := by
  show condW x s _ _ = _
  apply propext
  constructor
  · rintro ⟨t, h1, h2⟩
    rw [h1, bK]; exact boolW_iff.2 h2
  · intro h
    unfold boolK at h
    split at h
    · rename_i t ht; exact ⟨t, ht, boolW_iff.1 h⟩
    · exact h.elim
theorem v_reg {n kill : List Nat} : swp P g (.reg [(n, l)] kill) Q s = opsW P g l (regK Q kill) (s.fgt n) := by
  show regW P g _ _ _ _ = _
  simp [regW]; rfl
theorem v_reg2 {n kill : List Nat} {x : List Nat × List SOper} {r : List (List Nat × List SOper)} : swp P g (.reg ((n, l) :: x :: r) kill) Q s = (opsW P g l (regK Q kill) (s.fgt n) ∨ swp P g (.reg (x :: r) kill) Q s) := by
  show regW P g _ _ _ _ = (_ ∨ regW P g _ _ _ _)
  simp [regW]; rfl
theorem v_nil : opsW P g [] K s = K s := rfl
theorem v_op {dst fp : Option Nat} {op : SOp} (h : op.isCall = false) : opsW P g (⟨dst, none, fp, op⟩ :: l) K s = stepW P ⟨dst, none, fp, op⟩ (opsW P g l K) s (effG P noC ⟨dst, none, fp, op⟩ s.fs) := propext (opsW_nc h)
theorem v_guard {dst fp : Option Nat} {op : SOp} {gs : Nat} {want : Bool} : opsW P g (⟨dst, some (gs, want), fp, op⟩ :: l) K s =
    guardW (lk s.t gs) want gs (opsW P g (⟨dst, none, fp, op⟩ :: l) K) (skipK P g l K dst) s := by
  have key : ∀ C, effG P C ⟨dst, some (gs, want), fp, op⟩ s.fs = match lk s.t gs with
    | some (.pv (.v (.bool b))) => if b == want then effG P C ⟨dst, none, fp, op⟩ s.fs else some (.pv (.v undef), .no)
    | some (.pv (.v _)) => some (.pv (.v undef), .no)
    | _ => none := fun C => rfl
  have hA : (∃ C, SoundC P g C ∧ ∃ e, some (TV.pv (.v undef), Upd.no) = some e ∧ opsW P g l K (s.after ⟨dst, some (gs, want), fp, op⟩ e)) = opsW P g l K (s.put dst (.pv (.v undef))) := by
    apply propext
    constructor
    · rintro ⟨C, hC, e, he, hk⟩; cases he; exact hk
    · intro hk; exact ⟨noC, noC_sound P g, _, rfl, hk⟩
  conv => lhs; unfold opsW
  simp only [key]
  unfold guardW
  cases hx : lk s.t gs with
  | none => simp
  | some x =>
    cases x with
    | pv p =>
      cases p with
      | v v =>
        cases v with
        | bool t =>
          simp only []
          cases t
          · cases want
            · simp only [bW_F, if_false, beq_self_eq_true, if_true, put_same hx, Bool.false_eq_true]; rfl
            · simp only [bW_F, if_true, put_same hx, bFT, if_false, Bool.false_eq_true]; exact hA
          · cases want
            · simp only [bW_T, if_false, put_same hx, bTF, Bool.false_eq_true]; exact hA
            · simp only [bW_T, if_true, beq_self_eq_true, put_same hx]; rfl
        | _ => exact hA
      | _ => simp
    | _ => simp
theorem gK_T1 {gs : Nat} {A B : ES → Prop} : guardK true true gs A B s = A (s.put (some gs) (.pv (.v (.bool true)))) := by simp [guardK, bW_T]
theorem gK_T0 {gs : Nat} {A B : ES → Prop} : guardK true false gs A B s = B (s.put (some gs) (.pv (.v (.bool true)))) := by simp [guardK, bW_T]
theorem gK_F1 {gs : Nat} {A B : ES → Prop} : guardK false true gs A B s = B (s.put (some gs) (.pv (.v (.bool false)))) := by simp [guardK, bW_F]
theorem gK_F0 {gs : Nat} {A B : ES → Prop} : guardK false false gs A B s = A (s.put (some gs) (.pv (.v (.bool false)))) := by simp [guardK, bW_F]
theorem gK_d1 {p : Prop} [Decidable p] {gs : Nat} {A B : ES → Prop} : guardK (decide p) true gs A B s = ((p → A (s.put (some gs) (.pv (.v (.bool true))))) ∧ (¬ p → B (s.put (some gs) (.pv (.v (.bool false)))))) := by simp [guardK, bW_d]
theorem gK_d0 {p : Prop} [Decidable p] {gs : Nat} {A B : ES → Prop} : guardK (decide p) false gs A B s = ((p → B (s.put (some gs) (.pv (.v (.bool true))))) ∧ (¬ p → A (s.put (some gs) (.pv (.v (.bool false)))))) := by simp [guardK, bW_d]
theorem gK_n1 {t : Bool} {gs : Nat} {A B : ES → Prop} : guardK (!t) true gs A B s = boolW t (B (s.put (some gs) (.pv (.v (.bool false))))) (A (s.put (some gs) (.pv (.v (.bool true))))) := by simp [guardK, bW_n]
theorem gK_n0 {t : Bool} {gs : Nat} {A B : ES → Prop} : guardK (!t) false gs A B s = boolW t (A (s.put (some gs) (.pv (.v (.bool false))))) (B (s.put (some gs) (.pv (.v (.bool true))))) := by simp [guardK, bW_n]
theorem v_then_n {K : ES → Prop} : thenW K Q .normal s = K s := rfl
theorem v_then_r {K : ES → Prop} : thenW K Q .ret s = Q .ret s := rfl
theorem v_then_x {K : ES → Prop} {id : Nat} : thenW K Q (.exit id) s = Q (.exit id) s := rfl
theorem v_blk_n {id : Nat} : blockW id Q .normal s = Q .normal s := rfl
theorem v_blk_r {id : Nat} : blockW id Q .ret s = Q .ret s := rfl
theorem v_blk_x {id j : Nat} : blockW id Q (.exit j) s = boolW (Nat.beq j id) (Q .normal s) (Q (.exit j) s) := by
  simp only [blockW]
  by_cases h : j = id
  · subst h; simp [Nat.beq_refl, bW_T]
  · rw [if_neg h, beq_false h, bW_F]
theorem s_some {e : TV × Upd} : stepW P o K s (some e) = K (s.after o e) := rfl
theorem s_none : stepW P o K s none = False := rfl
theorem s_ite {c : Prop} [Decidable c] {x : Option (TV × Upd)} : stepW P o K s (if c then x else none) = (c ∧ stepW P o K s x) := by
  by_cases h : c <;> simp [h, stepW]
theorem s_get {α : Type} {l : List α} {k : Nat} {f : α → TV × Upd} : stepW P o K s (Option.map f l[k]?) = (k < l.length ∧ ∀ b, l[k]? = some b → K (s.after o (f b))) := by
  apply propext
  rcases Nat.lt_or_ge k l.length with h | h
  · rw [List.getElem?_eq_getElem h]; simp [stepW, h]
  · rw [List.getElem?_eq_none h]; simp [stepW, Nat.not_lt.2 h]
/-- At a loop's end: a state at its head, nearer its end. -/
def loopK {σ : Type} (st : σ → ES) (μ : σ → Nat) (x : σ) (s : ES) : Prop := ∃ y, μ y < μ x ∧ (st y).Lw s
@[congr] theorem loopK_congr {σ : Type} {st : σ → ES} {μ : σ → Nat} {x : σ} (h : s = s') : loopK st μ x s = loopK st μ x s' := by rw [h]
theorem v_loop {σ : Type} (st : σ → ES) (μ : σ → Nat) (x0 : σ) (h0 : (st x0).Lw s) (hr : ∀ x, swp P g a (thenW (loopK st μ x) Q) (st x)) : swp P g (.loop a) Q s := by
  refine ⟨fun n s => ∃ x, μ x = n ∧ s = st x, μ x0, ⟨st x0, h0, x0, rfl, rfl⟩, ?_⟩
  rintro n s ⟨x, rfl, rfl⟩
  refine swp_mono (hr x) (fun e s he => ?_)
  cases e with
  | normal => obtain ⟨y, h1, h2⟩ := he; exact ⟨μ y, h1, st y, h2, y, rfl, rfl⟩
  | exit id => exact he
  | ret => exact he
theorem loopK_of {σ : Type} {st : σ → ES} {μ : σ → Nat} {x : σ} (y : σ) (h1 : μ y < μ x) (h2 : (st y).Lw s) : loopK st μ x s := ⟨y, h1, h2⟩
theorem lw_of {s0 s : ES} (h1 : leL s0.t s.t) (h2 : leL s0.b s.b) (h3 : leL s0.r s.r) (h4 : leL s0.i s.i) : s0.Lw s := (le_of h1 h2 h3 h4).lw
theorem lw_eq {s0 s : ES} (h : s0 = s) : s0.Lw s := h ▸ .refl _
/-- What a call is handed. -/
def callIn (s : ES) (m : Nat) (xs : List Arg) : Option (List TV × List MO × List Nat) := match seqO (fun x : Arg => x.get s.fs) xs with
  | some args => match seqO (TV.ren2 (rhoIn (handI s.fs m args))) args, seqO (fun d => (s.fs.mo d).bind (MO.ren (rhoIn (handI s.fs m args)))) (handI s.fs m args) with
    | some xs', some os => some (xs', os, handI s.fs m args)
    | _, _ => none
  | none => none
def callOut (s : ES) (dst : Option Nat) (I : List Nat) (y : TV) (os' : List MO) : Option ES := match y.ren3 (rhoOut I (dstId dst)), outs (rhoOut I (dstId dst)) 0 os' with
  | some y', some us => some ((s.upd dst (.mem us)).put dst y')
  | _, _ => none
theorem v_call {dst : Option Nat} {f m : Nat} {xs : List Arg} {xs' : List TV} {I : List Nat} {os os' : List MO} {y : TV} (hx : callIn s m xs = some (xs', os, I)) (hc : SCalls P g f xs' os y os') (hmo : moOk os os' = true) (hs : callOut s dst I y os' = some s') (hk : opsW P g l K s') :
    opsW P g (⟨dst, none, none, .call f m xs⟩ :: l) K s := by
  unfold callIn at hx
  split at hx
  · rename_i args ha
    split at hx
    · rename_i a1 a2 h1 h2
      cases hx
      unfold callOut at hs
      split at hs
      · rename_i y' us h3 h4
        cases hs
        exact w_call ha rfl h1 h2 hc hmo h3 h4 rfl hk
      · cases hs
    · cases hx
  · cases hx
/-- A call of a function value. -/
def callvIn (s : ES) (m : Nat) (x : Arg) (xs : List Arg) : Option (Nat × List TV × List MO × List Nat) := match (x.get s.fs).bind TV.callee, seqO (fun x : Arg => x.get s.fs) xs with
  | some (f, fa, fb), some vs => match seqO (TV.ren2 (rhoIn (handI s.fs m (fa ++ vs ++ fb)))) (fa ++ vs ++ fb), seqO (fun d => (s.fs.mo d).bind (MO.ren (rhoIn (handI s.fs m (fa ++ vs ++ fb))))) (handI s.fs m (fa ++ vs ++ fb)) with
    | some xs', some os => some (f, xs', os, handI s.fs m (fa ++ vs ++ fb))
    | _, _ => none
  | _, _ => none
theorem v_callv {dst : Option Nat} {f m : Nat} {x : Arg} {xs : List Arg} {xs' : List TV} {I : List Nat} {os os' : List MO} {y : TV} (hx : callvIn s m x xs = some (f, xs', os, I)) (hc : SCalls P g f xs' os y os') (hmo : moOk os os' = true) (hs : callOut s dst I y os' = some s') (hk : opsW P g l K s') :
    opsW P g (⟨dst, none, none, .callv x m xs⟩ :: l) K s := by
  unfold callvIn at hx
  split at hx
  · rename_i f' fa fb vs h0 h1
    split at hx
    · rename_i a1 a2 h3 h4
      cases hx
      unfold callOut at hs
      split at hs
      · rename_i y' us h5 h6
        cases hs
        refine opsW_callv ?_
        rw [h0, h1]
        exact ⟨_, rfl, xs', os, h3, h4, y, os', hc, hmo, y', us, h5, h6, hk⟩
      · cases hs
    · cases hx
  · cases hx
end
end Go.Sh
namespace Go.Sh
open Go Go.RowKit
theorem nc_mov (x : Arg) : (SOp.mov x).isCall = false := rfl
theorem nc_pick (c a b : Arg) : (SOp.pick c a b).isCall = false := rfl
theorem nc_bin (op : BinOp) (t : TypeId) (x y : Arg) : (SOp.bin op t x y).isCall = false := rfl
theorem nc_un (op : UnOp) (x : Arg) : (SOp.un op x).isCall = false := rfl
theorem nc_cvi (k : IntKind) (x : Arg) : (SOp.cvi k x).isCall = false := rfl
theorem nc_cvs (x : Arg) : (SOp.cvs x).isCall = false := rfl
theorem nc_b2s (x : Arg) : (SOp.b2s x).isCall = false := rfl
theorem nc_imm (mx : Bool) (x y : Arg) : (SOp.imm mx x y).isCall = false := rfl
theorem nc_sidx (x i : Arg) : (SOp.sidx x i).isCall = false := rfl
theorem nc_ssub (x : Arg) (lo hi : Option Arg) : (SOp.ssub x lo hi).isCall = false := rfl
theorem nc_slen (x : Arg) : (SOp.slen x).isCall = false := rfl
theorem nc_new (z : List Value) : (SOp.new z).isCall = false := rfl
theorem nc_box (x : Arg) : (SOp.box x).isCall = false := rfl
theorem nc_build (z : List Value) (ps : List (Nat × Nat × Arg)) : (SOp.build z ps).isCall = false := rfl
theorem nc_bsl (W : Nat) (xs : List Arg) : (SOp.bsl W xs).isCall = false := rfl
theorem nc_fld (a : Bool) (o n : Nat) (x : Arg) : (SOp.fld a o n x).isCall = false := rfl
theorem nc_fldA (o : Nat) (x : Arg) : (SOp.fldA o x).isCall = false := rfl
theorem nc_ld (a : Bool) (n : Nat) (x : Arg) : (SOp.ld a n x).isCall = false := rfl
theorem nc_st (n : Nat) (x y : Arg) : (SOp.st n x y).isCall = false := rfl
theorem nc_len (x : Arg) : (SOp.len x).isCall = false := rfl
theorem nc_idxA (W : Nat) (x i : Arg) : (SOp.idxA W x i).isCall = false := rfl
theorem nc_sub (W : Nat) (x : Arg) (lo hi : Option Arg) : (SOp.sub W x lo hi).isCall = false := rfl
theorem nc_app (e W n : Nat) (x y : Arg) : (SOp.app e W n x y).isCall = false := rfl
theorem nc_appS (e n : Nat) (x y : Arg) : (SOp.appS e n x y).isCall = false := rfl
theorem nc_appN (e W n : Nat) (x y : Arg) : (SOp.appN e W n x y).isCall = false := rfl
theorem nc_appNS (e n : Nat) (x y : Arg) : (SOp.appNS e n x y).isCall = false := rfl
theorem nc_ext (x : Arg) (i : Nat) : (SOp.ext x i).isCall = false := rfl
theorem nc_nchk (x : Arg) : (SOp.nchk x).isCall = false := rfl
theorem nc_mkf (f : Fn) (a b : List Arg) : (SOp.mkf f a b).isCall = false := rfl
theorem nc_rng (x : Arg) : (SOp.rng x).isCall = false := rfl
theorem nc_nxt (x : Arg) : (SOp.nxt x).isCall = false := rfl
theorem nc_mks (n : Nat) (z : List Value) (x : Arg) : (SOp.mks n z x).isCall = false := rfl
section
variable (P : Program) (t : TypeId) (k : IntKind) (a b : Int) (x y : ByteArray)
theorem bin_quoI : scal P (do eqGuard .quo t (.const (.int k a)) (.const (.int k b)) (.int k a) (.int k b); binOp .quo t (.int k a) (.int k b)) = if b ≠ 0 then some (.pv (.v (.int k (k.wrap (a.tdiv b)))), .no) else none := by
  by_cases hb : b ≠ 0
  · rw [if_pos hb]; exact bin_quo P t k a b hb
  · have : b = 0 := by omega
    subst this; rw [if_neg (by simp)]; simp [scal, eqGuard, binOp, Op.intDiv]; rfl
theorem bin_remI : scal P (do eqGuard .rem t (.const (.int k a)) (.const (.int k b)) (.int k a) (.int k b); binOp .rem t (.int k a) (.int k b)) = if b ≠ 0 then some (.pv (.v (.int k (a.tmod b))), .no) else none := by
  by_cases hb : b ≠ 0
  · rw [if_pos hb]; exact bin_rem P t k a b hb
  · have : b = 0 := by omega
    subst this; rw [if_neg (by simp)]; simp [scal, eqGuard, binOp, Op.intDiv]; rfl
theorem sbin_addI : scal P (do eqGuard .add t (.const (.string x)) (.const (.string y)) (.string x) (.string y); binOp .add t (.string x) (.string y)) = if x.size + y.size ≤ 9223372036854775807 then some (.pv (.v (.string (x ++ y))), .no) else none := by
  by_cases hb : x.size + y.size ≤ 9223372036854775807
  · rw [if_pos hb]; exact sbin_add P t x y hb
  · rw [if_neg hb]
    have hm : IntKind.i64.max = 9223372036854775807 := by rfl
    have h' : (((x.size + y.size : Nat) : Int) > IntKind.i64.max) := by rw [hm]; omega
    simp only [scal, eqGuard, binOp, Op.stringOp, h', if_true]; rfl
end
end Go.Sh
namespace Go.Sh
open Go Go.RowKit
def nilT : TV := .pv (.v (.slice none 0 0))
/-- A nil slice in a slot, or in a variable's cell, is one's own. -/
def ES.adT (s : ES) (k d e W : Nat) : ES := ⟨sv (s.fgt [d]).t k (.own d W []), (s.fgt [d]).b, sv (s.fgt [d]).r d (e, W, 0), (s.fgt [d]).i⟩
def ES.adB (s : ES) (x : Nat) (cs : List TV) (j d e W : Nat) : ES := ⟨(s.fgt [d]).t, sv (s.fgt [d]).b x (cs.set j (.own d W [])), sv (s.fgt [d]).r d (e, W, 0), (s.fgt [d]).i⟩
theorem own_nil {w : World} {E : Env} {r : Rows} {d e W : Nat} {v : Value} (hr : r d = some (e, W, 0)) (hg : E.γ d = none) (h : RelT w E r nilT v) : RelT w E r (.own d W []) v := by
  have hv : v = .slice none 0 0 := val_rel h rfl
  subst hv
  refine .own d W [] _ ?_ (fun e' W' n hn => ?_)
  · exact .sl W [] 0 0 0 none (fun _ _ => undef) (by simp) (by simp) (by simp) (by simp) (by simp) (by simp)
  · rw [hr] at hn; cases hn
    exact ⟨Nat.le_refl _, fun _ => ⟨rfl, by rw [hg]; rfl⟩⟩
section
variable {B : Base} {s : FS} {a : Act} {w : World} {E : Env}
theorem Sim.reT (h : Sim B s a w E) {k : Nat} {x y : TV} (hk : s.t k = some x) (hy : ∀ v, RelT w E s.r x v → RelT w E s.r y v) : Sim B (s.setT k y) a w E := by
  refine ⟨h.defers, h.size, fun j z hz => ?_, h.mem, h.itr, h.ii⟩
  rcases setF_inv hz with ⟨rfl, rfl⟩ | ⟨hj, hz⟩
  · exact ⟨(h.tmp j x hk).1, hy _ (h.tmp j x hk).2⟩
  · exact h.tmp j z hz
theorem Sim.reB (h : Sim B s a w E) {k : Nat} {cs ds : List TV} (hk : s.b k = some cs) (hy : ∀ (j : Nat) d, ds[j]? = some d → ∃ c, cs[j]? = some c ∧ ∀ v, RelT w E s.r c v → RelT w E s.r d v) : Sim B (s.setB k ds) a w E := by
  refine ⟨h.defers, h.size, h.tmp, ⟨fun d ds' hd => ?_, h.mem.row, fun d d' c c' h1 h2 h3 => ?_, fun d d' c q b cap h1 h2 h3 => ?_, h.mem.rr, h.mem.lt, h.mem.low, h.mem.keep, h.mem.knew, h.mem.pas⟩, h.itr, h.ii⟩
  · rcases setF_inv hd with ⟨rfl, rfl⟩ | ⟨_, hd⟩
    · obtain ⟨h1, h2⟩ := h.mem.box d cs hk
      refine ⟨⟨h1.lt, h1.obj, h1.fz, fun j c hc => ?_, h1.out⟩, h2⟩
      obtain ⟨c0, hc0, hw⟩ := hy j c hc
      obtain ⟨v, q1, q2, q3⟩ := h1.cell j c0 hc0
      exact ⟨v, q1, q2, hw v q3⟩
    · exact h.mem.box d ds' hd
  · have e1 : ∃ c, s.b d = some c := (setF_inv h1).elim (fun h => ⟨cs, h.1 ▸ hk⟩) (fun h => ⟨_, h.2⟩)
    have e2 : ∃ c, s.b d' = some c := (setF_inv h2).elim (fun h => ⟨cs, h.1 ▸ hk⟩) (fun h => ⟨_, h.2⟩)
    obtain ⟨c1, e1⟩ := e1; obtain ⟨c2, e2⟩ := e2
    exact h.mem.bb d d' c1 c2 e1 e2 h3
  · have e1 : ∃ c, s.b d = some c := (setF_inv h1).elim (fun h => ⟨cs, h.1 ▸ hk⟩) (fun h => ⟨_, h.2⟩)
    obtain ⟨c1, e1⟩ := e1
    exact h.mem.br d d' c1 q b cap e1 h2 h3
end
theorem adT_lw {s : ES} {k d e W : Nat} (hd : d < 1000 ∨ 2000 ≤ d) (hk : lk s.t k = some nilT) : (s.adT k d e W).Lw s := by
  intro B a w E hm hN hS
  have h1 := fgt_sound hS [d]
  have hf : Fresh (s.fgt [d]).fs d := fgt_fresh s (by simp)
  obtain ⟨E', e1, e2, e3, h2, h3⟩ := h1.adopt (d := d) (fun ho => by have := ho.1; have := ho.2; omega) hf e W
  refine ⟨E', ?_⟩
  have hk' : (s.fgt [d]).fs.t k = some nilT := by
    show lk ((s.fgt [d]).t) k = _
    simp only [ES.fgt, lk_map, hk]; rfl
  have := h2.reT (k := k) (x := nilT) (y := .own d W []) hk' (fun v hv => own_nil (e := e) (by simp [FS.setR, setF]) e3 hv)
  have he : (s.adT k d e W).fs = ((s.fgt [d]).fs.setR d (e, W, 0)).setT k (.own d W []) := by
    simp only [ES.adT, ES.fs, FS.setR, FS.setT, lk_sv]
  rw [he]; exact this
theorem adB_lw {s : ES} {x j d e W : Nat} {cs : List TV} (hd : d < 1000 ∨ 2000 ≤ d) (hne : x ≠ d) (hk : lk s.b x = some cs) (hc : cs.map (fgt3 [d]) = cs) (hj : cs[j]? = some nilT) : (s.adB x cs j d e W).Lw s := by
  intro B a w E hm hN hS
  have h1 := fgt_sound hS [d]
  have hf : Fresh (s.fgt [d]).fs d := fgt_fresh s (by simp)
  obtain ⟨E', e1, e2, e3, h2, h3⟩ := h1.adopt (d := d) (fun ho => by have := ho.1; have := ho.2; omega) hf e W
  refine ⟨E', ?_⟩
  have hk' : (s.fgt [d]).fs.b x = some cs := by
    rw [fgt_b]
    have : has [d] x = false := by simp only [has]; rw [beq_false (fun h => hne h.symm)]
    rw [this, hk]; simp [hc]
  have := h2.reB (k := x) (cs := cs) (ds := cs.set j (.own d W [])) hk' (fun i c hi => by
    by_cases hij : j = i
    · subst hij
      have hl : j < cs.length := (List.getElem?_eq_some_iff.1 hj).1
      rw [List.getElem?_set_self hl] at hi; cases hi
      exact ⟨nilT, hj, fun v hv => own_nil (e := e) (by simp [FS.setR, setF]) e3 hv⟩
    · rw [List.getElem?_set_ne hij] at hi
      exact ⟨c, hi, fun v hv => hv⟩)
  have he : (s.adB x cs j d e W).fs = ((s.fgt [d]).fs.setR d (e, W, 0)).setB x (cs.set j (.own d W [])) := by
    simp only [ES.adB, ES.fs, FS.setR, FS.setB, lk_sv]
  rw [he]; exact this
end Go.Sh
namespace Go.Sh
open Go
theorem reach_nil {s : FS} {rows : Bool} {n : Nat} {seen : List Nat} : reach s rows n [] seen = seen := by cases n <;> simp [reach]
def reachM (s : FS) (rows : Bool) (n d : Nat) (l seen : List Nat) : Option Nat → Option (List TV) → Option (Nat × Nat × Nat) → List Nat
  | some _, _, _ => reach s rows n l seen
  | none, some cs, _ => reach s rows n (cs.flatMap TV.ids1 ++ l) (seen ++ [d])
  | none, none, some _ => if rows then reach s rows n l (seen ++ [d]) else reach s rows n l seen
  | none, none, none => reach s rows n l seen
theorem reach_cons {s : FS} {rows : Bool} {n d : Nat} {l seen : List Nat} : reach s rows (n + 1) (d :: l) seen = reachM s rows n d l seen (pos seen d) (s.b d) (s.r d) := by
  simp only [reach]
  cases hp : pos seen d with
  | some j => rfl
  | none =>
    cases hb : s.b d with
    | some cs => rfl
    | none =>
      cases hr : s.r d with
      | none => rfl
      | some q => cases rows <;> rfl
theorem reach_m1 {s : FS} {rows : Bool} {n d j : Nat} {l seen : List Nat} {b : Option (List TV)} {r : Option (Nat × Nat × Nat)} : reachM s rows n d l seen (some j) b r = reach s rows n l seen := rfl
theorem reach_m2 {s : FS} {rows : Bool} {n d : Nat} {l seen : List Nat} {cs : List TV} {r : Option (Nat × Nat × Nat)} : reachM s rows n d l seen none (some cs) r = reach s rows n (cs.flatMap TV.ids1 ++ l) (seen ++ [d]) := rfl
theorem reach_m3 {s : FS} {rows : Bool} {n d : Nat} {l seen : List Nat} {q : Nat × Nat × Nat} : reachM s rows n d l seen none none (some q) = if rows then reach s rows n l (seen ++ [d]) else reach s rows n l seen := rfl
theorem reach_m4 {s : FS} {rows : Bool} {n d : Nat} {l seen : List Nat} : reachM s rows n d l seen none none none = reach s rows n l seen := rfl
end Go.Sh
namespace Go.Sh
open Go
section
variable {P : Program} {C : Oracle} {d e W n : Nat} {x y : Arg} {s : FS} {z : List Value}
def appNK (d e W n : Nat) : Option Bool → Option (List (List PV)) → Option (TV × Upd)
  | some true, some es2 => if es2.length * n ≤ 140737488355328 ∧ es2.length ≤ maxLen then some (.own d W es2, .row d (e, W, es2.length)) else none
  | _, _ => none
def appNSK (d e n : Nat) : Option Bool → Option ByteArray → Option (TV × Upd)
  | some true, some b => if b.size * n ≤ 140737488355328 ∧ b.size ≤ maxLen then some (.own d 1 (bytesP b), .row d (e, 1, b.size)) else none
  | _, _ => none
theorem e_appN : eff P C (some d) (.appN e W n x y) s = appNK d e W n ((x.get s).map TV.isNil) ((y.get s).bind (TV.elems W)) := by
  simp only [eff]
  generalize (x.get s).map TV.isNil = a
  generalize (y.get s).bind (TV.elems W) = b
  cases a with
  | none => rfl
  | some a => cases a <;> cases b <;> rfl
theorem e_appN1 {es : List (List PV)} : appNK d e W n (some true) (some es) = if es.length * n ≤ 140737488355328 ∧ es.length ≤ maxLen then some (.own d W es, .row d (e, W, es.length)) else none := rfl
theorem e_appN2 {o : Option (List (List PV))} : appNK d e W n (some false) o = none := by cases o <;> rfl
theorem e_appNS : eff P C (some d) (.appNS e n x y) s = appNSK d e n ((x.get s).map TV.isNil) ((y.get s).bind TV.str) := by
  simp only [eff]
  generalize (x.get s).map TV.isNil = a
  generalize (y.get s).bind TV.str = b
  cases a with
  | none => rfl
  | some a => cases a <;> cases b <;> rfl
theorem e_appNS1 {b : ByteArray} : appNSK d e n (some true) (some b) = if b.size * n ≤ 140737488355328 ∧ b.size ≤ maxLen then some (.own d 1 (bytesP b), .row d (e, 1, b.size)) else none := rfl
theorem e_appNS2 {o : Option ByteArray} : appNSK d e n (some false) o = none := by cases o <;> rfl
def rngK (d : Nat) : Option ByteArray → Option (TV × Upd)
  | some z => some (.it d, .it d (z, 0))
  | none => none
theorem e_rng : eff P C (some d) (.rng x) s = rngK d ((x.get s).bind TV.str) := by
  simp only [eff]
  generalize (x.get s).bind TV.str = b
  cases b <;> rfl
theorem e_rng1 {b : ByteArray} : rngK d (some b) = some (.it d, .it d (b, 0)) := rfl
def mksK (d n : Nat) (z : List Value) : Option TV → Option (TV × Upd)
  | some (.pv (.v (.int .i64 k))) => if 0 ≤ k ∧ n * k ≤ 140737488355328 ∧ k ≤ maxLen then some (.bs d 0 k.toNat k.toNat, .box ((List.replicate k.toNat (z.map fun v => TV.pv (.v v))).flatten)) else none
  | _ => none
theorem e_mks : eff P C (some d) (.mks n z x) s = mksK d n z (x.get s) := by
  simp only [eff]
  generalize x.get s = b
  unfold mksK
  split <;> split <;> simp_all
theorem e_mks1 {k : Int} : mksK d n z (some (.pv (.v (.int .i64 k)))) = if 0 ≤ k ∧ n * k ≤ 140737488355328 ∧ k ≤ maxLen then some (.bs d 0 k.toNat k.toNat, .box ((List.replicate k.toNat (z.map fun v => TV.pv (.v v))).flatten)) else none := rfl
end
end Go.Sh
namespace Go.Sh
open Go Go.RowKit
/-- What is known of a plain value may be made less. -/
def PWk (c d : PV) : Prop := ∀ w K v, RelV w K c v → RelV w K d v
theorem PWk.refl (c : PV) : PWk c c := fun _ _ _ h => h
theorem pwk_nil (W : Nat) : PWk (.v (.slice none 0 0)) (.sl W []) := by
  intro w K v h
  cases h
  exact .sl W [] 0 0 0 none (fun _ _ => undef) (by simp) (by simp) (by simp) (by simp) (by simp) (by simp)
theorem pwk_sl {W : Nat} {es es' : List (List PV)} (hl : es.length = es'.length) (h : ∀ (i : Nat) cs ds, es[i]? = some cs → es'[i]? = some ds → cs.length = ds.length ∧ ∀ (j : Nat) c d, cs[j]? = some c → ds[j]? = some d → PWk c d) : PWk (.sl W es) (.sl W es') := by
  intro w K v hv
  have key : ∀ (i j : Nat) (ds : List PV) (d : PV), es'[i]? = some ds → ds[j]? = some d → ∃ cs c, es[i]? = some cs ∧ cs[j]? = some c ∧ PWk c d := by
    intro i j ds d h1 h2
    have hi : i < es.length := by rw [hl]; exact (List.getElem?_eq_some_iff.1 h1).1
    obtain ⟨h3, h4⟩ := h i _ ds (List.getElem?_eq_getElem hi) h1
    have hj : j < es[i].length := by rw [h3]; exact (List.getElem?_eq_some_iff.1 h2).1
    exact ⟨_, _, List.getElem?_eq_getElem hi, List.getElem?_eq_getElem hj, h4 j _ d (List.getElem?_eq_getElem hj) h2⟩
  cases hv with
  | sl W es b off cap p f hp hcap hmax hW hc hs =>
    rw [hl]
    refine .sl W es' b off cap p f (fun hne => hp (fun h0 => hne (List.eq_nil_of_length_eq_zero (by rw [← hl, h0]; rfl)))) (by omega) hmax (fun ds hds => ?_) (fun i j ds d h1 h2 => ?_) (fun i j ds d h1 h2 => ?_)
    · obtain ⟨i, hi⟩ := List.getElem?_of_mem hds
      have hi' : i < es.length := by rw [hl]; exact (List.getElem?_eq_some_iff.1 hi).1
      rw [← (h i _ ds (List.getElem?_eq_getElem hi') hi).1]
      exact hW _ (List.getElem_mem hi')
    · obtain ⟨cs, c, h3, h4, _⟩ := key i j ds d h1 h2
      exact hc i j cs c h3 h4
    · obtain ⟨cs, c, h3, h4, h5⟩ := key i j ds d h1 h2
      exact h5 _ _ _ (hs i j cs c h3 h4)
theorem wk_pv {c d : PV} (h : PWk c d) : Wk (.pv c) (.pv d) := by
  intro w E r v hv
  cases hv with
  | pv hv => exact .pv (h _ _ _ hv)
theorem wk_own {d W : Nat} {es es' : List (List PV)} (hl : es.length = es'.length) (h : PWk (.sl W es) (.sl W es')) : Wk (.own d W es) (.own d W es') := by
  intro w E r v hv
  cases hv with
  | own d W es v h1 h2 => exact .own d W es' v (h _ _ _ h1) (fun e W' n hn => by rw [← hl]; exact h2 e W' n hn)
theorem reT_lw {s : ES} {k : Nat} {x y : TV} (hk : lk s.t k = some x) (hw : Wk x y) : (⟨sv s.t k y, s.b, s.r, s.i⟩ : ES).Lw s := by
  intro B a w E _ _ hS
  refine ⟨E, ?_⟩
  have := hS.reT (k := k) (x := x) (y := y) hk (fun v hv => hw _ _ _ _ hv)
  have he : (⟨sv s.t k y, s.b, s.r, s.i⟩ : ES).fs = s.fs.setT k y := by simp only [ES.fs, FS.setT, lk_sv]
  rw [he]; exact this
theorem reB_lw {s : ES} {k : Nat} {cs ds : List TV} (hk : lk s.b k = some cs) (hl : cs.length = ds.length) (hw : ∀ (j : Nat) c d, cs[j]? = some c → ds[j]? = some d → Wk c d) : (⟨s.t, sv s.b k ds, s.r, s.i⟩ : ES).Lw s := by
  intro B a w E _ _ hS
  refine ⟨E, ?_⟩
  have := hS.reB (k := k) (cs := cs) (ds := ds) hk (fun j d hd => by
    have hj : j < cs.length := by rw [hl]; exact (List.getElem?_eq_some_iff.1 hd).1
    exact ⟨_, List.getElem?_eq_getElem hj, fun v hv => hw j _ d (List.getElem?_eq_getElem hj) hd _ _ _ _ hv⟩)
  have he : (⟨s.t, sv s.b k ds, s.r, s.i⟩ : ES).fs = s.fs.setB k ds := by simp only [ES.fs, FS.setB, lk_sv]
  rw [he]; exact this
end Go.Sh
namespace Go.Sh
open Go Go.RowKit
theorem wk_own_pv {d W : Nat} {es es' : List (List PV)} (h : PWk (.sl W es) (.sl W es')) : Wk (.own d W es) (.pv (.sl W es')) := by
  intro w E r v hv
  cases hv with
  | own d W es v h1 h2 => exact .pv (h _ _ _ h1)
theorem pwk_last {W : Nat} {es : List (List PV)} {cs ds : List PV} (hl : cs.length = ds.length) (h : ∀ (j : Nat) c d, cs[j]? = some c → ds[j]? = some d → PWk c d) : PWk (.sl W (es ++ [cs])) (.sl W (es ++ [ds])) := by
  refine pwk_sl (by simp) (fun i a b h1 h2 => ?_)
  by_cases hi : i < es.length
  · rw [List.getElem?_append_left hi] at h1 h2
    rw [h1] at h2; cases h2
    exact ⟨rfl, fun j c d h3 h4 => by rw [h3] at h4; cases h4; exact .refl c⟩
  · rw [List.getElem?_append_right (by omega)] at h1 h2
    have h0 : i - es.length = 0 := by
      have := (List.getElem?_eq_some_iff.1 h1).1; simp at this; omega
    rw [h0] at h1 h2; simp at h1 h2; subst h1; subst h2
    exact ⟨hl, h⟩
end Go.Sh
namespace Go.Sh
open Go
section
variable {P : Program} {C : Oracle} {dst : Option Nat} {W l h : Nat} {x : Arg} {lo hi : Option Arg} {s : FS} {z : ByteArray} {es : List (List PV)} {c : Prop} [Decidable c] {o : Option Nat}
def ssubK (z : ByteArray) : Option Nat → Option Nat → Option (TV × Upd)
  | some l, some h => if l ≤ h ∧ h ≤ z.size then some (.pv (.v (.string (z.extract l h))), .no) else none
  | _, _ => none
def ssubM (s : FS) (lo hi : Option Arg) : Option ByteArray → Option (TV × Upd)
  | some z => ssubK z (bound s 0 lo) (bound s z.size hi)
  | none => none
theorem e_ssub : eff P C dst (.ssub x lo hi) s = ssubM s lo hi ((x.get s).bind TV.str) := by
  simp only [eff]; generalize (x.get s).bind TV.str = a
  cases a with
  | none => rfl
  | some z =>
    unfold ssubM ssubK
    simp only []
    generalize bound s 0 lo = u
    generalize bound s z.size hi = v
    cases u <;> cases v <;> rfl
theorem e_ssub1 : ssubM s lo hi (some z) = ssubK z (bound s 0 lo) (bound s z.size hi) := rfl
theorem e_ssub2 : ssubK z (some l) (some h) = if l ≤ h ∧ h ≤ z.size then some (.pv (.v (.string (z.extract l h))), .no) else none := rfl
theorem e_ssub3 : ssubK z (some l) (if c then some h else none) = if c then ssubK z (some l) (some h) else none := by split <;> rfl
theorem e_ssub4 : ssubK z (if c then some l else none) o = if c then ssubK z (some l) o else none := by
  split
  · rfl
  · cases o <;> rfl
def subK (W : Nat) (es : List (List PV)) : Option Nat → Option Nat → Option (TV × Upd)
  | some l, some h => if l ≤ h ∧ h ≤ es.length then some (.pv (.sl W ((es.take h).drop l)), .no) else none
  | _, _ => none
def subM (s : FS) (W : Nat) (lo hi : Option Arg) : Option (List (List PV)) → Option (TV × Upd)
  | some es => subK W es (bound s 0 lo) (bound s es.length hi)
  | none => none
theorem e_sub1 : subM s W lo hi (some es) = subK W es (bound s 0 lo) (bound s es.length hi) := rfl
theorem e_sub2 : subK W es (some l) (some h) = if l ≤ h ∧ h ≤ es.length then some (.pv (.sl W ((es.take h).drop l)), .no) else none := rfl
theorem e_sub3 : subK W es (some l) (if c then some h else none) = if c then subK W es (some l) (some h) else none := by split <;> rfl
theorem e_sub4 : subK W es (if c then some l else none) o = if c then subK W es (some l) o else none := by
  split
  · rfl
  · cases o <;> rfl
theorem e_sub5 {W' : Nat} : subM s W lo hi (TV.elems W (.pv (.sl W' es))) = subM s W lo hi (if Nat.beq W' W then some es else none) := rfl
def subT (s : FS) (W : Nat) (lo hi : Option Arg) : Option TV → Option (TV × Upd)
  | some (.bs d off n c) => match bound s 0 lo, bound s n hi with
      | some l, some h => if l ≤ h ∧ h ≤ n ∧ n ≤ c then some (if c = l then .bs d off (h - l) (c - l) else .bs d (off + l * W) (h - l) (c - l), .no) else none
      | _, _ => none
  | some t => subM s W lo hi (t.elems W)
  | none => none
theorem e_sub : eff P C dst (.sub W x lo hi) s = subT s W lo hi (x.get s) := by
  simp only [eff]; generalize x.get s = a
  cases a with
  | none => rfl
  | some t =>
    have key : ∀ q : Option (List (List PV)), (match q with
        | some es => match bound s 0 lo, bound s es.length hi with
          | some l, some h => if l ≤ h ∧ h ≤ es.length then some (TV.pv (.sl W ((es.take h).drop l)), Upd.no) else none
          | _, _ => none
        | none => none) = subM s W lo hi q := by
      intro q
      cases q with
      | none => rfl
      | some es =>
        unfold subM subK
        generalize bound s 0 lo = u
        generalize bound s es.length hi = v
        cases u <;> cases v <;> rfl
    cases t with
    | bs d off n c => rfl
    | pv p => exact key ((TV.pv p).elems W)
    | own d W' es => exact key ((TV.own d W' es).elems W)
    | _ => rfl
theorem e_subT1 {p : PV} : subT s W lo hi (some (.pv p)) = subM s W lo hi ((TV.pv p).elems W) := rfl
theorem e_subT2 {d : Nat} {W' : Nat} : subT s W lo hi (some (.own d W' es)) = subM s W lo hi ((TV.own d W' es).elems W) := rfl
theorem e_subT3 {d off n c : Nat} : subT s W lo hi (some (.bs d off n c)) = (match bound s 0 lo, bound s n hi with
      | some l, some h => if l ≤ h ∧ h ≤ n ∧ n ≤ c then some (if c = l then .bs d off (h - l) (c - l) else .bs d (off + l * W) (h - l) (c - l), .no) else none
      | _, _ => none) := rfl
end
end Go.Sh
namespace Go.Sh
open Go
theorem gW_undef {w : Bool} {gs : Nat} {A B : ES → Prop} {s : ES} : guardW (some (.pv (.v undef))) w gs A B s = B s := rfl
end Go.Sh
namespace Go.Sh
open Go
section
variable {P : Program} {C : Oracle} {dst : Option Nat} {x : Arg} {s : FS} {d p : Nat} {z : ByteArray}
def nxtM (d : Nat) : Option (ByteArray × Nat) → Option (TV × Upd)
  | some (z, p) => if p < z.size then some (.tuple [.pv (.v (.bool true)), .pv (.v (.int .i64 (p : Int))), .pv (.v (.int .i32 (Utf8.decode z p).1))], .it d (z, p + (Utf8.decode z p).2)) else some (.tuple [.pv (.v (.bool false))], .no)
  | none => none
def nxtK (s : FS) : Option TV → Option (TV × Upd)
  | some (.it d) => nxtM d (s.i d)
  | _ => none
theorem e_nxt : eff P C dst (.nxt x) s = nxtK s (x.get s) := by
  simp only [eff]
  generalize x.get s = a
  cases a with
  | none => rfl
  | some t =>
    cases t <;> rfl
theorem e_nxt1 : nxtK s (some (.it d)) = nxtM d (s.i d) := rfl
theorem e_nxt2 : nxtM d (some (z, p)) = if p < z.size then some (.tuple [.pv (.v (.bool true)), .pv (.v (.int .i64 (p : Int))), .pv (.v (.int .i32 (Utf8.decode z p).1))], .it d (z, p + (Utf8.decode z p).2)) else some (.tuple [.pv (.v (.bool false))], .no) := rfl
end
theorem s_ite2 {P : Program} {o : SOper} {K : ES → Prop} {s : ES} {c : Prop} [Decidable c] {a b : TV × Upd} : stepW P o K s (if c then some a else some b) = ((c → K (s.after o a)) ∧ (¬ c → K (s.after o b))) := by
  by_cases h : c <;> simp [h, stepW]
end Go.Sh
end

section
/- Sh: the rules of walks in one. No statement of the program is proved here. -/
namespace Go.Sh
open Go Go.RowKit Go.Mor
set_option maxRecDepth 100000
theorem vcA : (type_of% @Go.Sh.bFT) ∧ (type_of% @Go.Sh.bTF) ∧ (type_of% @Go.Sh.ES.fgt.eq_1) ∧ (type_of% @List.map_cons.{0, 0}) ∧ (type_of% @List.map_nil.{0, 0}) ∧ (type_of% @Go.Sh.fgt3.eq_1) ∧ (type_of% @Go.Sh.TV.m3.eq_1) ∧ (type_of% @Go.Sh.TV.m3.eq_2) ∧ (type_of% @Go.Sh.TV.m2.eq_1) ∧ (type_of% @Go.Sh.TV.m2.eq_2) ∧ (type_of% @Go.Sh.TV.m1.eq_1) ∧ (type_of% @Go.Sh.TV.m1.eq_2) ∧ (type_of% @Go.Sh.TV.m0.eq_1) ∧ (type_of% @Go.Sh.TV.m0.eq_2) ∧ (type_of% @Go.Sh.TV.m0.eq_3) ∧ (type_of% @Go.Sh.TV.m0.eq_4) ∧ (type_of% @Go.Sh.TV.m0.eq_5) ∧ (type_of% @Go.Sh.TV.m0.eq_6) ∧ (type_of% @Go.Sh.TV.m0.eq_7) ∧ (type_of% @List.any_cons.{0}) ∧ (type_of% @List.any_nil.{0}) ∧ (type_of% @Bool.or_false) ∧ (type_of% @Bool.false_or) ∧ (type_of% @Go.Sh.drp.eq_1) ∧ (type_of% @Go.Sh.drp.eq_2) ∧ (type_of% @Go.Sh.effG.eq_1) ∧ (type_of% @Go.Sh.effF.eq_1) ∧ (type_of% @Go.Sh.footOk.eq_1) ∧ (type_of% @Go.Sh.SOp.foot.eq_1) ∧ (type_of% @Go.Sh.SOp.foot.eq_2) ∧ (type_of% @Go.Sh.SOp.foot.eq_3) ∧ (type_of% @Go.Sh.eff.eq_1) ∧ (type_of% @Go.Sh.eff.eq_2) ∧ (type_of% @Go.Sh.eff.eq_3) ∧ (type_of% @Go.Sh.eff.eq_4) ∧ (type_of% @Go.Sh.eff.eq_5) ∧ (type_of% @Go.Sh.eff.eq_6) ∧ (type_of% @Go.Sh.eff.eq_7) ∧ (type_of% @Go.Sh.eff.eq_8) ∧ (type_of% @Go.Sh.eff.eq_9) ∧ (type_of% @Go.Sh.eff.eq_11) ∧ (type_of% @Go.Sh.eff.eq_12) ∧ (type_of% @Go.Sh.eff.eq_13) ∧ (type_of% @Go.Sh.eff.eq_14) ∧ (type_of% @Go.Sh.eff.eq_15) ∧ (type_of% @Go.Sh.eff.eq_16) ∧ (type_of% @Go.Sh.eff.eq_17) ∧ (type_of% @Go.Sh.eff.eq_18) ∧ (type_of% @Go.Sh.eff.eq_19) ∧ (type_of% @Go.Sh.eff.eq_20) ∧ (type_of% @Go.Sh.eff.eq_21) ∧ (type_of% @Go.Sh.eff.eq_22) ∧ (type_of% @Go.Sh.eff.eq_23) ∧ (type_of% @Go.Sh.eff.eq_25) ∧ (type_of% @Go.Sh.eff.eq_28) ∧ (type_of% @Go.Sh.eff.eq_31) ∧ (type_of% @Go.Sh.eff.eq_32) ∧ (type_of% @Go.Sh.eff.eq_33) ∧ (type_of% @Go.Sh.eff.eq_34) ∧ (type_of% @Go.Sh.eff.eq_35) ∧ (type_of% @Go.Sh.Arg.get.eq_1) ∧ (type_of% @Go.Sh.Arg.get.eq_2) ∧ (type_of% @Go.Sh.ES.fs.eq_1) ∧ (type_of% @Go.Sh.lk.eq_1) ∧ (type_of% @Go.Sh.lk.eq_2) ∧ (type_of% @Option.map_some.{0, 0}) ∧ (type_of% @Option.bind_some.{0, 0}) ∧ (type_of% @Go.Sh.ES.after.eq_1) ∧ (type_of% @Go.Sh.ES.upd.eq_1) ∧ (type_of% @Go.Sh.ES.upd.eq_2) ∧ (type_of% @Go.Sh.ES.upd.eq_3) ∧ (type_of% @Go.Sh.ES.upd.eq_4) ∧ (type_of% @Go.Sh.ES.upd.eq_5) ∧ (type_of% @Go.Sh.ES.upd.eq_6) ∧ (type_of% @Go.Sh.ES.upd.eq_7) ∧ (type_of% @Go.Sh.ES.put.eq_1) ∧ (type_of% @Go.Sh.ES.put.eq_2) ∧ (type_of% @Go.Sh.sv.eq_1) ∧ (type_of% @Go.Sh.sv.eq_2) ∧ (type_of% @Go.Sh.ES.kill.eq_1) ∧ (type_of% @Go.Sh.ES.kill.eq_2) ∧ (type_of% @Go.Sh.has.eq_1) ∧ (type_of% @Go.Sh.has.eq_2) ∧ (type_of% @Go.Sh.nbeq) ∧ (type_of% @Go.Sh.nble) ∧ (type_of% @Go.Sh.nblt) ∧ (type_of% @Go.Sh.TV.val.eq_1) ∧ (type_of% @Go.Sh.TV.val.eq_2) ∧ (type_of% @Go.Sh.TV.val1.eq_1) ∧ (type_of% @Go.Sh.TV.val1.eq_2) ∧ (type_of% @Go.Sh.TV.int.eq_1) ∧ (type_of% @Go.Sh.TV.int.eq_2) ∧ (type_of% @Go.Sh.TV.str.eq_1) ∧ (type_of% @Go.Sh.TV.str.eq_2) ∧ (type_of% @Go.Sh.TV.cells.eq_1) ∧ (type_of% @Go.Sh.TV.cells.eq_2) ∧ (type_of% @Go.Sh.TV.cells.eq_3) ∧ (type_of% @Go.Sh.TV.cells.eq_4) ∧ (type_of% @Go.Sh.TV.cells.eq_5) ∧ (type_of% @Go.Sh.TV.slen.eq_1) ∧ (type_of% @Go.Sh.TV.slen.eq_2) ∧ (type_of% @Go.Sh.TV.slen.eq_3) ∧ (type_of% @Go.Sh.TV.slen.eq_4) ∧ (type_of% @Go.Sh.TV.slen.eq_5) ∧ (type_of% @Go.Sh.TV.toPV.eq_1) ∧ (type_of% @Go.Sh.TV.toPV.eq_2) ∧ (type_of% @Go.Sh.TV.toPV.eq_3) ∧ (type_of% @Go.Sh.TV.pvs.eq_1) ∧ (type_of% @Go.Sh.seqO.eq_1) ∧ (type_of% @Go.Sh.seqO.eq_2) ∧ (type_of% @Go.Sh.bin_lss) ∧ (type_of% @Go.Sh.bin_gtr) ∧ (type_of% @Go.Sh.bin_leq) ∧ (type_of% @Go.Sh.bin_geq) ∧ (type_of% @Go.Sh.bin_eql) ∧ (type_of% @Go.Sh.bin_neq) ∧ (type_of% @Go.Sh.bin_add) ∧ (type_of% @Go.Sh.bin_sub) ∧ (type_of% @Go.Sh.bin_mul) ∧ (type_of% @Go.Sh.sbin_eql) ∧ (type_of% @Go.Sh.sbin_neq) ∧ (type_of% @Go.Sh.sbin_lss) ∧ (type_of% @Go.Sh.sbin_gtr) ∧ (type_of% @Go.Sh.un_neg) ∧ (type_of% @Go.Sh.un_not) ∧ (type_of% @Go.Sh.startE.eq_1) ∧ (type_of% @Go.Sh.numT.eq_1) ∧ (type_of% @Go.Sh.numT.eq_2) ∧ (type_of% @Go.Sh.numB.eq_1) ∧ (type_of% @Go.Sh.numB.eq_2) ∧ (type_of% @Go.Sh.numB.eq_3) ∧ (type_of% @Go.Sh.numR.eq_1) ∧ (type_of% @Go.Sh.numR.eq_2) ∧ (type_of% @Go.Sh.numR.eq_3) ∧ (type_of% @Go.Sh.ansW.eq_1) ∧ (type_of% @Go.Sh.ansW.eq_2) ∧ (type_of% @Go.Sh.resT.eq_1) ∧ (type_of% @Go.Sh.resT.eq_2) ∧ (type_of% @Go.Sh.SRes.get.eq_1) ∧ (type_of% @Go.Sh.SRes.get.eq_2) ∧ (type_of% @List.flatMap_nil.{0, 0}) ∧ (type_of% @List.flatMap_cons.{0, 0}) ∧ (type_of% @List.append_nil.{0}) ∧ (type_of% @List.nil_append.{0}) ∧ (type_of% @Go.Sh.TV.ids3.eq_1) ∧ (type_of% @Go.Sh.TV.ids3.eq_2) ∧ (type_of% @Go.Sh.TV.ids2.eq_1) ∧ (type_of% @Go.Sh.TV.ids2.eq_2) ∧ (type_of% @Go.Sh.TV.ids1.eq_1) ∧ (type_of% @Go.Sh.TV.ids1.eq_2) ∧ (type_of% @Go.Sh.TV.ids0.eq_1) ∧ (type_of% @Go.Sh.TV.ids0.eq_2) ∧ (type_of% @Go.Sh.TV.ids0.eq_3) ∧ (type_of% @Go.Sh.TV.ids0.eq_4) ∧ (type_of% @Go.Sh.TV.ren3.eq_1) ∧ (type_of% @Go.Sh.TV.ren3.eq_2) ∧ (type_of% @Go.Sh.TV.ren2.eq_1) ∧ (type_of% @Go.Sh.TV.ren2.eq_2) ∧ (type_of% @Go.Sh.TV.ren1.eq_1) ∧ (type_of% @Go.Sh.TV.ren1.eq_2) ∧ (type_of% @Go.Sh.TV.ren0.eq_1) ∧ (type_of% @Go.Sh.TV.ren0.eq_2) ∧ (type_of% @Go.Sh.TV.ren0.eq_3) ∧ (type_of% @Go.Sh.TV.ren0.eq_4) ∧ (type_of% @Go.Sh.TV.ren0.eq_5) ∧ (type_of% @Go.Sh.TV.ren0.eq_6) ∧ (type_of% @Go.Sh.bound.eq_1) ∧ (type_of% @Go.Sh.bound.eq_2) ∧ (type_of% @if_true.{1}) ∧ (type_of% @if_false.{1}) ∧ (type_of% @Bool.false_eq_true) ∧ (type_of% @Go.Sh.partsT.eq_1) ∧ (type_of% @Go.Sh.fillT.eq_1) ∧ (type_of% @Go.Sh.fillT.eq_2) ∧ (type_of% @Go.Sh.splice.eq_1) ∧ (type_of% @List.take_zero.{0}) ∧ (type_of% @List.take_succ_cons.{0}) ∧ (type_of% @List.drop_zero.{0}) ∧ (type_of% @List.drop_succ_cons.{0}) ∧ (type_of% @List.length_cons.{0}) ∧ (type_of% @List.length_nil.{0}) ∧ (type_of% @and_self) ∧ (type_of% @and_true) ∧ (type_of% @true_and) ∧ (type_of% @List.cons_append.{0}) ∧ (type_of% @List.getElem?_cons_zero.{0}) ∧ (type_of% @List.getElem?_cons_succ.{0}) ∧ (type_of% @Nat.zero_add) ∧ (type_of% @Bool.not_true) ∧ (type_of% @Bool.not_false) ∧ (type_of% @Go.Value.oneCell'.eq_1) ∧ (type_of% @Go.Value.oneCell'.eq_2) ∧ (type_of% @Go.Value.oneCell'.eq_3) ∧ (type_of% @Go.Mor.str_toList) ∧ (type_of% @Go.Mor.str_size') ∧ (type_of% @Int.toNat_natCast) ∧ (type_of% @decide_true) ∧ (type_of% @decide_false) ∧ (type_of% @beq_self_eq_true.{0}) ∧ (type_of% @Go.Sh.handI.eq_1) ∧ (type_of% @Go.Sh.FS.mo.eq_1) ∧ (type_of% @Go.Sh.MO.ren.eq_1) ∧ (type_of% @Go.Sh.MO.ren.eq_2) ∧ (type_of% @Go.Sh.rhoIn.eq_1) ∧ (type_of% @Go.Sh.pos.eq_1) ∧ (type_of% @Go.Sh.pos.eq_2) ∧ (type_of% @Go.Sh.rhoOut.eq_1) ∧ (type_of% @Go.Sh.outs.eq_1) ∧ (type_of% @Go.Sh.outs.eq_2) ∧ (type_of% @Go.Sh.newId.eq_1) ∧ (type_of% @Go.Sh.dstId.eq_1) ∧ (type_of% @Go.Sh.dstId.eq_2) ∧ (type_of% @Go.Sh.putMem.eq_1) ∧ (type_of% @Go.Sh.putMem.eq_2) ∧ (type_of% @List.lookup.eq_1.{0, 0}) ∧ (type_of% @List.lookup.eq_2.{0, 0}) ∧ (type_of% @Go.Sh.moOk.eq_1) ∧ (type_of% @Go.Sh.moOk.eq_2) ∧ (type_of% @Go.Sh.moOk.eq_3) ∧ (type_of% @Go.Sh.moOk.eq_4) ∧ (type_of% @Nat.le_refl) ∧ (type_of% @Int.natCast_nonneg) ∧ (type_of% @Go.Sh.v_skip) ∧ (type_of% @Go.Sh.v_seq) ∧ (type_of% @Go.Sh.v_exit) ∧ (type_of% @Go.Sh.v_ret) ∧ (type_of% @Go.Sh.v_block) ∧ (type_of% @Go.Sh.v_cond) ∧ (type_of% @Go.Sh.v_reg) ∧ (type_of% @Go.Sh.v_reg2) ∧ (type_of% @Go.Sh.v_nil) ∧ (type_of% @Go.Sh.v_regK) ∧ (type_of% @Go.Sh.v_skipK) ∧ (type_of% @Go.Sh.v_op) ∧ (type_of% @Go.Sh.v_guard) ∧ (type_of% @Go.Sh.gW) ∧ (type_of% @Go.Sh.gW_u) ∧ (type_of% @Go.Sh.PostR.eq_1) ∧ (type_of% @Go.Sh.PostR.eq_2) ∧ (type_of% @Go.Sh.PostR.eq_3) ∧ (type_of% @Go.Sh.exitR.eq_1) ∧ (type_of% @Go.Sh.exitF.eq_1) ∧ (type_of% @Go.Sh.idsFrom.eq_1) ∧ (type_of% @Go.Sh.idsFrom.eq_2) ∧ (type_of% @Go.Sh.gW_undef) ∧ (type_of% @Nat.sub_zero) ∧ (type_of% @Go.Sh.gW_i) ∧ (type_of% @Go.Sh.gK_T1) ∧ (type_of% @Go.Sh.gK_T0) ∧ (type_of% @Go.Sh.gK_F1) ∧ (type_of% @Go.Sh.gK_F0) ∧ (type_of% @Go.Sh.gK_d1) ∧ (type_of% @Go.Sh.gK_d0) ∧ (type_of% @Go.Sh.gK_n1) ∧ (type_of% @Go.Sh.gK_n0) ∧ (type_of% @Go.Sh.v_then_n) ∧ (type_of% @Go.Sh.v_then_r) ∧ (type_of% @Go.Sh.v_then_x) ∧ (type_of% @Go.Sh.v_blk_n) ∧ (type_of% @Go.Sh.v_blk_r) ∧ (type_of% @Go.Sh.v_blk_x) ∧ (type_of% @Go.Sh.s_some) ∧ (type_of% @Go.Sh.s_none) ∧ (type_of% @Go.Sh.s_ite) ∧ (type_of% @Go.Sh.s_get) ∧ (type_of% @Go.Sh.bW_T) ∧ (type_of% @Go.Sh.bW_F) ∧ (type_of% @Go.Sh.bW_d) ∧ (type_of% @Go.Sh.bW_n) ∧ (type_of% @Go.Sh.bW_a) ∧ (type_of% @Go.Sh.bW_o) ∧ (type_of% @Go.Sh.bK) ∧ (type_of% @Go.Sh.callIn.eq_1) ∧ (type_of% @Go.Sh.callOut.eq_1) ∧ (type_of% @Go.Sh.callvIn.eq_1) ∧ (type_of% @Go.Sh.TV.callee.eq_1) ∧ (type_of% @Go.Sh.TV.callee.eq_2) ∧ (type_of% @Go.Sh.TV.callee.eq_3) ∧ (type_of% @Go.Sh.TV.callee.eq_4) ∧ (type_of% @Go.Sh.Post0.eq_1) ∧ (type_of% @Go.Sh.Post0.eq_2) ∧ (type_of% @Go.Sh.Post0.eq_3) ∧ (type_of% @Go.Sh.Post1.eq_1) ∧ (type_of% @Go.Sh.Post1.eq_2) ∧ (type_of% @Go.Sh.Post1.eq_3) ∧ (type_of% @Go.Sh.ansW1.eq_1) ∧ (type_of% @Go.Sh.ansW1.eq_2) ∧ (type_of% @Go.Sh.bin_quoI) ∧ (type_of% @Go.Sh.bin_remI) ∧ (type_of% @Go.Sh.sbin_addI) ∧ (type_of% @Go.Sh.TV.elems.eq_1) ∧ (type_of% @Go.Sh.TV.elems.eq_2) ∧ (type_of% @Go.Sh.TV.elems.eq_3) ∧ (type_of% @Go.Sh.TV.elems.eq_4) ∧ (type_of% @Go.Sh.TV.isNil.eq_1) ∧ (type_of% @Go.Sh.TV.isNil.eq_2) ∧ (type_of% @List.all_cons.{0}) ∧ (type_of% @List.all_nil.{0}) ∧ (type_of% @Bool.and_true) ∧ (type_of% @Bool.true_and) ∧ (type_of% @Bool.and_false) ∧ (type_of% @Bool.false_and) ∧ (type_of% @Bool.and_self) ∧ (type_of% @ne_eq.{1}) ∧ (type_of% @not_false_eq_true) ∧ (type_of% @not_true_eq_false) ∧ (type_of% @false_and) ∧ (type_of% @and_false) ∧ (type_of% @or_false) ∧ (type_of% @or_self) ∧ (type_of% @false_or) ∧ (type_of% @imp_self) ∧ (type_of% @forall_const.{0}) ∧ (type_of% @Option.isNone_none.{0}) ∧ (type_of% @List.getElem?_nil.{0}) ∧ (type_of% @decide_eq_true_eq) ∧ (type_of% @eq_self.{1}) ∧ (type_of% @Go.Mor.str_list) ∧ (type_of% @Go.Mor.str_append) ∧ (type_of% @Go.Mor.str_extract) ∧ (type_of% @List.getElem?_map.{0, 0}) ∧ (type_of% @Option.map_map.{0, 0, 0}) ∧ (type_of% @List.length_map.{0, 0}) ∧ (type_of% @Function.comp_apply.{1, 1, 1}) ∧ (type_of% @List.length_append.{0}) ∧ (type_of% @List.length_set.{0}) ∧ (type_of% @List.set_cons_zero.{0}) ∧ (type_of% @List.set_cons_succ.{0}) ∧ (type_of% @imp_false) ∧ (type_of% @Decidable.not_not) ∧ (type_of% @Go.Sh.e_ssub) ∧ (type_of% @Go.Sh.e_ssub1) ∧ (type_of% @Go.Sh.e_ssub2) ∧ (type_of% @Go.Sh.e_ssub3) ∧ (type_of% @Go.Sh.e_ssub4) ∧ (type_of% @Go.Sh.e_sub) ∧ (type_of% @Go.Sh.e_sub1) ∧ (type_of% @Go.Sh.e_sub2) ∧ (type_of% @Go.Sh.e_sub3) ∧ (type_of% @Go.Sh.e_sub4) ∧ (type_of% @Go.Sh.e_subT1) ∧ (type_of% @Go.Sh.e_subT2) ∧ (type_of% @Go.Sh.e_subT3) ∧ (type_of% @Go.Sh.e_appN) ∧ (type_of% @Go.Sh.e_appN1) ∧ (type_of% @Go.Sh.e_appN2) ∧ (type_of% @Go.Sh.e_appNS) ∧ (type_of% @Go.Sh.e_appNS1) ∧ (type_of% @Go.Sh.e_appNS2) ∧ (type_of% @Go.Sh.e_rng) ∧ (type_of% @Go.Sh.e_rng1) ∧ (type_of% @Go.Sh.e_mks) ∧ (type_of% @Go.Sh.e_mks1) ∧ (type_of% @Go.Sh.e_nxt) ∧ (type_of% @Go.Sh.e_nxt1) ∧ (type_of% @Go.Sh.e_nxt2) ∧ (type_of% @Go.Sh.s_ite2) ∧ (type_of% @Go.Sh.reach_nil) ∧ (type_of% @Go.Sh.reach_cons) ∧ (type_of% @Go.Sh.reach_m1) ∧ (type_of% @Go.Sh.reach_m2) ∧ (type_of% @Go.Sh.reach_m3) ∧ (type_of% @Go.Sh.reach_m4) ∧ (type_of% @Option.map_none.{0, 0}) ∧ (type_of% @Option.bind_none.{0, 0}) ∧ (type_of% @Go.Sh.nc_mov) ∧ (type_of% @Go.Sh.nc_pick) ∧ (type_of% @Go.Sh.nc_bin) ∧ (type_of% @Go.Sh.nc_un) ∧ (type_of% @Go.Sh.nc_cvi) ∧ (type_of% @Go.Sh.nc_cvs) ∧ (type_of% @Go.Sh.nc_b2s) ∧ (type_of% @Go.Sh.nc_imm) ∧ (type_of% @Go.Sh.nc_sidx) ∧ (type_of% @Go.Sh.nc_ssub) ∧ (type_of% @Go.Sh.nc_slen) ∧ (type_of% @Go.Sh.nc_new) ∧ (type_of% @Go.Sh.nc_box) ∧ (type_of% @Go.Sh.nc_build) ∧ (type_of% @Go.Sh.nc_bsl) ∧ (type_of% @Go.Sh.nc_fld) ∧ (type_of% @Go.Sh.nc_fldA) ∧ (type_of% @Go.Sh.nc_ld) ∧ (type_of% @Go.Sh.nc_st) ∧ (type_of% @Go.Sh.nc_len) ∧ (type_of% @Go.Sh.nc_idxA) ∧ (type_of% @Go.Sh.nc_sub) ∧ (type_of% @Go.Sh.nc_app) ∧ (type_of% @Go.Sh.nc_appS) ∧ (type_of% @Go.Sh.nc_appN) ∧ (type_of% @Go.Sh.nc_appNS) ∧ (type_of% @Go.Sh.nc_ext) ∧ (type_of% @Go.Sh.nc_nchk) ∧ (type_of% @Go.Sh.nc_mkf) ∧ (type_of% @Go.Sh.nc_rng) ∧ (type_of% @Go.Sh.nc_nxt) ∧ (type_of% @Go.Sh.nc_mks) :=
  ⟨@Go.Sh.bFT, @Go.Sh.bTF, @Go.Sh.ES.fgt.eq_1, @List.map_cons.{0, 0}, @List.map_nil.{0, 0}, @Go.Sh.fgt3.eq_1, @Go.Sh.TV.m3.eq_1, @Go.Sh.TV.m3.eq_2, @Go.Sh.TV.m2.eq_1, @Go.Sh.TV.m2.eq_2, @Go.Sh.TV.m1.eq_1, @Go.Sh.TV.m1.eq_2, @Go.Sh.TV.m0.eq_1, @Go.Sh.TV.m0.eq_2, @Go.Sh.TV.m0.eq_3, @Go.Sh.TV.m0.eq_4, @Go.Sh.TV.m0.eq_5, @Go.Sh.TV.m0.eq_6, @Go.Sh.TV.m0.eq_7, @List.any_cons.{0}, @List.any_nil.{0}, @Bool.or_false, @Bool.false_or, @Go.Sh.drp.eq_1, @Go.Sh.drp.eq_2, @Go.Sh.effG.eq_1, @Go.Sh.effF.eq_1, @Go.Sh.footOk.eq_1, @Go.Sh.SOp.foot.eq_1, @Go.Sh.SOp.foot.eq_2, @Go.Sh.SOp.foot.eq_3, @Go.Sh.eff.eq_1, @Go.Sh.eff.eq_2, @Go.Sh.eff.eq_3, @Go.Sh.eff.eq_4, @Go.Sh.eff.eq_5, @Go.Sh.eff.eq_6, @Go.Sh.eff.eq_7, @Go.Sh.eff.eq_8, @Go.Sh.eff.eq_9, @Go.Sh.eff.eq_11, @Go.Sh.eff.eq_12, @Go.Sh.eff.eq_13, @Go.Sh.eff.eq_14, @Go.Sh.eff.eq_15, @Go.Sh.eff.eq_16, @Go.Sh.eff.eq_17, @Go.Sh.eff.eq_18, @Go.Sh.eff.eq_19, @Go.Sh.eff.eq_20, @Go.Sh.eff.eq_21, @Go.Sh.eff.eq_22, @Go.Sh.eff.eq_23, @Go.Sh.eff.eq_25, @Go.Sh.eff.eq_28, @Go.Sh.eff.eq_31, @Go.Sh.eff.eq_32, @Go.Sh.eff.eq_33, @Go.Sh.eff.eq_34, @Go.Sh.eff.eq_35, @Go.Sh.Arg.get.eq_1, @Go.Sh.Arg.get.eq_2, @Go.Sh.ES.fs.eq_1, @Go.Sh.lk.eq_1, @Go.Sh.lk.eq_2, @Option.map_some.{0, 0}, @Option.bind_some.{0, 0}, @Go.Sh.ES.after.eq_1, @Go.Sh.ES.upd.eq_1, @Go.Sh.ES.upd.eq_2, @Go.Sh.ES.upd.eq_3, @Go.Sh.ES.upd.eq_4, @Go.Sh.ES.upd.eq_5, @Go.Sh.ES.upd.eq_6, @Go.Sh.ES.upd.eq_7, @Go.Sh.ES.put.eq_1, @Go.Sh.ES.put.eq_2, @Go.Sh.sv.eq_1, @Go.Sh.sv.eq_2, @Go.Sh.ES.kill.eq_1, @Go.Sh.ES.kill.eq_2, @Go.Sh.has.eq_1, @Go.Sh.has.eq_2, @Go.Sh.nbeq, @Go.Sh.nble, @Go.Sh.nblt, @Go.Sh.TV.val.eq_1, @Go.Sh.TV.val.eq_2, @Go.Sh.TV.val1.eq_1, @Go.Sh.TV.val1.eq_2, @Go.Sh.TV.int.eq_1, @Go.Sh.TV.int.eq_2, @Go.Sh.TV.str.eq_1, @Go.Sh.TV.str.eq_2, @Go.Sh.TV.cells.eq_1, @Go.Sh.TV.cells.eq_2, @Go.Sh.TV.cells.eq_3, @Go.Sh.TV.cells.eq_4, @Go.Sh.TV.cells.eq_5, @Go.Sh.TV.slen.eq_1, @Go.Sh.TV.slen.eq_2, @Go.Sh.TV.slen.eq_3, @Go.Sh.TV.slen.eq_4, @Go.Sh.TV.slen.eq_5, @Go.Sh.TV.toPV.eq_1, @Go.Sh.TV.toPV.eq_2, @Go.Sh.TV.toPV.eq_3, @Go.Sh.TV.pvs.eq_1, @Go.Sh.seqO.eq_1, @Go.Sh.seqO.eq_2, @Go.Sh.bin_lss, @Go.Sh.bin_gtr, @Go.Sh.bin_leq, @Go.Sh.bin_geq, @Go.Sh.bin_eql, @Go.Sh.bin_neq, @Go.Sh.bin_add, @Go.Sh.bin_sub, @Go.Sh.bin_mul, @Go.Sh.sbin_eql, @Go.Sh.sbin_neq, @Go.Sh.sbin_lss, @Go.Sh.sbin_gtr, @Go.Sh.un_neg, @Go.Sh.un_not, @Go.Sh.startE.eq_1, @Go.Sh.numT.eq_1, @Go.Sh.numT.eq_2, @Go.Sh.numB.eq_1, @Go.Sh.numB.eq_2, @Go.Sh.numB.eq_3, @Go.Sh.numR.eq_1, @Go.Sh.numR.eq_2, @Go.Sh.numR.eq_3, @Go.Sh.ansW.eq_1, @Go.Sh.ansW.eq_2, @Go.Sh.resT.eq_1, @Go.Sh.resT.eq_2, @Go.Sh.SRes.get.eq_1, @Go.Sh.SRes.get.eq_2, @List.flatMap_nil.{0, 0}, @List.flatMap_cons.{0, 0}, @List.append_nil.{0}, @List.nil_append.{0}, @Go.Sh.TV.ids3.eq_1, @Go.Sh.TV.ids3.eq_2, @Go.Sh.TV.ids2.eq_1, @Go.Sh.TV.ids2.eq_2, @Go.Sh.TV.ids1.eq_1, @Go.Sh.TV.ids1.eq_2, @Go.Sh.TV.ids0.eq_1, @Go.Sh.TV.ids0.eq_2, @Go.Sh.TV.ids0.eq_3, @Go.Sh.TV.ids0.eq_4, @Go.Sh.TV.ren3.eq_1, @Go.Sh.TV.ren3.eq_2, @Go.Sh.TV.ren2.eq_1, @Go.Sh.TV.ren2.eq_2, @Go.Sh.TV.ren1.eq_1, @Go.Sh.TV.ren1.eq_2, @Go.Sh.TV.ren0.eq_1, @Go.Sh.TV.ren0.eq_2, @Go.Sh.TV.ren0.eq_3, @Go.Sh.TV.ren0.eq_4, @Go.Sh.TV.ren0.eq_5, @Go.Sh.TV.ren0.eq_6, @Go.Sh.bound.eq_1, @Go.Sh.bound.eq_2, @if_true.{1}, @if_false.{1}, @Bool.false_eq_true, @Go.Sh.partsT.eq_1, @Go.Sh.fillT.eq_1, @Go.Sh.fillT.eq_2, @Go.Sh.splice.eq_1, @List.take_zero.{0}, @List.take_succ_cons.{0}, @List.drop_zero.{0}, @List.drop_succ_cons.{0}, @List.length_cons.{0}, @List.length_nil.{0}, @and_self, @and_true, @true_and, @List.cons_append.{0}, @List.getElem?_cons_zero.{0}, @List.getElem?_cons_succ.{0}, @Nat.zero_add, @Bool.not_true, @Bool.not_false, @Go.Value.oneCell'.eq_1, @Go.Value.oneCell'.eq_2, @Go.Value.oneCell'.eq_3, @Go.Mor.str_toList, @Go.Mor.str_size', @Int.toNat_natCast, @decide_true, @decide_false, @beq_self_eq_true.{0}, @Go.Sh.handI.eq_1, @Go.Sh.FS.mo.eq_1, @Go.Sh.MO.ren.eq_1, @Go.Sh.MO.ren.eq_2, @Go.Sh.rhoIn.eq_1, @Go.Sh.pos.eq_1, @Go.Sh.pos.eq_2, @Go.Sh.rhoOut.eq_1, @Go.Sh.outs.eq_1, @Go.Sh.outs.eq_2, @Go.Sh.newId.eq_1, @Go.Sh.dstId.eq_1, @Go.Sh.dstId.eq_2, @Go.Sh.putMem.eq_1, @Go.Sh.putMem.eq_2, @List.lookup.eq_1.{0, 0}, @List.lookup.eq_2.{0, 0}, @Go.Sh.moOk.eq_1, @Go.Sh.moOk.eq_2, @Go.Sh.moOk.eq_3, @Go.Sh.moOk.eq_4, @Nat.le_refl, @Int.natCast_nonneg, @Go.Sh.v_skip, @Go.Sh.v_seq, @Go.Sh.v_exit, @Go.Sh.v_ret, @Go.Sh.v_block, @Go.Sh.v_cond, @Go.Sh.v_reg, @Go.Sh.v_reg2, @Go.Sh.v_nil, @Go.Sh.v_regK, @Go.Sh.v_skipK, @Go.Sh.v_op, @Go.Sh.v_guard, @Go.Sh.gW, @Go.Sh.gW_u, @Go.Sh.PostR.eq_1, @Go.Sh.PostR.eq_2, @Go.Sh.PostR.eq_3, @Go.Sh.exitR.eq_1, @Go.Sh.exitF.eq_1, @Go.Sh.idsFrom.eq_1, @Go.Sh.idsFrom.eq_2, @Go.Sh.gW_undef, @Nat.sub_zero, @Go.Sh.gW_i, @Go.Sh.gK_T1, @Go.Sh.gK_T0, @Go.Sh.gK_F1, @Go.Sh.gK_F0, @Go.Sh.gK_d1, @Go.Sh.gK_d0, @Go.Sh.gK_n1, @Go.Sh.gK_n0, @Go.Sh.v_then_n, @Go.Sh.v_then_r, @Go.Sh.v_then_x, @Go.Sh.v_blk_n, @Go.Sh.v_blk_r, @Go.Sh.v_blk_x, @Go.Sh.s_some, @Go.Sh.s_none, @Go.Sh.s_ite, @Go.Sh.s_get, @Go.Sh.bW_T, @Go.Sh.bW_F, @Go.Sh.bW_d, @Go.Sh.bW_n, @Go.Sh.bW_a, @Go.Sh.bW_o, @Go.Sh.bK, @Go.Sh.callIn.eq_1, @Go.Sh.callOut.eq_1, @Go.Sh.callvIn.eq_1, @Go.Sh.TV.callee.eq_1, @Go.Sh.TV.callee.eq_2, @Go.Sh.TV.callee.eq_3, @Go.Sh.TV.callee.eq_4, @Go.Sh.Post0.eq_1, @Go.Sh.Post0.eq_2, @Go.Sh.Post0.eq_3, @Go.Sh.Post1.eq_1, @Go.Sh.Post1.eq_2, @Go.Sh.Post1.eq_3, @Go.Sh.ansW1.eq_1, @Go.Sh.ansW1.eq_2, @Go.Sh.bin_quoI, @Go.Sh.bin_remI, @Go.Sh.sbin_addI, @Go.Sh.TV.elems.eq_1, @Go.Sh.TV.elems.eq_2, @Go.Sh.TV.elems.eq_3, @Go.Sh.TV.elems.eq_4, @Go.Sh.TV.isNil.eq_1, @Go.Sh.TV.isNil.eq_2, @List.all_cons.{0}, @List.all_nil.{0}, @Bool.and_true, @Bool.true_and, @Bool.and_false, @Bool.false_and, @Bool.and_self, @ne_eq.{1}, @not_false_eq_true, @not_true_eq_false, @false_and, @and_false, @or_false, @or_self, @false_or, @imp_self, @forall_const.{0}, @Option.isNone_none.{0}, @List.getElem?_nil.{0}, @decide_eq_true_eq, @eq_self.{1}, @Go.Mor.str_list, @Go.Mor.str_append, @Go.Mor.str_extract, @List.getElem?_map.{0, 0}, @Option.map_map.{0, 0, 0}, @List.length_map.{0, 0}, @Function.comp_apply.{1, 1, 1}, @List.length_append.{0}, @List.length_set.{0}, @List.set_cons_zero.{0}, @List.set_cons_succ.{0}, @imp_false, @Decidable.not_not, @Go.Sh.e_ssub, @Go.Sh.e_ssub1, @Go.Sh.e_ssub2, @Go.Sh.e_ssub3, @Go.Sh.e_ssub4, @Go.Sh.e_sub, @Go.Sh.e_sub1, @Go.Sh.e_sub2, @Go.Sh.e_sub3, @Go.Sh.e_sub4, @Go.Sh.e_subT1, @Go.Sh.e_subT2, @Go.Sh.e_subT3, @Go.Sh.e_appN, @Go.Sh.e_appN1, @Go.Sh.e_appN2, @Go.Sh.e_appNS, @Go.Sh.e_appNS1, @Go.Sh.e_appNS2, @Go.Sh.e_rng, @Go.Sh.e_rng1, @Go.Sh.e_mks, @Go.Sh.e_mks1, @Go.Sh.e_nxt, @Go.Sh.e_nxt1, @Go.Sh.e_nxt2, @Go.Sh.s_ite2, @Go.Sh.reach_nil, @Go.Sh.reach_cons, @Go.Sh.reach_m1, @Go.Sh.reach_m2, @Go.Sh.reach_m3, @Go.Sh.reach_m4, @Option.map_none.{0, 0}, @Option.bind_none.{0, 0}, @Go.Sh.nc_mov, @Go.Sh.nc_pick, @Go.Sh.nc_bin, @Go.Sh.nc_un, @Go.Sh.nc_cvi, @Go.Sh.nc_cvs, @Go.Sh.nc_b2s, @Go.Sh.nc_imm, @Go.Sh.nc_sidx, @Go.Sh.nc_ssub, @Go.Sh.nc_slen, @Go.Sh.nc_new, @Go.Sh.nc_box, @Go.Sh.nc_build, @Go.Sh.nc_bsl, @Go.Sh.nc_fld, @Go.Sh.nc_fldA, @Go.Sh.nc_ld, @Go.Sh.nc_st, @Go.Sh.nc_len, @Go.Sh.nc_idxA, @Go.Sh.nc_sub, @Go.Sh.nc_app, @Go.Sh.nc_appS, @Go.Sh.nc_appN, @Go.Sh.nc_appNS, @Go.Sh.nc_ext, @Go.Sh.nc_nchk, @Go.Sh.nc_mkf, @Go.Sh.nc_rng, @Go.Sh.nc_nxt, @Go.Sh.nc_mks⟩
end Go.Sh
end

section
/- Package val's small functions, walked: which values may be, which type they fit. No statement of the program is proved here. -/
namespace Go.Proofs.YthjphllpkcnehaaGreatDoor
open Go Go.RowKit Go.Mor Go.Sh Go.Sh.Cd1
set_option maxRecDepth 100000
set_option maxHeartbeats 4000000
theorem e0 : (⟨#[]⟩ : ByteArray) = str [] := rfl
theorem decode_str (l : List UInt8) (p : Nat) : Utf8.decode (str l) p = Lib.decodeL (l.drop p) := by rw [← Lib.decodeL_drop, str_toList]
def B (b : Bool) : TV := .pv (.v (.bool b))
theorem beqI (a b : Int) : (a == b) = decide (a = b) := by rw [Bool.eq_iff_iff]; simp
theorem plain_ok (g : Sh.Glob) (r : Nat) : SCalls Tryz.prog g 120 [.pv (.v (.int .i32 (r : Int)))] [] (B (plainR r)) [] := by
  refine call_of0 hmix tf_val_plain rfl ?_
  have h1 : decide ((32 : Int) ≤ (r : Int)) = decide (32 ≤ r) := by rw [Bool.eq_iff_iff]; simp; omega
  have h2 : decide ((r : Int) = 127) = (r == 127) := by rw [Bool.eq_iff_iff]; simp; omega
  unfold plainR B
  by_cases h : 32 ≤ r
  · have d1 : (32 : Int) ≤ (r : Int) := by omega
    simp only [vcA, seval, vV, d1, h2, h]
    rfl
  · have d1 : ¬ (32 : Int) ≤ (r : Int) := by omega
    simp only [vcA, seval, vV, d1, h]
theorem validString_ok (m : Nat) (l : List UInt8) (hl : l.length ≤ 9223372036854775807) : SCalls Tryz.prog (gl0 m) 119 [S (str l)] [] (B (Lib.validD l)) [] := by
  have := prim0_sound m 119 [S (str l)] [] (B (Lib.validD l)) [] (by simp [prim0, S, B, Nat.beq, str_size', hl, str_toList])
  exact this
theorem rightText_ok0 (m : Nat) (l : List UInt8) (hl : l.length ≤ 9223372036854775807) : SCalls Tryz.prog (gl0 m) 64 [S (str l)] [] (B (rightText l)) [] := by
  refine call_of0 hmix tf_val_rightText rfl ?_
  have HV := validString_ok m l hl
  unfold rightText B at *
  by_cases h60 : (l.length : Int) ≤ 60
  · have d1 : ¬ (60 : Int) < (l.length : Int) := by omega
    have h60' : l.length ≤ 60 := by omega
    simp only [vcA, seval, vV, d1]
    (with_reducible apply v_call); (· simp only [vcA, seval, vV]; with_reducible rfl); (· exact HV); (· first | rfl | (simp only [vcA, seval]; omega)); (· simp only [vcA, seval, vV]; with_reducible rfl)
    cases hv : Lib.validD l
    · simp only [vcA, seval, vV]
    simp only [vcA, seval, vV]
    refine v_loop (σ := {p : Nat // p ≤ l.length ∧ plainD l = plainD (l.drop p)}) (fun p => ⟨[(14, .it 14)], [], [], [(14, (str l, p.1))]⟩) (fun p => l.length - p.1) ⟨0, Nat.zero_le _, rfl⟩ (lw_eq rfl) ?_
    rintro ⟨p, hp, hd⟩
    by_cases hlt : p < l.length
    · have hne : l.drop p ≠ [] := by rw [Ne, List.drop_eq_nil_iff]; omega
      rw [plainD_step _ hne] at hd
      have hle := Lib.decodeL_le (l.drop p) hne
      have hw := Lib.decodeL_width (l.drop p)
      rw [List.length_drop] at hle
      have HP := plain_ok (gl0 m) (Lib.decodeL (l.drop p)).1
      unfold B at HP
      simp only [vcA, seval, vV, hlt, decode_str]
      (with_reducible apply v_call); (· simp only [vcA, seval, vV]; with_reducible rfl); (· exact HP); (· first | rfl | (simp only [vcA, seval]; omega)); (· simp only [vcA, seval, vV]; with_reducible rfl)
      cases hr : plainR (Lib.decodeL (l.drop p)).1
      · rw [hr] at hd
        simp only [vcA, seval, vV]
        simp [hd]
      · simp only [vcA, seval, vV]
        rw [hr, Bool.true_and, List.drop_drop] at hd
        refine loopK_of ⟨p + (Lib.decodeL (l.drop p)).2, by omega, hd⟩ (by show l.length - (p + _) < l.length - p; omega) ?_
        apply lw_of <;> simp [leL, lk, sv, Nat.beq, I, S, ES.kill, has, drp, nilT]
    · simp only [vcA, seval, vV, hlt, h60']
      have hnil : l.drop p = [] := List.drop_eq_nil_of_le (by omega)
      rw [hnil] at hd
      rw [hd]; rfl
  · have d1 : (60 : Int) < (l.length : Int) := by omega
    have h60' : ¬ l.length ≤ 60 := by omega
    simp only [vcA, seval, vV, d1]
    simp [h60']
theorem bare_ok (g : Sh.Glob) (x : V) : SCalls Tryz.prog g 63 [tv x] [] (B (bare x)) [] := by
  refine call_of0 hmix tf_val_bare rfl ?_
  have h1 : decide ((x.l.length : Int) = 0) = (x.l.length == 0) := by rw [Bool.eq_iff_iff]; simp
  unfold bare B
  cases h : x.s == []
  · simp only [vcA, seval, vV, e0, h]
  · simp only [vcA, seval, vV, e0, h, h1]
theorem rightID_ok (g : Sh.Glob) (n : Int) : SCalls Tryz.prog g 65 [I n] [] (B (rightID n)) [] := by
  refine call_of0 hmix tf_val_rightID rfl ?_
  unfold B
  simp only [vcA, seval, vV]
  unfold rightID
  repeat' (first | (apply And.intro) | (intro _))
  all_goals (first | rfl | (simp; omega) | (simp_all; done) | (simp_all; omega))
theorem right1_mk (k n : Int) (s : List UInt8) (l : List V) : right1 (.mk k n s l) = if k = 0 then bare (.mk k n s l) && n == 0
  else if k = 1 then bare (.mk k n s l) && decide (-1000000000000000 ≤ n) && decide (n ≤ 1000000000000000)
  else if k = 2 then n == 0 && l.length == 0 && rightText s
  else if k = 3 ∨ k = 4 then bare (.mk k n s l) && rightID n
  else false := rfl
theorem right1_ok0 (m : Nat) (x : V) (hs : TextsOk x) (h5 : x.k ≠ 5) : SCalls Tryz.prog (gl0 m) 28 [tv x] [] (B (right1 x)) [] := by
  obtain ⟨k, n, s, l⟩ := x
  have HB := bare_ok (gl0 m) (.mk k n s l)
  have HI := rightID_ok (gl0 m) n
  have HT := rightText_ok0 m s hs
  have hln : decide ((l.length : Int) = 0) = (l.length == 0) := by rw [Bool.eq_iff_iff]; simp
  have k5 : ¬ k = 5 := h5
  clear h5 hs
  rw [right1_mk]
  generalize bare (.mk k n s l) = b at HB ⊢
  refine call_of0 hmix tf_val_Right rfl ?_
  unfold B at *
  by_cases k0 : k = 0
  · subst k0
    have hn0 : decide (n = 0) = (n == 0) := by rw [Bool.eq_iff_iff]; simp
    simp only [vcA, seval, vV]
    (with_reducible apply v_call); (· simp only [vcA, seval, vV]; with_reducible rfl); (· exact HB); (· first | rfl | (simp only [vcA, seval]; omega)); (· simp only [vcA, seval, vV]; with_reducible rfl)
    cases b <;> simp only [vcA, seval, vV, hn0]
  rw [if_neg k0]
  by_cases k1 : k = 1
  · subst k1
    simp only [vcA, seval, vV]
    (with_reducible apply v_call); (· simp only [vcA, seval, vV]; with_reducible rfl); (· exact HB); (· first | rfl | (simp only [vcA, seval]; omega)); (· simp only [vcA, seval, vV]; with_reducible rfl)
    cases b
    · simp only [vcA, seval, vV]
    · by_cases q1 : -1000000000000000 ≤ n <;> by_cases q2 : n ≤ 1000000000000000 <;> simp only [vcA, seval, vV, q1, q2]
  rw [if_neg k1]
  by_cases k2 : k = 2
  · subst k2
    by_cases n0 : n = 0
    · subst n0
      cases hl : l.length == 0
      · simp only [vcA, seval, vV, hln, hl]
      · simp only [vcA, seval, vV, hln, hl]
        (with_reducible apply v_call); (· simp only [vcA, seval, vV]; with_reducible rfl); (· exact HT); (· first | rfl | (simp only [vcA, seval]; omega)); (· simp only [vcA, seval, vV]; with_reducible rfl)
        simp only [vcA, seval, vV]
    · have hn0 : (n == 0) = false := by simpa using n0
      simp only [vcA, seval, vV, n0, hn0]
  rw [if_neg k2]
  by_cases k3 : k = 3
  · subst k3
    simp only [vcA, seval, vV]
    (with_reducible apply v_call); (· simp only [vcA, seval, vV]; with_reducible rfl); (· exact HB); (· first | rfl | (simp only [vcA, seval]; omega)); (· simp only [vcA, seval, vV]; with_reducible rfl)
    cases b
    · simp only [vcA, seval, vV]
    · simp only [vcA, seval, vV]
      (with_reducible apply v_call); (· simp only [vcA, seval, vV]; with_reducible rfl); (· exact HI); (· first | rfl | (simp only [vcA, seval]; omega)); (· simp only [vcA, seval, vV]; with_reducible rfl)
      simp only [vcA, seval, vV]
  by_cases k4 : k = 4
  · subst k4
    simp only [vcA, seval, vV]
    (with_reducible apply v_call); (· simp only [vcA, seval, vV]; with_reducible rfl); (· exact HB); (· first | rfl | (simp only [vcA, seval]; omega)); (· simp only [vcA, seval, vV]; with_reducible rfl)
    cases b
    · simp only [vcA, seval, vV]
    · simp only [vcA, seval, vV]
      (with_reducible apply v_call); (· simp only [vcA, seval, vV]; with_reducible rfl); (· exact HI); (· first | rfl | (simp only [vcA, seval]; omega)); (· simp only [vcA, seval, vV]; with_reducible rfl)
      simp only [vcA, seval, vV]
  simp only [vcA, seval, vV, k0, k1, k2, k3, k4, k5]
end Go.Proofs.YthjphllpkcnehaaGreatDoor
end
