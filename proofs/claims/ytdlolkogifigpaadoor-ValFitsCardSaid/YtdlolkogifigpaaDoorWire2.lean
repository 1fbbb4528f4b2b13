/- Layer 1: wire.Num. -/
import Derived.Test.YtdlolkogifigpaaDoorWire1
set_option linter.unusedSimpArgs false
set_option linter.unusedVariables false
namespace Go.Proofs.YtdlolkogifigpaaDoor
open Go Go.RowKit Go.Mor Go.Shelf
attribute [local go_sem] Oper.semAt_some

def u8 (b : UInt8) : Value := .int .u8 b.toNat
theorem conv_row {P : Program} {W : World} {base src dst e : Nat} {v : Value} {l : List UInt8} (hs : P.underlying src = some (.slice e)) (he : P.underlying e = some (.int .u8)) (hd : P.underlying dst = some .string)
    (h : W.ownsRow base e 1 v l.length (l.map u8)) : (convert src dst v).run P W = .ok (.string (str l)) W := by
  have h' := h
  rcases h.2 with ⟨rfl, h0⟩ | ⟨g, cap, cur, rfl, _, _, _⟩
  · obtain rfl : l = [] := List.eq_nil_of_length_eq_zero h0
    exact run_convert_bytes_nil W src e hs he 0 0 dst hd
  · refine run_convert_bytes_back W src dst e ⟨g, 0, none⟩ cap l hs he hd (fun j hj => ?_)
    exact h'.cells (g := g) rfl j _ (by simp [u8, List.getElem?_eq_getElem hj])
theorem infoU8 : (Tryd.prog.info? 5).map (fun i => (i.zero, i.size, i.bytes)) = some (some (.int .u8 0), 1, 1) := by kernel_rfl
theorem make10 (w : World) : (Instr.makeSlice 54 (.int .i64 0) (.int .i64 10)).run Tryd.prog w = .ok (.slice (some ⟨w.heap.size, 0, none⟩) 0 10) (w.alloc (.cells (Array.replicate 10 (.int .u8 0)) 5)) := by kernel_rfl

set_option maxRecDepth 100000 in
set_option maxHeartbeats 2000000 in
theorem Num_in (F : Fence) (n : Nat) (h3 : F.fn 46) (h4 : F.fn 77) (h5 : F.fn 101) (hro : F.round = none) (hn : 3 ≤ n) (x : Int) (hx0 : -9223372036854775808 ≤ x) (hx1 : x ≤ 9223372036854775807) (w : World) :
    CallsIn F n Tryd.prog 46 #[.int .i64 x] w fun e W' => e = .returned (.string (str (num x))) ∧ Below w.heap.size w W' := by
  have h1 : 1 ≤ n := by omega
  obtain ⟨i0, hi, hz0, hz1, hz2⟩ := info_parts infoU8
  have hmk := make10
  refine callsIn_of_wp_marks Tryd.func46 rfl h3 ?_ hro
  simp only [Tryd.ntmps46, List.size_toArray, List.length_cons, List.length_nil, Nat.reduceAdd, Nat.reduceSub, Array.replicate_succ, Array.replicate_zero, List.push_toArray, List.append_toArray, List.nil_append, List.cons_append]
  gi_wp2_with (gi_at_call 77; refine (groups_in F (n - 1) h4 hro _ _).mono ?_; rintro e w' ⟨rfl, rfl⟩)
  have bL0 := Boxed.new (w.alloc (.cells (Array.replicate 10 (.int .u8 0)) 5)) 54 (.slice (some ⟨w.heap.size, 0, none⟩) 0 10)
  rw [World.size_alloc] at bL0
  have bL := bL0.alloc (.cells #[.int .i64 x] 3)
  have bN := Boxed.new ((w.alloc (.cells (Array.replicate 10 (.int .u8 0)) 5)).alloc (.cells #[.slice (some ⟨w.heap.size, 0, none⟩) 0 10] 54)) 3 (.int .i64 x)
  rw [World.size_alloc, World.size_alloc] at bN
  have hB0 : Below w.heap.size w (((w.alloc (.cells (Array.replicate 10 (.int .u8 0)) 5)).alloc (.cells #[.slice (some ⟨w.heap.size, 0, none⟩) 0 10] 54)).alloc (.cells #[.int .i64 x] 3)) :=
    (((Below.refl _ w).alloc (Nat.le_refl _) _).alloc (by simp) _).alloc (by simp; omega) _
  have hrow0 : (((w.alloc (.cells (Array.replicate 10 (.int .u8 0)) 5)).alloc (.cells #[.slice (some ⟨w.heap.size, 0, none⟩) 0 10] 54)).alloc (.cells #[.int .i64 x] 3)).ownsRow w.heap.size 5 1 (.slice (some ⟨w.heap.size, 0, none⟩) 0 10) 0 [] :=
    ((World.ownsRow_made w (Array.replicate 10 (.int .u8 0)) 10 (Nat.le_refl _) (by decide) (by simp)).alloc _).alloc _
  refine wpIn_rangeFunc_ownG hro h1 (gf := 101) (lb := #[.pointer (some ⟨w.heap.size + 1 + 1, 0, none⟩)]) rfl h5 (enters_of Tryd.func101 (by kernel_rfl) rfl)
    (groups_stops F (n - 1) (Below w.heap.size) h5 hro (by omega) (w.heap.size + 1 + 1) x hx0 hx1 _ (by simp) bN.cell) belowK_t (belowK_b (by simp; omega)) (Below.refl _ _) (fun _ => rfl)
    (fun pre W => (∃ v, Boxed W (w.heap.size + 1) 54 v ∧ W.ownsRow w.heap.size 5 1 v (pack pre).length ((pack pre).map u8) ∧ v ≠ .slice none 0 0) ∧ Below w.heap.size w W)
    (fun _ _ _ => False)
    (OwnFrom.and (Own.from (holdsRow_own w.heap.size (w.heap.size + 1) 54 5 1 (fun pre => (pack pre).length) (fun pre => (pack pre).map u8) (fun _ v => v ≠ .slice none 0 0)) _) (ownFrom_below (Nat.le_refl _) (by simp; omega)))
    (fun _ _ _ _ _ hs _ _ => hs)
    ⟨⟨_, bL, hrow0, by simp⟩, hB0⟩
    (fun g => { tmps := #[.int .i64 x, undef, .string ⟨#[]⟩, .pointer (some ⟨w.heap.size + 1, 0, none⟩), .int .u8 g.toNat, undef, .slice (some ⟨w.heap.size, 0, none⟩) 0 10, .int .i64 x, .func (.func 101) #[] #[.pointer (some ⟨w.heap.size + 1 + 1, 0, none⟩)], .int .u8 g.toNat, undef, undef, undef, undef, undef, undef, undef, undef, undef, undef, undef, undef, undef, undef, undef, undef, undef], defers := [] }) ?assign ?body ?done ?stop
  case assign =>
    intro l x W K hK
    gi_wp2
    exact hK
  case body =>
    rintro l pre g W ⟨⟨v, hv, hrow, hnil⟩, hB⟩ hlt
    have hc := hv.cell
    have hpl : (pack pre).length = pre.length := pack_length pre
    obtain ⟨P0, hP0⟩ : ∃ P0, pack pre = P0 := ⟨_, rfl⟩
    have HP := Lib.hid hP0
    rw [hP0] at hrow hpl
    clear hP0
    rcases hrow.2 with ⟨rfl, _⟩ | ⟨gg, cap, cur, rfl, _, _, hcap, hcap2, _⟩
    · exact absurd rfl hnil
    have hk : P0.length ≤ 10 := by omega
    clear hpl hmk hx0 hx1 hlt
    by_cases hl : P0 = []
    · subst hl
      simp only [List.length_nil, List.map_nil] at hrow
      gi_wp2_with (gi_at_builtin; refine wpListIn_append_own _ rfl _ _ 54 rfl w.heap.size 5 i0 (.int .u8 0) 1 1 Tryd.underlying54 hi hz0 hz1 hz2 rfl (by decide) _ _ _ rfl (hrow.alloc _) ⟨W.heap.size, 0, none⟩ 1 1 [.int .u8 g.toNat] rfl rfl (cell_one_new _ _ _) (by simp [Value.oneCell']) (by decide) (by omega) (by have := hB.size; simp; omega) ?_; intro v' w1 hown' hgrow _; obtain ⟨g', cap', rfl⟩ := ownsRow_succ hown'; obtain ⟨hv1, hv2, hr2, hk2, hb2⟩ := hv.appended (by decide) hrow hB.size (by omega) hown' hgrow; have hc1 := hv1.cell; have hf1 := hv1.frozen)
      exact ⟨hk2.from _, hb2, ⟨_, hv2, by rw [pack_snoc, HP.out, bump_nil]; exact hr2, by simp⟩, hB.trans hb2⟩
    · obtain ⟨Q, b, rfl⟩ := snoc_of P0 hl
      have hcell := hrow.cellAt Q.length (by simp)
      have hfz := hrow.frozenAt Q.length
      have hst := hrow.stored Q.length (.int .u8 (((b.toNat : Int) + 128) % 256))
      have hle : w.heap.size ≤ gg := by rcases hrow.2 with ⟨h, _⟩ | ⟨g2, c2, cur2, h, hb2, _⟩; cases h; cases h; exact hb2
      have hne := hv.not_row (by decide) hrow
      simp only [List.length_append, List.length_cons, List.length_nil, Nat.zero_add, List.map_append, List.map_cons, List.map_nil] at hrow hcell hst hcap hk hv hc hne ⊢
      rw [List.set_append_right _ _ (by simp)] at hst
      simp only [List.length_map, Nat.sub_self, List.set_cons_zero] at hst
      simp [u8] at hcell
      obtain ⟨hst1, hst2⟩ := hst
      have hst3 := Lib.hid hst1
      have hv' := hv.kept hst2 (by simpa [Value.ownBlock] using hne)
      have hcW := hv'.cell
      have hKO : KeepsOthers W (W.setCell ⟨gg, Q.length, none⟩ (.int .u8 (((b.toNat : Int) + 128) % 256))) := KeepsOthers.setCell _ _ _
      have hBW := (Below.refl w.heap.size W).setCell (p := ⟨gg, Q.length, none⟩) hle (.int .u8 (((b.toNat : Int) + 128) % 256))
      clear hst1 hst2 hrow hne hcap hcap2
      gi_wp2_with (gi_at_builtin; go_must (refine wpListIn_append_own _ rfl _ _ 54 rfl w.heap.size 5 i0 (.int .u8 0) 1 1 Tryd.underlying54 hi hz0 hz1 hz2 rfl (by decide) _ _ _ rfl (hst3.out.alloc _) ⟨W.heap.size, 0, none⟩ 1 1 [.int .u8 g.toNat] rfl rfl (by have := cell_one_new (W.setCell ⟨gg, Q.length, none⟩ (.int .u8 (((b.toNat : Int) + 128) % 256))) (.int .u8 g.toNat) 5; rwa [World.size_setCell] at this) (by simp [Value.oneCell']) (by unfold maxLen; omega) (by omega) (by have := hB.size; simp; omega) ?_; intro v' w1 hown' hgrow _; obtain ⟨g', cap', rfl⟩ := ownsRow_succ hown'; obtain ⟨hv1, hv2, hr2, hk2, hb2⟩ := hv'.appended (by decide) hst3.out (by have := hB.size; simp; omega) (by omega) hown' hgrow; have hc1 := hv1.cell; have hf1 := hv1.frozen))
      exact ⟨(hKO.trans hk2).from _, hBW.trans hb2, ⟨_, hv2, by rw [pack_snoc, HP.out, bump_snoc]; simpa [u8, add128] using hr2, by simp⟩, hB.trans (hBW.trans hb2)⟩
  case done =>
    rintro D ys W hD rfl ⟨⟨v, hv, hrow, hnil⟩, hB⟩ hK
    have hc := hv.cell
    have hcv := conv_row (P := Tryd.prog) Tryd.underlying54 Tryd.underlying5 Tryd.underlying9 hrow
    gi_wp2
    refine ⟨by simp, .inl ⟨_, _, rfl, run_takeDeferred hK, ?_⟩⟩
    exact ⟨_, results_tmp rfl _ _ _, rfl, hB.trans (belowK_b (w := w) (Nat.le_refl _) W D _ _ (by simp at hD; omega) hK rfl rfl)⟩
  case stop =>
    rintro D c pre W _ _ h _
    exact h.elim

theorem Num_any (x : Int) (hx0 : -9223372036854775808 ≤ x) (hx1 : x ≤ 9223372036854775807) (w : World) :
    Calls Tryd.prog 46 #[.int .i64 x] w fun e W' => e = .returned (.string (str (num x))) ∧ Below w.heap.size w W' :=
  (callsIn_wide (n := 3)).1 (Num_in Fence.wide 3 trivial trivial trivial rfl (by omega) x hx0 hx1 w)
end Go.Proofs.YtdlolkogifigpaaDoor
