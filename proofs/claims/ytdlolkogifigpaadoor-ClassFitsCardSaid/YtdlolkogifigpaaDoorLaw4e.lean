/- The law ClassOnce: its walk. -/
import Derived.Test.YtdlolkogifigpaaDoorOwn
import Derived.Test.YtdlolkogifigpaaDoorLaw4d
import Derived.Deep.RegionLaw
import Derived.Deep.RegionHeld3
import Derived.Deep.RegionWith
import Derived.BigRegion
import Derived.Deep.DeepCutAuto
import Derived.Deep.Light
namespace Go.Proofs.YtdlolkogifigpaaDoor
open Go Go.RowKit Go.Mor
set_option maxHeartbeats 4000000

def FR : RowT Fld where
  e := 53
  t := 25
  size := 4
  bytes := 40
  zero := .agg #[.string ⟨#[]⟩, .int .i64 0, .int .i64 0, .bool false]
  cells := cellsF
  len := fun _ => rfl
  one := by
    intro x u hu
    simp [cellsF] at hu
    rcases hu with rfl | rfl | rfl | rfl <;> rfl
  pos := by decide
  few := by decide
  und := Tryd.underlying25
  info := infoFld
  zlen := rfl
theorem OwnF.toR {base : Nat} {w : World} {v : Value} {l : List Fld} (h : OwnF base w v l) : OwnR FR base w v l := h
theorem IsR.toF {ok : Nat → Prop} {w : World} {l : List Fld} {c : Value} (h : IsR FR ok w l c) : IsF ok w l c := by
  obtain ⟨b, off, cap, p, h1, h2, h3, h4, h6, h5⟩ := h
  refine ⟨b, off, cap, p, h1, h2, h3, h4, fun i f hf => ?_⟩
  exact ⟨h5 i f hf 0 _ rfl, h5 i f hf 1 _ rfl, h5 i f hf 2 _ rfl, h5 i f hf 3 _ rfl⟩
/-- What holds at a piece's end. -/
def AtEnds (R : Act → World → Prop) : Exit → Act → World → Prop
  | .normal, a, w => R a w
  | _, _, _ => False
theorem wp_end_cuts {P : Program} {c : Code} {Q : Exit → Act → World → Prop} {a : Act} {w : World} (R : Act → World → Prop) (hreg : c.wp P (AtEnds R) a w) (h : ∀ a' w', R a' w' → Q .normal a' w') : c.wp P Q a w := by
  refine Code.wp_mono (fun e a' w' he => ?_) hreg
  cases e <;> first | exact he.elim | exact h _ _ he

theorem texts_set {l : List Fld} (h : FTextsOk l) (k : Nat) {y : Fld} (hy : y.n.length ≤ 9223372036854775807) : FTextsOk (l.set k y) := fun f hf => by
  rcases mem_set' hf with rfl | hf
  · exact hy
  · exact h f hf
theorem texts_snoc {l : List Fld} (h : FTextsOk l) {y : Fld} (hy : y.n.length ≤ 9223372036854775807) : FTextsOk (l ++ [y]) := fun f hf => by
  rcases List.mem_append.1 hf with hf | hf
  · exact h f hf
  · obtain rfl := List.mem_singleton.1 hf; exact hy
theorem fieldRes_form (l : List Fld) (n : List UInt8) : ∃ (m : Int) (t : Bool), fieldRes l n = .tuple #[.int .i64 m, .bool t] ∧ Hid (t = decide (0 ≤ fieldAt l n)) := by
  by_cases h : fieldAt l n < 0
  · exact ⟨0, false, by rw [fieldRes, if_pos h], by show _ = _; simp; omega⟩
  · exact ⟨fieldAt l n, true, by rw [fieldRes, if_neg h], by show _ = _; simp; omega⟩
theorem conv_one (w : World) (b : UInt8) {B : Nat} {t : TypeId} (h : w.heap[B]? = some (.cells #[.int .u8 b.toNat] t (0, 0))) : (convert 54 9 (.slice (some ⟨B, 0, none⟩) 1 1)).run Tryd.prog w = .ok (.string (str [b])) w := by
  refine run_convert_bytes_back w 54 9 5 ⟨B, 0, none⟩ 1 [b] Tryd.underlying54 Tryd.underlying5 Tryd.underlying9 (fun j hj => ?_)
  obtain rfl : j = 0 := by simp at hj; omega
  simp [World.cell?, h, Addr.add]
set_option maxRecDepth 10000 in
theorem ClassOnce_any (x : Raw) (cx : Value) (at_ : Int) (b : UInt8) (a0 a1 : Addr) (w : World) (hx0 : -9223372036854775808 ≤ x.n) (hx1 : x.n ≤ 9223372036854775807)
    (hX : IsRaw w x.fs cx) (hc0 : 0 ≤ at_) (hc1 : at_ ≤ 255) (hG : Glob w a0 a1) :
    Calls Tryd.prog 5 #[.agg #[.int .i64 x.n, cx], .int .u8 at_, .int .u8 b.toNat] w fun e w' => e = .returned (.bool true) ∧ Below w.heap.size w w' := by
  obtain ⟨px, kx, rfl, hkx, hmx⟩ := hX.form
  have HX := Lib.hid hX
  have HG := Lib.hid hG
  have hB := Below.refl w.heap.size w
  clear hX hG
  go_enter Tryd.func5, Tryd.ntmps5
  go_wp2_with fail
  have hBa : Below (w).heap.size (w) ((w).alloc (.cells #[.int .i64 x.n, .slice px x.fs.length kx] 24)) := (Below.refl _ _).alloc (Nat.le_refl _) _
  have NX := World.alloc_heap_new (w) (.cells #[.int .i64 x.n, .slice px x.fs.length kx] 24)
  replace NX := Lib.hid NX
  replace hB := hB.trans (hBa.mono hB.size)
  replace HX := Lib.hid (HX.out.ext hBa)
  replace HG := Lib.hid (HG.out.ext hBa)
  clear hBa
  obtain ⟨U1, hV⟩ : ∃ V, (w).alloc (.cells #[.int .i64 x.n, .slice px x.fs.length kx] 24) = V := ⟨_, rfl⟩
  obtain ⟨B1, hV2⟩ : ∃ B, w.heap.size = B := ⟨_, rfl⟩
  rw [hV] at NX HX HG hB ⊢
  rw [hV2] at NX ⊢
  clear hV hV2
  refine (examples_any a0 a1 U1 HG.out).mono ?_
  rintro e U2 ⟨rfl, hbU2⟩
  replace hB := hB.trans (hbU2.mono hB.size)
  replace NX := Lib.hid ((hbU2.block _ (heap_lt NX.out)).trans NX.out)
  replace HX := Lib.hid (HX.out.ext hbU2)
  replace HG := Lib.hid (HG.out.ext hbU2)
  clear hbU2
  have d0 := blk_cells' NX.out 0
  have d1 := blk_cells' NX.out 1
  simp only [List.getElem?_toArray, List.getElem?_cons_zero, List.getElem?_cons_succ] at d0 d1
  go_wp2_with fail
  clear d0 d1
  refine (ClassOf_any x _ U2 hx0 hx1 HX.out).mono ?_
  rintro e U3 ⟨⟨va, rfl, hOa⟩, hbU3⟩
  obtain ⟨pa, ka, rfl⟩ := hOa.form
  have HA := Lib.hid (OwnR.any (R := FR) hOa.toR)
  clear hOa
  have HGA := Lib.hid (classOf_good x)
  replace hB := hB.trans (hbU3.mono hB.size)
  replace NX := Lib.hid ((hbU3.block _ (heap_lt NX.out)).trans NX.out)
  replace HX := Lib.hid (HX.out.ext hbU3)
  replace HG := Lib.hid (HG.out.ext hbU3)
  clear hbU3
  obtain ⟨A, hA⟩ : ∃ A, classOf x = A := ⟨_, rfl⟩
  rw [hA] at HA HGA ⊢
  clear hA
  by_cases hz : A.fs.length = 0
  · have hz' : ((A.fs.length : Int) == 0) = true := by simp; exact List.eq_nil_of_length_eq_zero hz
    clear hz
    go_wp2_with fail
    have lB3_NX := heap_lt NX.out
    have hBa : Below (U3).heap.size (U3) ((U3).alloc (.cells #[.string (str A.n), .slice pa A.fs.length ka] 27)) := (Below.refl _ _).alloc (Nat.le_refl _) _
    have NA := World.alloc_heap_new (U3) (.cells #[.string (str A.n), .slice pa A.fs.length ka] 27)
    replace NA := Lib.hid NA
    replace hB := hB.trans (hBa.mono hB.size)
    replace NX := Lib.hid ((hBa.block _ (heap_lt NX.out)).trans NX.out)
    replace HX := Lib.hid (HX.out.ext hBa)
    replace HG := Lib.hid (HG.out.ext hBa)
    replace HA := Lib.hid (HA.out.ext hBa)
    clear hBa
    obtain ⟨U4, hV⟩ : ∃ V, (U3).alloc (.cells #[.string (str A.n), .slice pa A.fs.length ka] 27) = V := ⟨_, rfl⟩
    obtain ⟨B3, hV2⟩ : ∃ B, U3.heap.size = B := ⟨_, rfl⟩
    rw [hV] at NX NA HX HG HA hB ⊢
    rw [hV2] at NA lB3_NX ⊢
    clear hV hV2
    refine (CRight_any A.n A.fs _ U4 (by have := HGA.out.nm.2; omega) HGA.out.texts HA.out.toF).mono ?_
    rintro e U5 ⟨rfl, hbU5⟩
    replace hB := hB.trans (hbU5.mono hB.size)
    replace NX := Lib.hid ((hbU5.block _ (heap_lt NX.out)).trans NX.out)
    replace NA := Lib.hid ((hbU5.block _ (heap_lt NA.out)).trans NA.out)
    replace HX := Lib.hid (HX.out.ext hbU5)
    replace HG := Lib.hid (HG.out.ext hbU5)
    replace HA := Lib.hid (HA.out.ext hbU5)
    clear hbU5
    rw [show rightClass ⟨A.n, A.fs⟩ = true from HGA.out.right]
    go_wp2_with fail
    go_ret
    exact ⟨rfl, hB⟩
  · have hz' : ((A.fs.length : Int) == 0) = false := by rw [beq_eq_false_iff_ne]; omega
    have hpos : 0 < A.fs.length := by omega
    clear hz
    obtain ⟨k, hk⟩ : ∃ k : Nat, at_ % (A.fs.length : Int) = k := ⟨(at_ % (A.fs.length : Int)).toNat, by have := Int.emod_nonneg at_ (show (A.fs.length : Int) ≠ 0 by omega); omega⟩
    have hkl : k < A.fs.length := by have := Int.emod_lt_of_pos at_ (show (0 : Int) < A.fs.length by omega); omega
    obtain ⟨f, hf⟩ : ∃ f, A.fs[k]? = some f := ⟨_, List.getElem?_eq_getElem hkl⟩
    have hlen6 := HGA.out.len
    have HF := Lib.hid hf
    clear hf
    obtain ⟨bA, oA, rfl, _, hbA, hcells⟩ := IsR.at HA.out hpos
    have HAU := Lib.hid (HA.out.under.weaken (fun _ h => h.2))
    have HCE := Lib.hid hcells
    clear hcells
    have h3 := Below.refl U3.heap.size U3
    have hwB := hB.size
    go_wp2_with fail
    have lB3_NX := heap_lt NX.out
    have hBa : Below (U3).heap.size (U3) ((U3).alloc (.cells #[.string (str A.n), .slice (some ⟨bA, oA, none⟩) A.fs.length ka] 27)) := (Below.refl _ _).alloc (Nat.le_refl _) _
    have NA := World.alloc_heap_new (U3) (.cells #[.string (str A.n), .slice (some ⟨bA, oA, none⟩) A.fs.length ka] 27)
    replace NA := Lib.hid NA
    replace hB := hB.trans (hBa.mono hB.size)
    replace h3 := h3.trans (hBa.mono h3.size)
    replace NX := Lib.hid ((hBa.block _ (heap_lt NX.out)).trans NX.out)
    replace HX := Lib.hid (HX.out.ext hBa)
    replace HG := Lib.hid (HG.out.ext hBa)
    clear hBa
    have hBa : Below ((U3).alloc (.cells #[.string (str A.n), .slice (some ⟨bA, oA, none⟩) A.fs.length ka] 27)).heap.size ((U3).alloc (.cells #[.string (str A.n), .slice (some ⟨bA, oA, none⟩) A.fs.length ka] 27)) (((U3).alloc (.cells #[.string (str A.n), .slice (some ⟨bA, oA, none⟩) A.fs.length ka] 27)).alloc (.cells #[.string (str A.n), .slice (some ⟨bA, oA, none⟩) A.fs.length ka] 27)) := (Below.refl _ _).alloc (Nat.le_refl _) _
    have NT := World.alloc_heap_new ((U3).alloc (.cells #[.string (str A.n), .slice (some ⟨bA, oA, none⟩) A.fs.length ka] 27)) (.cells #[.string (str A.n), .slice (some ⟨bA, oA, none⟩) A.fs.length ka] 27)
    rw [World.size_alloc] at NT
    replace NT := Lib.hid NT
    replace hB := hB.trans (hBa.mono hB.size)
    replace h3 := h3.trans (hBa.mono h3.size)
    replace NX := Lib.hid ((hBa.block _ (heap_lt NX.out)).trans NX.out)
    replace NA := Lib.hid ((hBa.block _ (heap_lt NA.out)).trans NA.out)
    replace HX := Lib.hid (HX.out.ext hBa)
    replace HG := Lib.hid (HG.out.ext hBa)
    clear hBa
    obtain ⟨U4, hV⟩ : ∃ V, ((U3).alloc (.cells #[.string (str A.n), .slice (some ⟨bA, oA, none⟩) A.fs.length ka] 27)).alloc (.cells #[.string (str A.n), .slice (some ⟨bA, oA, none⟩) A.fs.length ka] 27) = V := ⟨_, rfl⟩
    obtain ⟨B3, hV2⟩ : ∃ B, U3.heap.size = B := ⟨_, rfl⟩
    rw [hV] at NX NA NT HX HG hB h3 ⊢
    rw [hV2] at NA NT lB3_NX hbA HAU h3 hwB ⊢
    clear hV hV2
    have HFC : Hid (∀ W', Below B3 U3 W' → W'.cell? ⟨bA, oA + k * 4, none⟩ = some (.string (str f.n))) := fun W' hb => (hb.cell hbA).trans (HCE.out k f HF.out 0 _ rfl)
    have HHA : Hid (∀ W', Below B3 U3 W' → IsR FR (fun _ => True) W' A.fs (.slice (some ⟨bA, oA, none⟩) A.fs.length ka)) := fun W' hb => (HAU.out.low hb).weaken fun _ _ => trivial
    have hBU : B3 + 2 ≤ U4.heap.size := heap_lt NT.out
    obtain ⟨g, hg⟩ : ∃ g : Fld, g = ⟨f.n, ⟨1, 0⟩, false⟩ := ⟨_, rfl⟩
    have HGE := Lib.hid hg
    clear hg HCE
    go_cut [9] (fun s9 wx => s9 = .int .i64 k ∧ ∃ (L : List Fld) (g1 cap : Nat), L = A.fs ++ [g] ∧ B3 + 2 ≤ g1 ∧ wx.heap[B3]? = some (.cells #[.string (str A.n), .slice (some ⟨bA, oA, none⟩) A.fs.length ka] 27 (0, 0)) ∧ wx.heap[B3 + 1]? = some (.cells #[.string (str A.n), .slice (some ⟨g1, 0, none⟩) L.length cap] 27 (0, 0)) ∧ OwnR FR (B3 + 2) wx (.slice (some ⟨g1, 0, none⟩) L.length cap) L ∧ Below B3 U3 wx ∧ Below w.heap.size w wx)
    case first =>
      have d0 := blk_cells' NA.out 0
      have d1 := blk_cells' NA.out 1
      simp only [List.getElem?_toArray, List.getElem?_cons_zero, List.getElem?_cons_succ] at d0 d1
      have g0 := blk_cells' NT.out 0
      have gf0 := blk_frozen NT.out 0
      have g1 := blk_cells' NT.out 1
      have gf1 := blk_frozen NT.out 1
      simp only [List.getElem?_toArray, List.getElem?_cons_zero, List.getElem?_cons_succ] at g0 g1
      have lt_NX := heap_lt NX.out
      have lt_NA := heap_lt NA.out
      have lt_NT := heap_lt NT.out
      have c0 := HFC.out _ h3
      have hk0 := h3.drew
      have hk1 : Below B3 U3 (U4.alloc (.cells #[.string (str f.n), .int .i64 1, .int .i64 0, .bool false] 53)).drew := (h3.alloc (by omega) _).drew
      have HS0 : Hid (Below U4.heap.size U4 U4.drew) := (Below.refl _ _).drew
      have HS1 : Hid (Below U4.heap.size U4 (U4.alloc (.cells #[.string (str f.n), .int .i64 1, .int .i64 0, .bool false] 53)).drew) := ((Below.refl _ _).alloc (Nat.le_refl _) _).drew
      have HQ1 : Hid ((U4.alloc (.cells #[.string (str f.n), .int .i64 1, .int .i64 0, .bool false] 53)).drew.heap[U4.heap.size]? = some (.cells #[.string (str f.n), .int .i64 1, .int .i64 0, .bool false] 53 (0, 0))) := World.alloc_heap_new _ _
      have hlen0 : ([] : List Fld).length + A.fs.length ≤ 1000000 := by simp; omega
      have hlen1 : A.fs.length + [g].length ≤ 1000000 := by simp; omega
      go_region_held3 (fun w' => w'.cell? ⟨B3, 1, none⟩ = some (.slice (some ⟨bA, oA, none⟩) A.fs.length ka) ∧ w'.cell? ⟨bA, oA + k * 4, none⟩ = some (.string (str f.n)))
        (first | go_keep | exact ⟨d1', c0'⟩ | exact ⟨d2', c2'⟩ | exact ⟨d3', c3'⟩)
        (first
        | (refine step_appR (R := FR) (o := ⟨some 42, _, _, _, _, _⟩) rfl (.const (.slice none 0 0)) (.tmp 41) rfl (OwnR.nil U4.heap.size _) (HHA.out _ hk0) rfl rfl hlen0 HS0.out.size ?_; intro v1 W1 hO1 hg1; obtain ⟨p1, k1, rfl⟩ := hO1.form; have hO1' := Lib.hid hO1; clear hO1; have HS2 := Lib.hid (HS0.out.grown hg1 HS0.out.size (fun k h => by cases h)); have hk2 := h3.trans (HS2.out.mono (by omega)); have c0' := HFC.out _ hk2; have d1' := (HS2.out.cell (p := ⟨B3, 1, none⟩) (by show B3 < _; omega)).trans d1)
        | (refine step_appR (R := FR) (o := ⟨some 42, _, _, _, _, _⟩) rfl (.const (.slice none 0 0)) (.tmp 41) rfl (OwnR.nil U4.heap.size _) (HHA.out _ hk1) rfl rfl hlen0 HS1.out.size ?_; intro v1 W1 hO1 hg1; obtain ⟨p1, k1, rfl⟩ := hO1.form; have hO1' := Lib.hid hO1; clear hO1; have HS2 := Lib.hid (HS1.out.grown hg1 HS1.out.size (fun k h => by cases h)); have hk2 := h3.trans (HS2.out.mono (by omega)); have HQ2 := Lib.hid ((hg1.block _ (heap_lt HQ1.out) (fun h => by cases h)).trans HQ1.out); have c0' := HFC.out _ hk2; have d1' := (HS2.out.cell (p := ⟨B3, 1, none⟩) (by show B3 < _; omega)).trans d1)
        | (refine step_appR (R := FR) (o := ⟨some 52, _, _, _, _, _⟩) rfl (.tmp 42) (.tmp 51) rfl hO1'.out (isR_one g HQ2.out (by rw [HGE.out]; rfl)) rfl rfl hlen1 HS2.out.size ?_; intro v2 W2 hO2 hg2; obtain ⟨L2, p2, k2, rfl, hL2, hO2'⟩ := hO2.formL; clear hO2; have HS3 := Lib.hid (HS2.out.grown hg2 HS2.out.size (fun k h => hO1'.out.below k h)); have HQT := Lib.hid ((HS3.out.block _ (heap_lt NT.out)).trans NT.out); have gg1 := blk_cells' HQT.out 1; have gf := blk_frozen HQT.out 1; simp only [List.getElem?_toArray, List.getElem?_cons_zero, List.getElem?_cons_succ] at gg1; have c2' := HFC.out _ (h3.trans (HS3.out.mono (by omega))); have d2' := (HS3.out.cell (p := ⟨B3, 1, none⟩) (by show B3 < _; omega)).trans d1; have c3' := HFC.out (W2.setCell ⟨B3 + 1, 1, none⟩ (.slice p2 L2.length k2)) ((h3.trans (HS3.out.mono (by omega))).setCell (by show B3 ≤ B3 + 1; omega) _); have d3' : (W2.setCell ⟨B3 + 1, 1, none⟩ (.slice p2 L2.length k2)).cell? ⟨B3, 1, none⟩ = some (.slice (some ⟨bA, oA, none⟩) A.fs.length ka) := blk_cells' (keepSet ((HS3.out.block _ (heap_lt NA.out)).trans NA.out) (B3 + 1) 1 (.slice p2 L2.length k2) (by omega)) 1)
        | (have hal : Below W1.heap.size W1 (W1.alloc (.cells #[.string (str f.n), .int .i64 1, .int .i64 0, .bool false] 53)) := (Below.refl _ _).alloc (Nat.le_refl _) _; refine step_appR (R := FR) (o := ⟨some 52, _, _, _, _, _⟩) rfl (.tmp 42) (.tmp 51) rfl (hO1'.out.ext hal) (isR_one g (World.alloc_heap_new W1 _) (by rw [HGE.out]; rfl)) rfl rfl hlen1 (Nat.le_trans HS2.out.size hal.size) ?_; intro v2 W2 hO2 hg2; obtain ⟨L2, p2, k2, rfl, hL2, hO2'⟩ := hO2.formL; clear hO2; have HS3 := Lib.hid ((HS2.out.trans (hal.mono HS2.out.size)).grown hg2 (Nat.le_trans HS2.out.size hal.size) (fun k h => hO1'.out.below k h)); have HQT := Lib.hid ((HS3.out.block _ (heap_lt NT.out)).trans NT.out); have gg1 := blk_cells' HQT.out 1; have gf := blk_frozen HQT.out 1; simp only [List.getElem?_toArray, List.getElem?_cons_zero, List.getElem?_cons_succ] at gg1; have c2' := HFC.out _ (h3.trans (HS3.out.mono (by omega))); have d2' := (HS3.out.cell (p := ⟨B3, 1, none⟩) (by show B3 < _; omega)).trans d1; have c3' := HFC.out (W2.setCell ⟨B3 + 1, 1, none⟩ (.slice p2 L2.length k2)) ((h3.trans (HS3.out.mono (by omega))).setCell (by show B3 ≤ B3 + 1; omega) _); have d3' : (W2.setCell ⟨B3 + 1, 1, none⟩ (.slice p2 L2.length k2)).cell? ⟨B3, 1, none⟩ = some (.slice (some ⟨bA, oA, none⟩) A.fs.length ka) := blk_cells' (keepSet ((HS3.out.block _ (heap_lt NA.out)).trans NA.out) (B3 + 1) 1 (.slice p2 L2.length k2) (by omega)) 1))
      all_goals
        obtain ⟨g1, hp2, hg1b, hg1l⟩ := hO2'.out.at (by rw [hL2.out]; simp)
        subst hp2
        go_wp2_with fail
        go_meet
        refine ⟨rfl, L2, g1, k2, by rw [hL2.out]; rfl, by omega, keepSet ((HS3.out.block _ (heap_lt NA.out)).trans NA.out) _ _ _ (by omega), heap_setCell_same _ _ _ _ _ _ HQT.out, (hO2'.out.set ?_).lower (by omega), (h3.trans (HS3.out.mono (by omega))).setCell (by show B3 ≤ B3 + 1; omega) _, (hB.trans (HS3.out.mono hB.size)).setCell (by show w.heap.size ≤ B3 + 1; omega) _⟩
        intro h
        have h' : B3 + 1 = g1 := by injection h
        omega
    case rest =>
      obtain ⟨rfl, L, g1, capT, hL, hg1, qA, qT, hOT, hb3, hbw⟩ := hcut
      clear h3 hB NA NT NX HX
      have hB := hbw
      have h3 := hb3
      have NA := Lib.hid qA
      have NT := Lib.hid qT
      have HT := Lib.hid (hOT.any.under.weaken (fun _ h => h.2))
      have HL := Lib.hid hL
      clear hbw hb3 qA qT hOT hL HG HAU
      have hwB4 := hB.size
      have hlen0 : ([] : List Fld).length + A.fs.length ≤ 1000000 := by simp; omega
      have d0 := blk_cells' NA.out 0
      have d1 := blk_cells' NA.out 1
      simp only [List.getElem?_toArray, List.getElem?_cons_zero, List.getElem?_cons_succ] at d0 d1
      have lt_NA := heap_lt NA.out
      have lt_NT := heap_lt NT.out
      have hal : Below wc.heap.size wc (wc.alloc (.cells #[.string (str A.n), .slice (some ⟨bA, oA, none⟩) A.fs.length ka] 27)) := (Below.refl _ _).alloc (Nat.le_refl _) _
      have NO := Lib.hid (World.alloc_heap_new wc (.cells #[.string (str A.n), .slice (some ⟨bA, oA, none⟩) A.fs.length ka] 27))
      have HHA4 := Lib.hid (HHA.out _ (h3.trans (hal.mono (Nat.le_of_lt lt_NA))))
      go_wp2_with (at_builtin; refine wpList_appR (R := FR) rfl _ _ rfl (OwnR.nil (wc.heap.size + 1) _) HHA4.out rfl rfl hlen0 (by simp) ?_; intro v1 W1 hO1 hg1; obtain ⟨L1, p1, k1, rfl, hL1, hO1'⟩ := hO1.formL; clear hO1; have q8 := (hg1.block _ (heap_lt NO.out) (fun h => by cases h)).trans NO.out; have e1 := blk_cells' q8 1; have f1 := blk_frozen q8 1; simp only [List.getElem?_toArray, List.getElem?_cons_zero, List.getElem?_cons_succ] at e1; have Q8 := Lib.hid q8; clear q8)
      clear d0 d1 e1 f1
      clear lt_NA lt_NT
      replace hL1 : Hid (L1 = A.fs) := hL1.out
      have hpos1 : 0 < L1.length := by rw [hL1.out]; exact hpos
      obtain ⟨gO, rfl, hgO, hgOl⟩ := hO1'.out.at hpos1
      have hst : Below wc.heap.size wc (W1.setCell ⟨wc.heap.size, 1, none⟩ (.slice (some ⟨gO, 0, none⟩) L1.length k1)) := (hal.grown hg1 hal.size (fun k h => by cases h)).setCell (Nat.le_refl _) _
      replace NO := Lib.hid (heap_setCell_same _ _ 1 _ _ (.slice (some ⟨gO, 0, none⟩) L1.length k1) Q8.out)
      have HO := Lib.hid (hO1'.out.set (C := wc.heap.size) (i := 1) (u := .slice (some ⟨gO, 0, none⟩) L1.length k1) (by intro h; have h' : wc.heap.size = gO := (by injection h); omega))
      replace hgOl : gO < (W1.setCell ⟨wc.heap.size, 1, none⟩ (.slice (some ⟨gO, 0, none⟩) L1.length k1)).heap.size := by simpa using hgOl
      clear hal HHA4 hg1 hO1' Q8
      have lB4_NA := heap_lt NA.out
      have lB4_NT := heap_lt NT.out
      replace hB := hB.trans (hst.mono hB.size)
      replace h3 := h3.trans (hst.mono (Nat.le_of_lt (heap_lt NA.out)))
      replace NA := Lib.hid ((hst.block _ (heap_lt NA.out)).trans NA.out)
      replace NT := Lib.hid ((hst.block _ (heap_lt NT.out)).trans NT.out)
      replace HT := Lib.hid (HT.out.ext hst)
      obtain ⟨U11, hV⟩ : ∃ V, W1.setCell ⟨wc.heap.size, 1, none⟩ (.slice (some ⟨gO, 0, none⟩) L1.length k1) = V := ⟨_, rfl⟩
      obtain ⟨B4, hV2⟩ : ∃ B, wc.heap.size = B := ⟨_, rfl⟩
      rw [hV] at NA NT HT hB h3 NO HO hgOl ⊢
      rw [hV2] at lB4_NA lB4_NT NO HO hgO HT hwB4
      try rw [hV2]
      clear hV hV2 hst
      replace NO : Hid (U11.heap[B4]? = some (.cells #[.string (str A.n), .slice (some ⟨gO, 0, none⟩) L1.length k1] 27 (0, 0))) := NO.out
      have hf1 : Hid (L1[k]? = some f) := by show _ = _; rw [hL1.out]; exact HF.out
      have hkl1 : k < L1.length := by rw [hL1.out]; exact hkl
      have hll1 : L1.length ≤ 6 := by rw [hL1.out]; exact hlen6
      have d0 := blk_cells' NA.out 0
      have d1 := blk_cells' NA.out 1
      simp only [List.getElem?_toArray, List.getElem?_cons_zero, List.getElem?_cons_succ] at d0 d1
      have e0 := blk_cells' NO.out 0
      have e1 := blk_cells' NO.out 1
      simp only [List.getElem?_toArray, List.getElem?_cons_zero, List.getElem?_cons_succ] at e0 e1
      have c0 := HFC.out _ h3
      have c1 : U11.cell? ⟨gO, k * 4, none⟩ = some (.string (str f.n)) := HO.out.cell hf1.out (j := 0) rfl
      have c2 := HO.out.frozen (k * 4)
      have hgOB : B4 < gO := by omega
      have hcv := conv_one (U11.alloc (.cells #[.int .u8 b.toNat] 5)).drew b (World.alloc_heap_new _ _)
      have hlt0 : U11.heap.size ≠ gO := by omega
      have lt_NA := heap_lt NA.out
      have lt_NT := heap_lt NT.out
      have lt_NO := heap_lt NO.out
      have ltbA : bA < U11.heap.size := by omega
      have hnf : f.n.length ≤ 8 := (HGA.out.fs f (List.mem_of_getElem? HF.out)).2
      have hnl : ¬ 9223372036854775807 < f.n.length + 1 := by omega
      apply wp_end_cut
      case hreg =>
        go_region
        all_goals exact ⟨rfl, rfl⟩
      case h =>
        clear d0 d1 e0 e1 c0 c1 c2 hcv hnl hlt0 ltbA
        clear lt_NA lt_NT lt_NO
        have hX : Below B4 U11 ((U11.setCell ⟨gO, k * 4, none⟩ (.string (str (f.n ++ [b])))).alloc (.cells #[.int .u8 b.toNat] 5)).drew := (((Below.refl _ _).setCell (show B4 ≤ gO by omega) _).alloc (by have := heap_lt NO.out; simp; omega) _).drew
        have hY : Below (U11.setCell ⟨gO, k * 4, none⟩ (.string (str (f.n ++ [b])))).heap.size (U11.setCell ⟨gO, k * 4, none⟩ (.string (str (f.n ++ [b])))) ((U11.setCell ⟨gO, k * 4, none⟩ (.string (str (f.n ++ [b])))).alloc (.cells #[.int .u8 b.toNat] 5)).drew := ((Below.refl _ _).alloc (Nat.le_refl _) _).drew
        replace NA := Lib.hid ((hX.block _ lB4_NA).trans NA.out)
        replace NT := Lib.hid ((hX.block _ lB4_NT).trans NT.out)
        replace HT := Lib.hid (HT.out.low hX)
        replace h3 := h3.trans (hX.mono (by omega))
        replace hB := hB.trans (hX.mono hwB4)
        have q1 := keepSet NO.out gO (k * 4) (.string (str (f.n ++ [b]))) (by omega)
        replace NO := Lib.hid ((hY.block _ (heap_lt q1)).trans q1)
        have q2 : OwnR FR (B4 + 1) (U11.setCell ⟨gO, k * 4, none⟩ (.string (str (f.n ++ [b])))) (.slice (some ⟨gO, 0, none⟩) L1.length k1) (L1.set k ⟨f.n ++ [b], f.t, f.ix⟩) := HO.out.put (j := 0) (y := ⟨f.n ++ [b], f.t, f.ix⟩) hf1.out (by decide) rfl rfl
        replace HO := Lib.hid (q2.ext hY).any
        clear q1 q2 hY hX
        obtain ⟨U12, hU12⟩ : ∃ V, ((U11.setCell ⟨gO, k * 4, none⟩ (.string (str (f.n ++ [b])))).alloc (.cells #[.int .u8 b.toNat] 5)).drew = V := ⟨_, rfl⟩
        rw [hU12] at NA NT HT h3 hB NO HO ⊢
        clear hU12 hgOl
        go_upto_region 13 with fail
        go_cut [12] (fun s12 wx => s12 = .bool (nameB b) ∧ U12 = wx)
        case first =>
          go_wp2_with fail
          all_goals go_meet
          all_goals
            refine ⟨congrArg Value.bool ?_, rfl⟩
            rw [Bool.eq_iff_iff]
            simp only [nameB, small, Bool.or_eq_true, decide_eq_true_iff, beq_iff_eq, true_iff] <;> omega
        case rest =>
          obtain ⟨rfl, hwx⟩ := hcut
          subst hwx
          have d0 := blk_cells' NA.out 0
          have d1 := blk_cells' NA.out 1
          simp only [List.getElem?_toArray, List.getElem?_cons_zero, List.getElem?_cons_succ] at d0 d1
          have lt_NA := heap_lt NA.out
          have lt_NT := heap_lt NT.out
          have lt_NO := heap_lt NO.out
          have hwB5 := hB.size
          have hal : Below U12.heap.size U12 (U12.alloc (.cells #[.string (str A.n), .slice (some ⟨bA, oA, none⟩) A.fs.length ka] 27)) := (Below.refl _ _).alloc (Nat.le_refl _) _
          have NW := Lib.hid (World.alloc_heap_new U12 (.cells #[.string (str A.n), .slice (some ⟨bA, oA, none⟩) A.fs.length ka] 27))
          have HHA5 := Lib.hid (HHA.out _ (h3.trans (hal.mono (Nat.le_of_lt lt_NA))))
          replace HT := Lib.hid (HT.out.weaken (fun _ _ => trivial) : IsR FR (fun _ => True) _ _ _)
          go_upto_region 18 with (at_builtin; refine wpList_appR (R := FR) rfl _ _ rfl (OwnR.nil (U12.heap.size + 1) _) HHA5.out rfl rfl hlen0 (by simp) ?_; intro v1 W1 hO1 hg1; obtain ⟨L3, p1, k3, rfl, hL3, hO1'⟩ := hO1.formL; clear hO1; have q8 := (hg1.block _ (heap_lt NW.out) (fun h => by cases h)).trans NW.out; have e0 := blk_cells' q8 0; have e1 := blk_cells' q8 1; have f1 := blk_frozen q8 1; simp only [List.getElem?_toArray, List.getElem?_cons_zero, List.getElem?_cons_succ] at e0 e1; have Q8 := Lib.hid q8; clear q8; replace hL3 : Hid (L3 = A.fs) := hL3.out; have hpos3 : 0 < L3.length := (by rw [hL3.out]; exact hpos); obtain ⟨gW, rfl, hgW, hgWl⟩ := hO1'.out.at hpos3; have hf3 : Hid (L3[k]? = some f) := (by show _ = _; rw [hL3.out]; exact HF.out); have hkl3 : k < L3.length := (by rw [hL3.out]; exact hkl); have hll3 : L3.length ≤ 6 := (by rw [hL3.out]; exact hlen6); have z1 : W1.cell? ⟨gW, k * 4 + 1, none⟩ = some (.int .i64 f.t.k) := hO1'.out.cell hf3.out (j := 1) rfl; have z2 : W1.cell? ⟨gW, k * 4 + 2, none⟩ = some (.int .i64 f.t.o) := hO1'.out.cell hf3.out (j := 2) rfl; have z3 : W1.cell? ⟨gW, k * 4 + 3, none⟩ = some (.bool f.ix) := hO1'.out.cell hf3.out (j := 3) rfl; have zf1 := hO1'.out.frozen (k * 4 + 1); have zf2 := hO1'.out.frozen (k * 4 + 2); have zf3 := hO1'.out.frozen (k * 4 + 3); have hgne : U12.heap.size ≠ gW := (by omega))
          clear d0 d1 e0 e1 f1 z1 z2 z3 zf1 zf2 zf3
          clear lt_NA lt_NT lt_NO
          have hst : Below U12.heap.size U12 ((((W1.setCell ⟨U12.heap.size, 1, none⟩ (.slice (some ⟨gW, 0, none⟩) L3.length k3)).setCell ⟨gW, k * 4 + 1, none⟩ (.int .i64 5)).setCell ⟨gW, k * 4 + 2, none⟩ (.int .i64 1)).setCell ⟨gW, k * 4 + 3, none⟩ (.bool true)) := ((((hal.grown hg1 hal.size (fun k h => by cases h)).setCell (Nat.le_refl _) _).setCell (show U12.heap.size ≤ gW by omega) _).setCell (show U12.heap.size ≤ gW by omega) _).setCell (show U12.heap.size ≤ gW by omega) _
          have hne : U12.heap.size ≠ gW := by omega
          replace NW := Lib.hid (keepSet (keepSet (keepSet (heap_setCell_same _ _ 1 _ _ (.slice (some ⟨gW, 0, none⟩) L3.length k3) Q8.out) gW (k * 4 + 1) (.int .i64 5) hne) gW (k * 4 + 2) (.int .i64 1) hne) gW (k * 4 + 3) (.bool true) hne)
          have q1 := hO1'.out.set (C := U12.heap.size) (i := 1) (u := .slice (some ⟨gW, 0, none⟩) L3.length k3) (by intro h; have h' : U12.heap.size = gW := (by injection h); omega)
          have q2 := q1.put (j := 1) (u := .int .i64 5) (y := ⟨f.n, ⟨5, f.t.o⟩, f.ix⟩) hf3.out (by decide) rfl rfl
          have q3 := q2.put (i := k) (j := 2) (u := .int .i64 1) (x := ⟨f.n, ⟨5, f.t.o⟩, f.ix⟩) (y := ⟨f.n, ⟨5, 1⟩, f.ix⟩) (by simp [hkl3]) (by decide) rfl rfl
          have q4 := q3.put (i := k) (j := 3) (u := .bool true) (x := ⟨f.n, ⟨5, 1⟩, f.ix⟩) (y := ⟨f.n, ⟨5, 1⟩, true⟩) (by simp [hkl3]) (by decide) rfl rfl
          simp only [List.set_set] at q4
          have HW : Hid (IsR FR (fun _ => True) ((((W1.setCell ⟨U12.heap.size, 1, none⟩ (.slice (some ⟨gW, 0, none⟩) L3.length k3)).setCell ⟨gW, k * 4 + 1, none⟩ (.int .i64 5)).setCell ⟨gW, k * 4 + 2, none⟩ (.int .i64 1)).setCell ⟨gW, k * 4 + 3, none⟩ (.bool true)) (L3.set k ⟨f.n, ⟨5, 1⟩, true⟩) (.slice (some ⟨gW, 0, none⟩) L3.length k3)) := q4.any
          clear q1 q2 q3 q4 hal HHA5 hg1 hO1' Q8 hne
          have EXeq : ((((W1.setCell ⟨U12.heap.size, 1, none⟩ (.slice (some ⟨gW, 0, none⟩) L3.length k3)).setCell ⟨gW, k * 4 + 1, none⟩ (.int .i64 5)).setCell ⟨gW, k * 4 + 2, none⟩ (.int .i64 1)).setCell ⟨gW, k * 4 + 3, none⟩ (.bool true)) = (((W1.setCell ⟨U12.heap.size, 1, none⟩ (.slice (some ⟨gW, 0, none⟩) L3.length k3)).setCell ⟨gW, k * 4 + 1, none⟩ (.int .i64 5)).setCell ⟨gW, k * 4 + 1 + 1, none⟩ (.int .i64 1)).setCell ⟨gW, k * 4 + 3, none⟩ (.bool true) := rfl
          rw [← EXeq]
          clear EXeq
          have lB5_NA := heap_lt NA.out
          have lB5_NT := heap_lt NT.out
          have lB5_NO := heap_lt NO.out
          replace hB := hB.trans (hst.mono hB.size)
          replace h3 := h3.trans (hst.mono (Nat.le_of_lt (heap_lt NA.out)))
          replace NA := Lib.hid ((hst.block _ (heap_lt NA.out)).trans NA.out)
          replace NT := Lib.hid ((hst.block _ (heap_lt NT.out)).trans NT.out)
          replace NO := Lib.hid ((hst.block _ (heap_lt NO.out)).trans NO.out)
          replace HT := Lib.hid (HT.out.ext hst)
          replace HO := Lib.hid (HO.out.ext hst)
          obtain ⟨U21, hV⟩ : ∃ V, (((W1.setCell ⟨U12.heap.size, 1, none⟩ (.slice (some ⟨gW, 0, none⟩) L3.length k3)).setCell ⟨gW, k * 4 + 1, none⟩ (.int .i64 5)).setCell ⟨gW, k * 4 + 2, none⟩ (.int .i64 1)).setCell ⟨gW, k * 4 + 3, none⟩ (.bool true) = V := ⟨_, rfl⟩
          obtain ⟨B5, hV2⟩ : ∃ B, U12.heap.size = B := ⟨_, rfl⟩
          rw [hV] at NA NT NO HT HO hB h3 NW HW ⊢
          rw [hV2] at lB5_NA lB5_NT lB5_NO NW hgW hwB5
          try rw [hV2]
          clear hV hV2 hst
          replace NW : Hid (U21.heap[B5]? = some (.cells #[.string (str A.n), .slice (some ⟨gW, 0, none⟩) L3.length k3] 27 (0, 0))) := NW.out
          obtain ⟨LW, hLW⟩ : ∃ l, L3.set k ⟨f.n, ⟨5, 1⟩, true⟩ = l := ⟨_, rfl⟩
          have hlW : LW.length = L3.length := by rw [← hLW]; simp
          rw [hLW] at HW
          rw [← hlW] at HW NW ⊢
          have HLW := Lib.hid hLW
          have hlW6 : LW.length ≤ 6 := by omega
          have hklW : k < LW.length := by omega
          clear hLW hlW
          have hlenW : ([] : List Fld).length + LW.length ≤ 1000000 := by simp; omega
          have d0 := blk_cells' NW.out 0
          have d1 := blk_cells' NW.out 1
          simp only [List.getElem?_toArray, List.getElem?_cons_zero, List.getElem?_cons_succ] at d0 d1
          have lt_NA := heap_lt NA.out
          have lt_NT := heap_lt NT.out
          have lt_NO := heap_lt NO.out
          have lt_NW := heap_lt NW.out
          have hal : Below U21.heap.size U21 (U21.alloc (.cells #[.string (str A.n), .slice (some ⟨gW, 0, none⟩) LW.length k3] 27)) := (Below.refl _ _).alloc (Nat.le_refl _) _
          have NF := Lib.hid (World.alloc_heap_new U21 (.cells #[.string (str A.n), .slice (some ⟨gW, 0, none⟩) LW.length k3] 27))
          have HHW := Lib.hid (HW.out.ext hal)
          go_upto_region 21 with (at_builtin; refine wpList_appR (R := FR) rfl _ _ rfl (OwnR.nil (U21.heap.size + 1) _) HHW.out rfl rfl hlenW (by simp) ?_; intro v1 W1 hO1 hg1; obtain ⟨L4, p1, k4, rfl, hL4, hO1'⟩ := hO1.formL; clear hO1; have q8 := (hg1.block _ (heap_lt NF.out) (fun h => by cases h)).trans NF.out; have e0 := blk_cells' q8 0; have e1 := blk_cells' q8 1; have f1 := blk_frozen q8 1; simp only [List.getElem?_toArray, List.getElem?_cons_zero, List.getElem?_cons_succ] at e0 e1; have Q8 := Lib.hid q8; clear q8; replace hL4 : Hid (L4 = LW) := hL4.out; have hkl4 : k < L4.length := (by rw [hL4.out]; exact hklW); have hpos4 : 0 < L4.length := (by omega); obtain ⟨gF, rfl, hgF, hgFl⟩ := hO1'.out.at hpos4; have hf4 : Hid (L4[k]? = some ⟨f.n, ⟨5, 1⟩, true⟩) := (by show _ = _; rw [hL4.out, ← HLW.out]; simp [hkl3]); have hll4 : L4.length ≤ 6 := (by rw [hL4.out]; exact hlW6); have z3 : W1.cell? ⟨gF, k * 4 + 3, none⟩ = some (.bool true) := hO1'.out.cell hf4.out (j := 3) rfl; have zf3 := hO1'.out.frozen (k * 4 + 3); have hgne : U21.heap.size ≠ gF := (by omega))
          clear d0 d1 e0 e1 f1 z3 zf3
          clear lt_NA lt_NT lt_NO lt_NW
          have hst : Below U21.heap.size U21 ((W1.setCell ⟨U21.heap.size, 1, none⟩ (.slice (some ⟨gF, 0, none⟩) L4.length k4)).setCell ⟨gF, k * 4 + 3, none⟩ (.bool false)) := ((hal.grown hg1 hal.size (fun k h => by cases h)).setCell (Nat.le_refl _) _).setCell (show U21.heap.size ≤ gF by omega) _
          replace NF := Lib.hid (keepSet (heap_setCell_same _ _ 1 _ _ (.slice (some ⟨gF, 0, none⟩) L4.length k4) Q8.out) gF (k * 4 + 3) (.bool false) (by omega))
          have q1 := hO1'.out.set (C := U21.heap.size) (i := 1) (u := .slice (some ⟨gF, 0, none⟩) L4.length k4) (by intro h; have h' : U21.heap.size = gF := (by injection h); omega)
          have q4 := q1.put (i := k) (j := 3) (u := .bool false) (y := ⟨f.n, ⟨5, 1⟩, false⟩) hf4.out (by decide) rfl rfl
          have HFl : Hid (IsR FR (fun _ => True) ((W1.setCell ⟨U21.heap.size, 1, none⟩ (.slice (some ⟨gF, 0, none⟩) L4.length k4)).setCell ⟨gF, k * 4 + 3, none⟩ (.bool false)) (L4.set k ⟨f.n, ⟨5, 1⟩, false⟩) (.slice (some ⟨gF, 0, none⟩) L4.length k4)) := q4.any
          clear q1 q4 hal HHW hg1 hO1' Q8
          have lB6_NA := heap_lt NA.out
          have lB6_NT := heap_lt NT.out
          have lB6_NO := heap_lt NO.out
          have lB6_NW := heap_lt NW.out
          replace hB := hB.trans (hst.mono hB.size)
          replace h3 := h3.trans (hst.mono (Nat.le_of_lt (heap_lt NA.out)))
          replace NA := Lib.hid ((hst.block _ (heap_lt NA.out)).trans NA.out)
          replace NT := Lib.hid ((hst.block _ (heap_lt NT.out)).trans NT.out)
          replace NO := Lib.hid ((hst.block _ (heap_lt NO.out)).trans NO.out)
          replace NW := Lib.hid ((hst.block _ (heap_lt NW.out)).trans NW.out)
          replace HT := Lib.hid (HT.out.ext hst)
          replace HO := Lib.hid (HO.out.ext hst)
          replace HW := Lib.hid (HW.out.ext hst)
          obtain ⟨U22, hV⟩ : ∃ V, (W1.setCell ⟨U21.heap.size, 1, none⟩ (.slice (some ⟨gF, 0, none⟩) L4.length k4)).setCell ⟨gF, k * 4 + 3, none⟩ (.bool false) = V := ⟨_, rfl⟩
          obtain ⟨B6, hV2⟩ : ∃ B, U21.heap.size = B := ⟨_, rfl⟩
          rw [hV] at NA NT NO NW HT HO HW hB h3 NF HFl ⊢
          rw [hV2] at lB6_NA lB6_NT lB6_NO lB6_NW NF
          try rw [hV2]
          clear hV hV2 hst
          replace NF : Hid (U22.heap[B6]? = some (.cells #[.string (str A.n), .slice (some ⟨gF, 0, none⟩) L4.length k4] 27 (0, 0))) := NF.out
          obtain ⟨fm, ft, hfr, HFT⟩ := fieldRes_form A.fs (f.n ++ [b])
          have HFR := Lib.hid hfr
          have HOD := Lib.hid (once_odd A HGA.out HF.out b)
          have HFE := Lib.hid (once_field A HGA.out HF.out)
          clear hfr
          have d0 := blk_cells' NA.out 0
          have d1 := blk_cells' NA.out 1
          simp only [List.getElem?_toArray, List.getElem?_cons_zero, List.getElem?_cons_succ] at d0 d1
          have e0 := blk_cells' NO.out 0
          have e1 := blk_cells' NO.out 1
          simp only [List.getElem?_toArray, List.getElem?_cons_zero, List.getElem?_cons_succ] at e0 e1
          have c0 := HFC.out _ h3
          have c1 : U22.cell? ⟨gO, k * 4, none⟩ = some (.string (str (f.n ++ [b]))) := HO.out.cell0 (i := k) (x := ⟨f.n ++ [b], f.t, f.ix⟩) (j := 0) (by simp [hkl1]) rfl
          have HC1 := Lib.hid (refField_any A.n A.fs _ (f.n ++ [b]) U22.drew ((HHA.out _ h3.drew).toF))
          rw [HFR.out] at HC1
          go_cut [15, 16] (fun s15 s16 wx => s15 = .int .i64 fm ∧ s16 = .bool ft ∧ Below U22.heap.size U22 wx)
          case first =>
            go_region_held3 (fun w' => w'.cell? ⟨B3, 0, none⟩ = some (.string (str A.n)) ∧ w'.cell? ⟨B3, 1, none⟩ = some (.slice (some ⟨bA, oA, none⟩) A.fs.length ka) ∧ w'.cell? ⟨B4, 1, none⟩ = some (.slice (some ⟨gO, 0, none⟩) L1.length k1) ∧ w'.cell? ⟨gO, k * 4, none⟩ = some (.string (str (f.n ++ [b])))) (first | go_keep | exact ⟨(hb9.cell (cell_lt d0)).trans d0, (hb9.cell (cell_lt d1)).trans d1, (hb9.cell (cell_lt e1)).trans e1, (hb9.cell (cell_lt c1)).trans c1⟩) ((go_at_call 23; refine (HC1.out).mono ?_; rintro e W9 ⟨rfl, hb9⟩))
            all_goals (go_wp2_with fail; go_meet; exact ⟨rfl, rfl, (Below.refl _ _).drew.trans hb9⟩)
          case rest =>
            obtain ⟨rfl, rfl, hst⟩ := hcut
            replace hB := hB.trans (hst.mono hB.size)
            replace h3 := h3.trans (hst.mono (Nat.le_of_lt (heap_lt NA.out)))
            replace NA := Lib.hid ((hst.block _ (heap_lt NA.out)).trans NA.out)
            replace NT := Lib.hid ((hst.block _ (heap_lt NT.out)).trans NT.out)
            replace NO := Lib.hid ((hst.block _ (heap_lt NO.out)).trans NO.out)
            replace NW := Lib.hid ((hst.block _ (heap_lt NW.out)).trans NW.out)
            replace NF := Lib.hid ((hst.block _ (heap_lt NF.out)).trans NF.out)
            replace HT := Lib.hid (HT.out.ext hst)
            replace HO := Lib.hid (HO.out.ext hst)
            replace HW := Lib.hid (HW.out.ext hst)
            replace HFl := Lib.hid (HFl.out.ext hst)
            clear hst
            clear d0 d1 e0 e1 c0 c1 HC1
            have d0 := blk_cells' NA.out 0
            have d1 := blk_cells' NA.out 1
            simp only [List.getElem?_toArray, List.getElem?_cons_zero, List.getElem?_cons_succ] at d0 d1
            have c0 := HFC.out _ h3
            have HC2 := Lib.hid (Field_any A.n A.fs _ f.n wc.drew ((HHA.out _ h3.drew).toF))
            rw [HFE.out] at HC2
            go_upto_region 22 with fail
            go_cut [17, 18] (fun s17 s18 wx => s17 = .int .i64 k ∧ s18 = .bool true ∧ Below wc.heap.size wc wx)
            case first =>
              go_region_held3 (fun w' => w'.cell? ⟨B3, 0, none⟩ = some (.string (str A.n)) ∧ w'.cell? ⟨B3, 1, none⟩ = some (.slice (some ⟨bA, oA, none⟩) A.fs.length ka) ∧ w'.cell? ⟨bA, oA + k * 4, none⟩ = some (.string (str f.n))) (first | go_keep | exact ⟨(hb9.cell (cell_lt d0)).trans d0, (hb9.cell (cell_lt d1)).trans d1, (hb9.cell (cell_lt c0)).trans c0⟩) ((go_at_call 24; refine (HC2.out).mono ?_; rintro e W9 ⟨rfl, hb9⟩))
              all_goals (go_wp2_with fail; go_meet; exact ⟨rfl, rfl, (Below.refl _ _).drew.trans hb9⟩)
            case rest =>
              obtain ⟨rfl, rfl, hst⟩ := hcut
              replace hB := hB.trans (hst.mono hB.size)
              replace h3 := h3.trans (hst.mono (Nat.le_of_lt (heap_lt NA.out)))
              replace NA := Lib.hid ((hst.block _ (heap_lt NA.out)).trans NA.out)
              replace NT := Lib.hid ((hst.block _ (heap_lt NT.out)).trans NT.out)
              replace NO := Lib.hid ((hst.block _ (heap_lt NO.out)).trans NO.out)
              replace NW := Lib.hid ((hst.block _ (heap_lt NW.out)).trans NW.out)
              replace NF := Lib.hid ((hst.block _ (heap_lt NF.out)).trans NF.out)
              replace HT := Lib.hid (HT.out.ext hst)
              replace HO := Lib.hid (HO.out.ext hst)
              replace HW := Lib.hid (HW.out.ext hst)
              replace HFl := Lib.hid (HFl.out.ext hst)
              clear hst
              clear d0 d1 c0 HC2
              obtain ⟨nb, hnb⟩ : ∃ nb, nameB b = nb := ⟨_, rfl⟩
              rw [hnb]
              have HODD : Hid (rightClass ⟨A.n, L1.set k ⟨f.n ++ [b], f.t, f.ix⟩⟩ = (nb && !ft)) := by show _ = _; rw [hL1.out, HOD.out, hnb, ← HFT.out]
              have HTX := Lib.hid HGA.out.texts
              have hnf2 : f.n.length ≤ 9223372036854775807 := by omega
              have HRT : Hid (rightClass ⟨A.n, L⟩ = false) := by show _ = _; rw [HL.out, HGE.out]; exact once_twice A HGA.out HF.out _ _
              have HRW : Hid (rightClass ⟨A.n, LW⟩ = false) := by show _ = _; rw [← HLW.out, hL3.out]; exact once_wide A HF.out
              have HRF : Hid (rightClass ⟨A.n, L4.set k ⟨f.n, ⟨5, 1⟩, false⟩⟩ = true) := by show _ = _; rw [hL4.out, ← HLW.out, hL3.out, List.set_set]; exact once_flat A HGA.out HF.out
              have HXT : Hid (FTextsOk L) := by show FTextsOk L; rw [HL.out, HGE.out]; exact texts_snoc HTX.out hnf2
              have HXO : Hid (FTextsOk (L1.set k ⟨f.n ++ [b], f.t, f.ix⟩)) := by show FTextsOk _; rw [hL1.out]; exact texts_set HTX.out _ (by simp; omega)
              have HXW : Hid (FTextsOk LW) := by show FTextsOk _; rw [← HLW.out, hL3.out]; exact texts_set HTX.out _ hnf2
              have HXF : Hid (FTextsOk (L4.set k ⟨f.n, ⟨5, 1⟩, false⟩)) := by show FTextsOk _; rw [hL4.out]; exact texts_set HXW.out _ hnf2
              have hnm : A.n.length ≤ 9223372036854775807 := by have := HGA.out.nm.2; omega
              obtain ⟨LO, hLO⟩ : ∃ l, L1.set k ⟨f.n ++ [b], f.t, f.ix⟩ = l := ⟨_, rfl⟩
              obtain ⟨LF, hLF⟩ : ∃ l, L4.set k ⟨f.n, ⟨5, 1⟩, false⟩ = l := ⟨_, rfl⟩
              have hlO : LO.length = L1.length := by rw [← hLO]; simp
              have hlF : LF.length = L4.length := by rw [← hLF]; simp
              rw [hLO] at HODD HXO HO
              rw [hLF] at HRF HXF HFl
              rw [← hlO] at HO NO
              rw [← hlF] at HFl NF
              clear hLO hLF hlO hlF hnb HFT HFR HOD HFE
              clear HGE HF HLW
              cases nb <;> cases ft
              all_goals
                have d0 := blk_cells' NA.out 0
                have d1 := blk_cells' NA.out 1
                simp only [List.getElem?_toArray, List.getElem?_cons_zero, List.getElem?_cons_succ] at d0 d1
                go_wp2_with fail
                clear d0 d1
                refine (CRight_any A.n A.fs _ wc hnm HTX.out (HHA.out _ h3).toF).mono ?_
                rintro e U23 ⟨rfl, hbU23⟩
                replace hB := hB.trans (hbU23.mono hB.size)
                replace h3 := h3.trans (hbU23.mono (Nat.le_of_lt (heap_lt NA.out)))
                replace NA := Lib.hid ((hbU23.block _ (heap_lt NA.out)).trans NA.out)
                replace NT := Lib.hid ((hbU23.block _ (heap_lt NT.out)).trans NT.out)
                replace NO := Lib.hid ((hbU23.block _ (heap_lt NO.out)).trans NO.out)
                replace NW := Lib.hid ((hbU23.block _ (heap_lt NW.out)).trans NW.out)
                replace NF := Lib.hid ((hbU23.block _ (heap_lt NF.out)).trans NF.out)
                replace HT := Lib.hid (HT.out.ext hbU23)
                replace HO := Lib.hid (HO.out.ext hbU23)
                replace HW := Lib.hid (HW.out.ext hbU23)
                replace HFl := Lib.hid (HFl.out.ext hbU23)
                clear hbU23
                rw [show rightClass ⟨A.n, A.fs⟩ = true from HGA.out.right]
                have d0 := blk_cells' NT.out 0
                have d1 := blk_cells' NT.out 1
                simp only [List.getElem?_toArray, List.getElem?_cons_zero, List.getElem?_cons_succ] at d0 d1
                go_wp2_with fail
                clear d0 d1
                refine (CRight_any A.n L _ U23 hnm HXT.out HT.out.toF).mono ?_
                rintro e U24 ⟨rfl, hbU24⟩
                replace hB := hB.trans (hbU24.mono hB.size)
                replace h3 := h3.trans (hbU24.mono (Nat.le_of_lt (heap_lt NA.out)))
                replace NA := Lib.hid ((hbU24.block _ (heap_lt NA.out)).trans NA.out)
                replace NT := Lib.hid ((hbU24.block _ (heap_lt NT.out)).trans NT.out)
                replace NO := Lib.hid ((hbU24.block _ (heap_lt NO.out)).trans NO.out)
                replace NW := Lib.hid ((hbU24.block _ (heap_lt NW.out)).trans NW.out)
                replace NF := Lib.hid ((hbU24.block _ (heap_lt NF.out)).trans NF.out)
                replace HT := Lib.hid (HT.out.ext hbU24)
                replace HO := Lib.hid (HO.out.ext hbU24)
                replace HW := Lib.hid (HW.out.ext hbU24)
                replace HFl := Lib.hid (HFl.out.ext hbU24)
                clear hbU24
                rw [HRT.out]
                have d0 := blk_cells' NO.out 0
                have d1 := blk_cells' NO.out 1
                simp only [List.getElem?_toArray, List.getElem?_cons_zero, List.getElem?_cons_succ] at d0 d1
                go_wp2_with fail
                clear d0 d1
                refine (CRight_any A.n LO _ U24 hnm HXO.out HO.out.toF).mono ?_
                rintro e U25 ⟨rfl, hbU25⟩
                replace hB := hB.trans (hbU25.mono hB.size)
                replace h3 := h3.trans (hbU25.mono (Nat.le_of_lt (heap_lt NA.out)))
                replace NA := Lib.hid ((hbU25.block _ (heap_lt NA.out)).trans NA.out)
                replace NT := Lib.hid ((hbU25.block _ (heap_lt NT.out)).trans NT.out)
                replace NO := Lib.hid ((hbU25.block _ (heap_lt NO.out)).trans NO.out)
                replace NW := Lib.hid ((hbU25.block _ (heap_lt NW.out)).trans NW.out)
                replace NF := Lib.hid ((hbU25.block _ (heap_lt NF.out)).trans NF.out)
                replace HT := Lib.hid (HT.out.ext hbU25)
                replace HO := Lib.hid (HO.out.ext hbU25)
                replace HW := Lib.hid (HW.out.ext hbU25)
                replace HFl := Lib.hid (HFl.out.ext hbU25)
                clear hbU25
                rw [HODD.out]
                have d0 := blk_cells' NW.out 0
                have d1 := blk_cells' NW.out 1
                simp only [List.getElem?_toArray, List.getElem?_cons_zero, List.getElem?_cons_succ] at d0 d1
                go_wp2_with fail
                clear d0 d1
                refine (CRight_any A.n LW _ U25 hnm HXW.out HW.out.toF).mono ?_
                rintro e U26 ⟨rfl, hbU26⟩
                replace hB := hB.trans (hbU26.mono hB.size)
                replace h3 := h3.trans (hbU26.mono (Nat.le_of_lt (heap_lt NA.out)))
                replace NA := Lib.hid ((hbU26.block _ (heap_lt NA.out)).trans NA.out)
                replace NT := Lib.hid ((hbU26.block _ (heap_lt NT.out)).trans NT.out)
                replace NO := Lib.hid ((hbU26.block _ (heap_lt NO.out)).trans NO.out)
                replace NW := Lib.hid ((hbU26.block _ (heap_lt NW.out)).trans NW.out)
                replace NF := Lib.hid ((hbU26.block _ (heap_lt NF.out)).trans NF.out)
                replace HT := Lib.hid (HT.out.ext hbU26)
                replace HO := Lib.hid (HO.out.ext hbU26)
                replace HW := Lib.hid (HW.out.ext hbU26)
                replace HFl := Lib.hid (HFl.out.ext hbU26)
                clear hbU26
                rw [HRW.out]
                have d0 := blk_cells' NF.out 0
                have d1 := blk_cells' NF.out 1
                simp only [List.getElem?_toArray, List.getElem?_cons_zero, List.getElem?_cons_succ] at d0 d1
                go_wp2_with fail
                clear d0 d1
                refine (CRight_any A.n LF _ U26 hnm HXF.out HFl.out.toF).mono ?_
                rintro e U27 ⟨rfl, hbU27⟩
                replace hB := hB.trans (hbU27.mono hB.size)
                replace h3 := h3.trans (hbU27.mono (Nat.le_of_lt (heap_lt NA.out)))
                replace NA := Lib.hid ((hbU27.block _ (heap_lt NA.out)).trans NA.out)
                replace NT := Lib.hid ((hbU27.block _ (heap_lt NT.out)).trans NT.out)
                replace NO := Lib.hid ((hbU27.block _ (heap_lt NO.out)).trans NO.out)
                replace NW := Lib.hid ((hbU27.block _ (heap_lt NW.out)).trans NW.out)
                replace NF := Lib.hid ((hbU27.block _ (heap_lt NF.out)).trans NF.out)
                replace HT := Lib.hid (HT.out.ext hbU27)
                replace HO := Lib.hid (HO.out.ext hbU27)
                replace HW := Lib.hid (HW.out.ext hbU27)
                replace HFl := Lib.hid (HFl.out.ext hbU27)
                clear hbU27
                rw [HRF.out]
                go_wp2_with fail
                go_ret
                exact ⟨rfl, hB⟩
end Go.Proofs.YtdlolkogifigpaaDoor
