/- The law ClassFits: its walk. -/
import Derived.Test.YtdlolkogifigpaaDoorLaw4i
import Derived.Test.YtdlolkogifigpaaDoorLaw4e
import Derived.Deep.QuietTactic
import Derived.BigQuiet
import Derived.WalkSmall
namespace Go.Proofs.YtdlolkogifigpaaDoor
open Go Go.RowKit Go.Mor
set_option maxHeartbeats 4000000

/-- A row of values, and what their lists hold. -/
def IsV (w : World) (L : List VC) (c : Value) : Prop := IsR VR (fun _ => True) w L c ∧ ∀ y ∈ L, IsL (fun _ => True) w y.v.l y.c
theorem IsV.ext {w w' : World} {L : List VC} {c : Value} (h : IsV w L c) (hb : Below w.heap.size w w') : IsV w' L c := ⟨h.1.ext hb, fun y hy => (h.2 y hy).ext hb⟩
theorem IsV.toL {w : World} {L : List VC} {c : Value} (h : IsV w L c) : IsL (fun _ => True) w (L.map VC.v) c := h.1.toL h.2
theorem vtexts_of {l : List V} (h : ∀ x ∈ l, x.s.length ≤ 60 ∧ ∀ y ∈ x.l, y.s.length ≤ 60) : VTextsOk l := fun x hx => ⟨by have := (h x hx).1; unfold TextsOk; omega, fun y hy => by have := (h x hx).2 y hy; unfold TextsOk; omega⟩
theorem mkVals_get {fs : List Fld} {l : List Int} {many : Int} {i : Nat} {v : V} (h : (mkVals fs l many)[i]? = some v) : ∃ f, fs[i]? = some f ∧ v = mkVal f.t (rawN l i) many := by
  simp only [mkVals, List.getElem?_mapIdx, Option.map_eq_some_iff] at h
  obtain ⟨f, hf, rfl⟩ := h
  exact ⟨f, hf, rfl⟩
theorem mkVals_fits {fs : List Fld} {l : List Int} {many : Int} (hf : ∀ f ∈ fs, rightField f = true) (hm : many ≤ 100000) (i : Nat) (f : Fld) (v : V) (h1 : fs[i]? = some f) (h2 : (mkVals fs l many)[i]? = some v) : fitsV v f.t = true := by
  obtain ⟨g, hg, rfl⟩ := mkVals_get h2
  obtain rfl : f = g := by rw [h1] at hg; injection hg
  have := hf f (List.mem_of_getElem? h1)
  simp only [rightField, Bool.and_eq_true] at this
  exact (fits_mkVal f.t _ many this.1.2 hm).1
theorem mkVals_texts {fs : List Fld} {l : List Int} {many : Int} (hf : ∀ f ∈ fs, rightField f = true) (hm : many ≤ 100000) : ∀ x ∈ mkVals fs l many, x.s.length ≤ 60 ∧ ∀ y ∈ x.l, y.s.length ≤ 60 := by
  intro x hx
  obtain ⟨i, hi⟩ := List.getElem?_of_mem hx
  obtain ⟨f, hf', rfl⟩ := mkVals_get hi
  have := hf f (List.mem_of_getElem? hf')
  simp only [rightField, Bool.and_eq_true] at this
  exact (fits_mkVal f.t _ many this.1.2 hm).2

def eqTy (x y : Ty) : Bool := x.k == y.k && x.o == y.o
theorem eqTy_eq {x y : Ty} (h : eqTy x y = true) : x = y := by
  obtain ⟨k1, o1⟩ := x
  obtain ⟨k2, o2⟩ := y
  simp [eqTy] at h
  rw [h.1, h.2]
set_option maxRecDepth 10000 in
theorem neqT (x y : Ty) (W : World) : (binOp .neq 51 (.agg #[.int .i64 x.k, .int .i64 x.o]) (.agg #[.int .i64 y.k, .int .i64 y.o])).run Tryd.prog W = .ok (.bool (!eqTy x y)) W := by
  go_simp
  unfold eqTy
  by_cases h2 : x.k = y.k <;> by_cases h3 : x.o = y.o <;> simp [h2, h3]
/-- A value of a row is put anew. -/
theorem put_val {base : Nat} {w : World} {L : List VC} {g n cap i : Nat} {y : VC} (h : OwnR VR base w (.slice (some ⟨g, 0, none⟩) n cap) L) (hy : L[i]? = some y) (z : VC) :
    OwnR VR base ((((w.setCell ⟨g, i * 4, none⟩ (.int .i64 z.v.k)).setCell ⟨g, i * 4 + 1, none⟩ (.int .i64 z.v.n)).setCell ⟨g, i * 4 + 2, none⟩ (.string (str z.v.s))).setCell ⟨g, i * 4 + 3, none⟩ (.slice z.p z.v.l.length z.cap)) (.slice (some ⟨g, 0, none⟩) n cap) (L.set i z) := by
  have hi : i < L.length := (List.getElem?_eq_some_iff.1 hy).1
  have q0 := h.put (i := i) (j := 0) (u := .int .i64 z.v.k) (y := ⟨.mk z.v.k y.v.n y.v.s y.v.l, y.p, y.cap⟩) hy (by decide) rfl rfl
  have q1 := q0.put (i := i) (j := 1) (u := .int .i64 z.v.n) (x := ⟨.mk z.v.k y.v.n y.v.s y.v.l, y.p, y.cap⟩) (y := ⟨.mk z.v.k z.v.n y.v.s y.v.l, y.p, y.cap⟩) (by simp [hi]) (by decide) rfl rfl
  have q2 := q1.put (i := i) (j := 2) (u := .string (str z.v.s)) (x := ⟨.mk z.v.k z.v.n y.v.s y.v.l, y.p, y.cap⟩) (y := ⟨.mk z.v.k z.v.n z.v.s y.v.l, y.p, y.cap⟩) (by simp [hi]) (by decide) rfl rfl
  have q3 := q2.put (i := i) (j := 3) (u := .slice z.p z.v.l.length z.cap) (x := ⟨.mk z.v.k z.v.n z.v.s y.v.l, y.p, y.cap⟩) (y := z) (by simp [hi]) (by decide) rfl rfl
  simp only [List.set_set] at q3
  exact q3
theorem set_map (L : List VC) (i : Nat) (z : VC) : (L.set i z).map VC.v = (L.map VC.v).set i z.v := by rw [List.map_set]
theorem mem_setV {L : List VC} {i : Nat} {z y : VC} (h : y ∈ L.set i z) : y = z ∨ y ∈ L := by
  rcases List.mem_or_eq_of_mem_set h with h | h
  · exact .inr h
  · exact .inl h
theorem texts_setV {l : List V} (h : VTextsOk l) (i : Nat) {z : V} (hz : TextsOk z ∧ ∀ y ∈ z.l, TextsOk y) : VTextsOk (l.set i z) := fun x hx => by
  rcases List.mem_or_eq_of_mem_set hx with hx | rfl
  · exact h x hx
  · exact hz
theorem nil_res {c : Cls} {vs : List V} (hc : rightClass c = true) (hl : vs.length = c.fs.length) (hfit : ∀ (i : Nat) f v, c.fs[i]? = some f → vs[i]? = some v → fitsV v f.t = true) {a : Nat} {f : Fld} (hf : c.fs[a]? = some f) (hr : rightType f.t = true) :
    ∃ p q : Int, checkRes c (vs.set a V.nil) = .tuple #[.int .i64 p, .int .i64 q] ∧ Hid ((f.t.k == 3 || f.t.k == 4) = true → q = 0) ∧ Hid ((f.t.k == 3 || f.t.k == 4) = false → p = a ∧ q = 42) := by
  have ha : a < vs.length := by have := (List.getElem?_eq_some_iff.1 hf).1; omega
  refine ⟨_, _, rfl, fun h => ?_, fun h => ?_⟩
  · rw [check_ok hc (by simpa using hl) (fun i g v h1 h2 => ?_)]
    rw [List.getElem?_set] at h2
    split at h2
    · rename_i he
      subst he
      simp [ha] at h2
      subst h2
      obtain rfl : f = g := by rw [hf] at h1; injection h1
      rw [fits_nil f.t hr, h]
    · exact hfit i g v h1 h2
  · rw [check_at hc (by simpa using hl) hf (v := V.nil) (by simp [ha]) (by rw [fits_nil f.t hr, h]) (fun i g v hi h1 h2 => ?_)]
    · exact ⟨rfl, rfl⟩
    · rw [List.getElem?_set, if_neg (by omega)] at h2
      exact hfit i g v h1 h2
theorem other_res {c : Cls} {vs : List V} (hc : rightClass c = true) (hl : vs.length = c.fs.length) (hfit : ∀ (i : Nat) f v, c.fs[i]? = some f → vs[i]? = some v → fitsV v f.t = true) {a b : Nat} {f g : Fld} {v : V} (hf : c.fs[a]? = some f) (hg : c.fs[b]? = some g) (hv : vs[b]? = some v) :
    ∃ p q : Int, checkRes c (vs.set a v) = .tuple #[.int .i64 p, .int .i64 q] ∧ Hid (f.t = g.t → q = 0) := by
  have ha : a < vs.length := by have := (List.getElem?_eq_some_iff.1 hf).1; omega
  refine ⟨_, _, rfl, fun h => ?_⟩
  rw [check_ok hc (by simpa using hl) (fun i u x h1 h2 => ?_)]
  rw [List.getElem?_set] at h2
  split at h2
  · rename_i he
    subst he
    simp [ha] at h2
    subst h2
    obtain rfl : f = u := by rw [hf] at h1; injection h1
    rw [h]
    exact hfit b g v hg hv
  · exact hfit i u x h1 h2
set_option maxRecDepth 10000 in
theorem ClassFits_any (x : Raw) (cx : Value) (l : List Int) (cl : Value) (i_ k_ : Int) (a0 a1 : Addr) (w : World) (hx0 : -9223372036854775808 ≤ x.n) (hx1 : x.n ≤ 9223372036854775807)
    (hX : IsRaw w x.fs cx) (hI : IsR IR (fun _ => True) w l cl) (hlb : ∀ x ∈ l, -9223372036854775808 ≤ x ∧ x ≤ 9223372036854775807) (hi0 : 0 ≤ i_) (hi1 : i_ ≤ 255) (hk0 : 0 ≤ k_) (hk1 : k_ ≤ 255) (hG : Glob w a0 a1) :
    Calls Tryd.prog 6 #[.agg #[.int .i64 x.n, cx], cl, .int .u8 i_, .int .u8 k_] w fun e w' => e = .returned (.bool true) ∧ Below w.heap.size w w' := by
  obtain ⟨px, kx, rfl, hkx, hmx⟩ := hX.form
  obtain ⟨pl, kl, rfl, hkl, hml⟩ := hI.form
  have HX := Lib.hid hX
  have HI := Lib.hid hI
  have HG := Lib.hid hG
  have HLB := Lib.hid hlb
  have hB := Below.refl w.heap.size w
  clear hX hG hI hlb
  go_enter Tryd.func6, Tryd.ntmps6
  go_wp2_with fail
  have hBa : Below (w).heap.size (w) ((w).alloc (.cells #[.int .i64 x.n, .slice px x.fs.length kx] 24)) := (Below.refl _ _).alloc (Nat.le_refl _) _
  have NX := World.alloc_heap_new (w) (.cells #[.int .i64 x.n, .slice px x.fs.length kx] 24)
  replace NX := Lib.hid NX
  replace hB := hB.trans (hBa.mono hB.size)
  replace HX := Lib.hid (HX.out.ext hBa)
  replace HG := Lib.hid (HG.out.ext hBa)
  replace HI := Lib.hid (HI.out.ext hBa)
  clear hBa
  obtain ⟨U1, hV⟩ : ∃ V, (w).alloc (.cells #[.int .i64 x.n, .slice px x.fs.length kx] 24) = V := ⟨_, rfl⟩
  obtain ⟨B1, hV2⟩ : ∃ B, w.heap.size = B := ⟨_, rfl⟩
  rw [hV] at NX HX HG HI hB ⊢
  rw [hV2] at NX ⊢
  clear hV hV2
  refine (examples_any a0 a1 U1 HG.out).mono ?_
  rintro e U2 ⟨rfl, hbU2⟩
  replace hB := hB.trans (hbU2.mono hB.size)
  replace NX := Lib.hid ((hbU2.block _ (heap_lt NX.out)).trans NX.out)
  replace HX := Lib.hid (HX.out.ext hbU2)
  replace HG := Lib.hid (HG.out.ext hbU2)
  replace HI := Lib.hid (HI.out.ext hbU2)
  clear hbU2
  have d0 := blk_cells' NX.out 0
  have d1 := blk_cells' NX.out 1
  simp only [List.getElem?_toArray, List.getElem?_cons_zero, List.getElem?_cons_succ] at d0 d1
  go_wp2_with fail
  clear d0 d1
  refine (ClassOf_any x _ U2 hx0 hx1 HX.out).mono ?_
  rintro e U3 ⟨⟨va, rfl, hOa⟩, hbU3⟩
  obtain ⟨pa, ka, rfl⟩ := hOa.form
  have HA := Lib.hid (OwnR.any (R := FR) hOa.toR)
  clear hOa
  have HGA := Lib.hid (classOf_good x)
  replace hB := hB.trans (hbU3.mono hB.size)
  replace NX := Lib.hid ((hbU3.block _ (heap_lt NX.out)).trans NX.out)
  replace HX := Lib.hid (HX.out.ext hbU3)
  replace HG := Lib.hid (HG.out.ext hbU3)
  replace HI := Lib.hid (HI.out.ext hbU3)
  clear hbU3
  obtain ⟨A, hA⟩ : ∃ A, classOf x = A := ⟨_, rfl⟩
  rw [hA] at HA HGA ⊢
  clear hA
  go_wp2_with fail
  have lB3_NX := heap_lt NX.out
  have hBa : Below (U3).heap.size (U3) ((U3).alloc (.cells #[.string (str A.n), .slice pa A.fs.length ka] 27)) := (Below.refl _ _).alloc (Nat.le_refl _) _
  have NA := World.alloc_heap_new (U3) (.cells #[.string (str A.n), .slice pa A.fs.length ka] 27)
  replace NA := Lib.hid NA
  replace hB := hB.trans (hBa.mono hB.size)
  replace NX := Lib.hid ((hBa.block _ (heap_lt NX.out)).trans NX.out)
  replace HX := Lib.hid (HX.out.ext hBa)
  replace HG := Lib.hid (HG.out.ext hBa)
  replace HI := Lib.hid (HI.out.ext hBa)
  replace HA := Lib.hid (HA.out.ext hBa)
  clear hBa
  obtain ⟨U4, hV⟩ : ∃ V, (U3).alloc (.cells #[.string (str A.n), .slice pa A.fs.length ka] 27) = V := ⟨_, rfl⟩
  obtain ⟨B3, hV2⟩ : ∃ B, U3.heap.size = B := ⟨_, rfl⟩
  rw [hV] at NX NA HX HG HI HA hB ⊢
  rw [hV2] at NA lB3_NX ⊢
  clear hV hV2
  have HRF : Hid (∀ f ∈ A.fs, rightField f = true) := fun f hf => (HGA.out.fs f hf).1
  have hlen6 := HGA.out.len
  have hnm : A.n.length ≤ 9223372036854775807 := by have := HGA.out.nm.2; omega
  refine (ValsOf_any A.n A.fs _ l _ 4 U4 (by omega) HRF.out HA.out.toF HI.out (by omega) (by omega) HLB.out).mono ?_
  rintro e U5 ⟨⟨pv, kv, L, rfl, hL, hOv, hsv⟩, hbU5⟩
  have HV : Hid (IsV U5 L (.slice pv L.length kv)) := ⟨hOv.any, fun y hy => (hsv y hy).weaken fun _ _ => trivial⟩
  have HL := Lib.hid hL
  clear hOv hsv hL
  replace hB := hB.trans (hbU5.mono hB.size)
  replace NX := Lib.hid ((hbU5.block _ (heap_lt NX.out)).trans NX.out)
  replace NA := Lib.hid ((hbU5.block _ (heap_lt NA.out)).trans NA.out)
  replace HX := Lib.hid (HX.out.ext hbU5)
  replace HG := Lib.hid (HG.out.ext hbU5)
  replace HI := Lib.hid (HI.out.ext hbU5)
  replace HA := Lib.hid (HA.out.ext hbU5)
  clear hbU5
  have HCK : Hid (checkRes A (mkVals A.fs l 4) = .tuple #[.int .i64 0, .int .i64 0]) := by
    show _ = _
    rw [checkRes, check_ok HGA.out.right (by simp [mkVals]) (fun i f v h1 h2 => mkVals_fits HRF.out (by omega) i f v h1 h2)]
  have HVT : Hid (VTextsOk (mkVals A.fs l 4)) := vtexts_of (mkVals_texts HRF.out (by omega))
  have HLV : Hid (IsL (fun _ => True) U5 (mkVals A.fs l 4) (.slice pv L.length kv)) := by
    have := HV.out.toL
    rw [HL.out] at this
    exact this
  have d0 := blk_cells' NA.out 0
  have d1 := blk_cells' NA.out 1
  simp only [List.getElem?_toArray, List.getElem?_cons_zero, List.getElem?_cons_succ] at d0 d1
  go_wp2_with fail
  clear d0 d1
  refine (Check_any A.n A.fs (mkVals A.fs l 4) _ _ a0 a1 U5 hnm HGA.out.texts HVT.out HA.out.toF HLV.out HG.out).mono ?_
  rintro e U6 ⟨rfl, hbU6⟩
  replace hB := hB.trans (hbU6.mono hB.size)
  replace NX := Lib.hid ((hbU6.block _ (heap_lt NX.out)).trans NX.out)
  replace NA := Lib.hid ((hbU6.block _ (heap_lt NA.out)).trans NA.out)
  replace HX := Lib.hid (HX.out.ext hbU6)
  replace HG := Lib.hid (HG.out.ext hbU6)
  replace HI := Lib.hid (HI.out.ext hbU6)
  replace HA := Lib.hid (HA.out.ext hbU6)
  replace HV := Lib.hid (HV.out.ext hbU6)
  clear hbU6
  rw [HCK.out]
  clear HLV
  have d0 := blk_cells' NA.out 0
  have d1 := blk_cells' NA.out 1
  simp only [List.getElem?_toArray, List.getElem?_cons_zero, List.getElem?_cons_succ] at d0 d1
  by_cases hz : A.fs.length = 0
  · have hz' : ((A.fs.length : Int) == 0) = true := by simp; exact List.eq_nil_of_length_eq_zero hz
    clear hz
    go_wp2_with fail
    go_ret
    exact ⟨rfl, hB⟩
  · have hz' : ((A.fs.length : Int) == 0) = false := by rw [beq_eq_false_iff_ne]; omega
    have hpos : 0 < A.fs.length := by omega
    clear hz
    obtain ⟨a, ha⟩ : ∃ k : Nat, i_ % (A.fs.length : Int) = k := ⟨(i_ % (A.fs.length : Int)).toNat, by have := Int.emod_nonneg i_ (show (A.fs.length : Int) ≠ 0 by omega); omega⟩
    have hal : a < A.fs.length := by have := Int.emod_lt_of_pos i_ (show (0 : Int) < A.fs.length by omega); omega
    obtain ⟨b, hb⟩ : ∃ k : Nat, k_ % (A.fs.length : Int) = k := ⟨(k_ % (A.fs.length : Int)).toNat, by have := Int.emod_nonneg k_ (show (A.fs.length : Int) ≠ 0 by omega); omega⟩
    have hbl : b < A.fs.length := by have := Int.emod_lt_of_pos k_ (show (0 : Int) < A.fs.length by omega); omega
    go_wp2_with fail
    rw [ha, hb]
    clear d0 d1 ha hb
    obtain ⟨bA, oA, rfl, _, hbA, hcells⟩ := IsR.at HA.out hpos
    have HCE := Lib.hid hcells
    clear hcells
    go_loopw [17, 18] (fun out j wr => ∃ (n : Nat) (Z : List VC) (p : Option Addr) (cap : Nat), n ≤ A.fs.length ∧ j = .int .i64 n ∧ out = .slice p Z.length cap ∧ Z.length ≤ n ∧ Hid (OwnR VR U6.heap.size wr (.slice p Z.length cap) Z) ∧ Hid (Z.map VC.v = (A.fs.take n).map (fun f => zeroV f.t)) ∧ Hid (∀ y ∈ Z, y.v.l = [] ∧ y.cap = 0) ∧ Below U6.heap.size U6 wr) (fun _ j _ => A.fs.length - (intOf j).toNat)
    case atStart => exact ⟨0, [], none, 0, Nat.zero_le _, rfl, rfl, by simp, OwnR.nil _ _, rfl, (fun y hy => by cases hy), Below.refl _ _⟩
    case round =>
      obtain ⟨n, Z, p, cap, hn, rfl, rfl, hzn, hO, HZ, HY, hbz⟩ := hrel
      by_cases hlt : n < A.fs.length
      · obtain ⟨f, hf⟩ : ∃ f, A.fs[n]? = some f := ⟨_, List.getElem?_eq_getElem hlt⟩
        have d0 := (hbz.cell (heap_lt NA.out)).trans (blk_cells' NA.out 0)
        have d1 := (hbz.cell (heap_lt NA.out)).trans (blk_cells' NA.out 1)
        simp only [List.getElem?_toArray, List.getElem?_cons_zero, List.getElem?_cons_succ] at d0 d1
        have e1 : wr.cell? ⟨bA, oA + n * 4 + 1, none⟩ = some (.int .i64 f.t.k) := (hbz.cell hbA).trans (HCE.out n f hf 1 _ rfl)
        have e2 : wr.cell? ⟨bA, oA + n * 4 + 2, none⟩ = some (.int .i64 f.t.o) := (hbz.cell hbA).trans (HCE.out n f hf 2 _ rfl)
        obtain ⟨z, hz⟩ : ∃ z, zeroV f.t = z := ⟨_, rfl⟩
        have hzl : Hid (z.l = []) := by show _ = _; rw [← hz]; unfold zeroV; split <;> rfl
        have HC : Hid (Calls Tryd.prog 25 #[.agg #[.int .i64 f.t.k, .int .i64 f.t.o]] wr fun e w' => e = .returned (.agg #[.int .i64 z.k, .int .i64 z.n, .string (str z.s), .slice none 0 0]) ∧ Below wr.heap.size wr w') := by
          have := Zero_any f.t wr
          rw [hz] at this
          exact this
        have HT : Hid ((A.fs.take (n + 1)).map (fun f => zeroV f.t) = (A.fs.take n).map (fun f => zeroV f.t) ++ [z]) := by
          show _ = _
          rw [List.take_add_one, hf]; simp [hz]
        have hcs : Hid ((#[.int .i64 z.k, .int .i64 z.n, .string (str z.s), .slice none 0 0] : Array Value).toList = VR.cells (VC.of z)) := by show _ = _; simp [VR, cellsV, VC.of, hzl.out]
        have hlen : Z.length + [VC.of z].length ≤ 1000000 := by simp; omega
        clear hz hf
        go_wp2_with fail
        refine HC.out.mono ?_
        rintro e W1 ⟨rfl, hb1⟩
        have hal1 : Below W1.heap.size W1 (W1.alloc (.cells #[.int .i64 z.k, .int .i64 z.n, .string (str z.s), .slice none 0 0] 31)) := (Below.refl _ _).alloc (Nat.le_refl _) _
        have hb2 := hb1.trans (hal1.mono hb1.size)
        have hb3 := hbz.trans (hb2.mono hbz.size)
        clear d0 d1 e1 e2
        go_wp2_with (at_builtin; refine wpList_appR (R := VR) rfl _ _ rfl (hO.out.ext hb2) (isR_one (VC.of z) (World.alloc_heap_new W1 _) hcs.out) rfl rfl hlen hb3.size ?_; intro v2 W2 hO2 hg2; obtain ⟨Z2, p2, k2, rfl, hZ2, hO2'⟩ := hO2.formL; clear hO2)
        have HZ2 : Hid (Z2.map VC.v = (A.fs.take (n + 1)).map (fun f => zeroV f.t)) := by
          show _ = _
          rw [hZ2.out, List.map_append, HZ.out, HT.out]; rfl
        have hzn2 : Z2.length ≤ n + 1 := by rw [hZ2.out]; simp; omega
        refine ⟨⟨n + 1, Z2, p2, k2, by omega, by go_num, rfl, hzn2, hO2', HZ2, ?_, hb3.grown hg2 hb3.size (fun j hj => hO.out.below j hj)⟩, by simp [intOf]; omega⟩
        · intro y hy
          rw [hZ2.out] at hy
          rcases List.mem_append.1 hy with hy | hy
          · exact HY.out y hy
          · obtain rfl := List.mem_singleton.1 hy
            exact ⟨hzl.out, rfl⟩
      · obtain rfl : n = A.fs.length := by omega
        have HZV : Hid (IsV wr Z (.slice p Z.length cap)) := ⟨hO.out.any, fun y hy => isL_empty (HY.out y hy).1 (by rw [(HY.out y hy).2]; exact Nat.zero_le _)⟩
        rw [List.take_length] at HZ
        replace hB := hB.trans (hbz.mono hB.size)
        replace NX := Lib.hid ((hbz.block _ (heap_lt NX.out)).trans NX.out)
        replace NA := Lib.hid ((hbz.block _ (heap_lt NA.out)).trans NA.out)
        replace HX := Lib.hid (HX.out.ext hbz)
        replace HG := Lib.hid (HG.out.ext hbz)
        replace HI := Lib.hid (HI.out.ext hbz)
        replace HA := Lib.hid (HA.out.ext hbz)
        replace HV := Lib.hid (HV.out.ext hbz)
        clear hbz
        clear HCE
        have HZT : Hid (VTextsOk (A.fs.map (fun f => zeroV f.t))) := vtexts_of (fun x hx => by
          obtain ⟨f, _, rfl⟩ := List.mem_map.1 hx
          unfold zeroV
          split <;> exact ⟨Nat.zero_le _, fun y hy => by cases hy⟩)
        have HZC : Hid (checkRes A (A.fs.map (fun f => zeroV f.t)) = .tuple #[.int .i64 0, .int .i64 0]) := by
          show _ = _
          rw [checkRes, check_ok HGA.out.right (by simp) (fun i f v h1 h2 => by
            rw [List.getElem?_map, h1] at h2
            obtain rfl : zeroV f.t = v := by simpa using h2
            have := HRF.out f (List.mem_of_getElem? h1)
            simp only [rightField, Bool.and_eq_true] at this
            exact fits_zero f.t this.1.2)]
        have HLZ : Hid (IsL (fun _ => True) wr (A.fs.map (fun f => zeroV f.t)) (.slice p Z.length cap)) := by
          have := HZV.out.toL
          rw [HZ.out] at this
          exact this
        have d0 := blk_cells' NA.out 0
        have d1 := blk_cells' NA.out 1
        simp only [List.getElem?_toArray, List.getElem?_cons_zero, List.getElem?_cons_succ] at d0 d1
        go_wp2_with fail
        clear d0 d1
        refine (Check_any A.n A.fs (A.fs.map (fun f => zeroV f.t)) _ _ a0 a1 wr hnm HGA.out.texts HZT.out HA.out.toF HLZ.out HG.out).mono ?_
        rintro e U7 ⟨rfl, hbU7⟩
        replace hB := hB.trans (hbU7.mono hB.size)
        replace NX := Lib.hid ((hbU7.block _ (heap_lt NX.out)).trans NX.out)
        replace NA := Lib.hid ((hbU7.block _ (heap_lt NA.out)).trans NA.out)
        replace HX := Lib.hid (HX.out.ext hbU7)
        replace HG := Lib.hid (HG.out.ext hbU7)
        replace HI := Lib.hid (HI.out.ext hbU7)
        replace HA := Lib.hid (HA.out.ext hbU7)
        replace HV := Lib.hid (HV.out.ext hbU7)
        replace HZV := Lib.hid (HZV.out.ext hbU7)
        clear hbU7
        rw [HZC.out]
        clear HLZ HZC HZT
        clear HZV HZ HY hO
        have hLl : L.length = A.fs.length := by have := congrArg List.length HL.out; simpa [mkVals] using this
        have haL : a < L.length := by omega
        have hbL : b < L.length := by omega
        have hL6 : L.length ≤ 6 := by omega
        have HLl := Lib.hid hLl
        clear hLl
        obtain ⟨y, hy⟩ : ∃ y, L[a]? = some y := ⟨_, List.getElem?_eq_getElem haL⟩
        have HYA := Lib.hid hy
        clear hy
        have hlenL : ([] : List VC).length + L.length ≤ 1000000 := by simp; omega
        go_upto_region 20 with (at_builtin; refine wpList_appR (R := VR) rfl _ _ rfl (OwnR.nil U7.heap.size _) HV.out.1 rfl rfl hlenL (Nat.le_refl _) ?_; intro v1 W1 hO1 hg1; obtain ⟨L5, p1, k5, rfl, hL5, hO1'⟩ := hO1.formL; clear hO1; replace hL5 : Hid (L5 = L) := hL5.out; have hpos5 : 0 < L5.length := (by rw [hL5.out]; omega); obtain ⟨gN, rfl, hgN, hgNl⟩ := hO1'.out.at hpos5; have hy5 : Hid (L5[a]? = some y) := (by show _ = _; rw [hL5.out]; exact HYA.out); have haL5 : a < L5.length := (by rw [hL5.out]; exact haL); have hL56 : L5.length ≤ 6 := (by rw [hL5.out]; exact hL6); have z0 : W1.cell? ⟨gN, a * 4, none⟩ = some (.int .i64 y.v.k) := hO1'.out.cell hy5.out (j := 0) rfl; have z1 : W1.cell? ⟨gN, a * 4 + 1, none⟩ = some (.int .i64 y.v.n) := hO1'.out.cell hy5.out (j := 1) rfl; have z2 : W1.cell? ⟨gN, a * 4 + 2, none⟩ = some (.string (str y.v.s)) := hO1'.out.cell hy5.out (j := 2) rfl; have z3 : W1.cell? ⟨gN, a * 4 + 3, none⟩ = some (.slice y.p y.v.l.length y.cap) := hO1'.out.cell hy5.out (j := 3) rfl; have zf0 := hO1'.out.frozen (a * 4); have zf1 := hO1'.out.frozen (a * 4 + 1); have zf2 := hO1'.out.frozen (a * 4 + 2); have zf3 := hO1'.out.frozen (a * 4 + 3))
        clear z0 z1 z2 z3 zf0 zf1 zf2 zf3
        have hst : Below U7.heap.size U7 ((((W1.setCell ⟨gN, a * 4, none⟩ (.int .i64 0)).setCell ⟨gN, a * 4 + 1, none⟩ (.int .i64 0)).setCell ⟨gN, a * 4 + 2, none⟩ (.string ⟨#[]⟩)).setCell ⟨gN, a * 4 + 3, none⟩ (.slice none 0 0)) := (((((Below.refl _ _).grown hg1 (Nat.le_refl _) (fun k h => by cases h)).setCell (p := ⟨gN, a * 4, none⟩) hgN _).setCell (p := ⟨gN, a * 4 + 1, none⟩) hgN _).setCell (p := ⟨gN, a * 4 + 2, none⟩) hgN _).setCell (p := ⟨gN, a * 4 + 3, none⟩) hgN _
        have hON : OwnR VR U7.heap.size ((((W1.setCell ⟨gN, a * 4, none⟩ (.int .i64 0)).setCell ⟨gN, a * 4 + 1, none⟩ (.int .i64 0)).setCell ⟨gN, a * 4 + 2, none⟩ (.string ⟨#[]⟩)).setCell ⟨gN, a * 4 + 3, none⟩ (.slice none 0 0)) (.slice (some ⟨gN, 0, none⟩) L5.length k5) (L5.set a (VC.of V.nil)) := put_val hO1'.out hy5.out (VC.of V.nil)
        have HN : Hid (IsV ((((W1.setCell ⟨gN, a * 4, none⟩ (.int .i64 0)).setCell ⟨gN, a * 4 + 1, none⟩ (.int .i64 0)).setCell ⟨gN, a * 4 + 2, none⟩ (.string ⟨#[]⟩)).setCell ⟨gN, a * 4 + 3, none⟩ (.slice none 0 0)) (L5.set a (VC.of V.nil)) (.slice (some ⟨gN, 0, none⟩) L5.length k5)) := ⟨hON.any, fun q hq => by
          rcases mem_setV hq with rfl | hq
          · exact IsL.none_
          · rw [hL5.out] at hq
            exact (HV.out.2 q hq).ext hst⟩
        clear hON hO1' hg1
        have lB4_NX := heap_lt NX.out
        have lB4_NA := heap_lt NA.out
        replace hB := hB.trans (hst.mono hB.size)
        replace NX := Lib.hid ((hst.block _ (heap_lt NX.out)).trans NX.out)
        replace NA := Lib.hid ((hst.block _ (heap_lt NA.out)).trans NA.out)
        replace HX := Lib.hid (HX.out.ext hst)
        replace HG := Lib.hid (HG.out.ext hst)
        replace HI := Lib.hid (HI.out.ext hst)
        replace HA := Lib.hid (HA.out.ext hst)
        replace HV := Lib.hid (HV.out.ext hst)
        obtain ⟨U8, hV⟩ : ∃ V, (((W1.setCell ⟨gN, a * 4, none⟩ (.int .i64 0)).setCell ⟨gN, a * 4 + 1, none⟩ (.int .i64 0)).setCell ⟨gN, a * 4 + 2, none⟩ (.string ⟨#[]⟩)).setCell ⟨gN, a * 4 + 3, none⟩ (.slice none 0 0) = V := ⟨_, rfl⟩
        obtain ⟨B4, hV2⟩ : ∃ B, U7.heap.size = B := ⟨_, rfl⟩
        rw [hV] at NX NA HX HG HI HA HV hB HN ⊢
        rw [hV2] at lB4_NX lB4_NA hgN
        try rw [hV2]
        clear hV hV2 hst
        obtain ⟨fa, hfa⟩ : ∃ f, A.fs[a]? = some f := ⟨_, List.getElem?_eq_getElem hal⟩
        have hra : rightType fa.t = true := by
          have := HRF.out fa (List.mem_of_getElem? hfa)
          simp only [rightField, Bool.and_eq_true] at this
          exact this.1.2
        obtain ⟨np, nq, hres, HN1, HN2⟩ := nil_res HGA.out.right (vs := mkVals A.fs l 4) (by simp [mkVals]) (fun i f v h1 h2 => mkVals_fits HRF.out (by omega) i f v h1 h2) hfa hra
        have HRES := Lib.hid hres
        have HFA := Lib.hid hfa
        clear hres hfa hra
        have HLN : Hid (IsL (fun _ => True) U8 ((mkVals A.fs l 4).set a V.nil) (.slice (some ⟨gN, 0, none⟩) L5.length k5)) := by
          have := HN.out.toL
          rw [set_map, hL5.out, HL.out] at this
          rw [hL5.out]
          exact this
        have HNT : Hid (VTextsOk ((mkVals A.fs l 4).set a V.nil)) := texts_setV HVT.out a ⟨by unfold TextsOk; decide, fun y hy => by cases hy⟩
        have d0 := blk_cells' NA.out 0
        have d1 := blk_cells' NA.out 1
        simp only [List.getElem?_toArray, List.getElem?_cons_zero, List.getElem?_cons_succ] at d0 d1
        go_wp2_with fail
        clear d0 d1
        refine (Check_any A.n A.fs ((mkVals A.fs l 4).set a V.nil) _ _ a0 a1 U8 hnm HGA.out.texts HNT.out HA.out.toF HLN.out HG.out).mono ?_
        rintro e U9 ⟨rfl, hbU9⟩
        replace hB := hB.trans (hbU9.mono hB.size)
        replace NX := Lib.hid ((hbU9.block _ (heap_lt NX.out)).trans NX.out)
        replace NA := Lib.hid ((hbU9.block _ (heap_lt NA.out)).trans NA.out)
        replace HX := Lib.hid (HX.out.ext hbU9)
        replace HG := Lib.hid (HG.out.ext hbU9)
        replace HI := Lib.hid (HI.out.ext hbU9)
        replace HA := Lib.hid (HA.out.ext hbU9)
        replace HV := Lib.hid (HV.out.ext hbU9)
        clear hbU9
        rw [HRES.out]
        clear HLN HNT HN
        go_upto_region 21 with fail
        have d0 := blk_cells' NA.out 0
        have d1 := blk_cells' NA.out 1
        simp only [List.getElem?_toArray, List.getElem?_cons_zero, List.getElem?_cons_succ] at d0 d1
        have e1 : U9.cell? ⟨bA, oA + a * 4 + 1, none⟩ = some (.int .i64 fa.t.k) := HA.out.cell HFA.out (j := 1) rfl
        go_cut [24] (fun s24 wx => s24 = .bool (fa.t.k == 3 || fa.t.k == 4) ∧ U9 = wx)
        case first =>
          by_cases h3 : fa.t.k = 3
          · have b3 : (fa.t.k == 3) = true := by simp [h3]
            clear h3
            go_wp2_with fail
            go_meet
            exact ⟨by rw [b3]; rfl, rfl⟩
          · have b3 : (fa.t.k == 3) = false := by simp [h3]
            clear h3
            go_wp2_with fail
            go_meet
            exact ⟨by rw [b3]; rfl, rfl⟩
        case rest =>
          obtain ⟨rfl, hwx⟩ := hcut
          subst hwx
          clear d0 d1 e1
          obtain ⟨yb, hyb⟩ : ∃ y, L[b]? = some y := ⟨_, List.getElem?_eq_getElem hbL⟩
          have HYB := Lib.hid hyb
          clear hyb
          obtain ⟨bv, ov, rfl, _, hbv, hcv⟩ := IsR.at HV.out.1 (by omega)
          have HCV := Lib.hid hcv
          clear hcv
          go_upto_region 24 with (at_builtin; refine wpList_appR (R := VR) rfl _ _ rfl (OwnR.nil U9.heap.size _) HV.out.1 rfl rfl hlenL (Nat.le_refl _) ?_; intro v1 W1 hO1 hg1; obtain ⟨L6, p1, k6, rfl, hL7, hO1'⟩ := hO1.formL; clear hO1; replace hL7 : Hid (L6 = L) := hL7.out; have hpos6 : 0 < L6.length := (by rw [hL7.out]; omega); obtain ⟨gM, rfl, hgM, hgMl⟩ := hO1'.out.at hpos6; have hy6 : Hid (L6[a]? = some y) := (by show _ = _; rw [hL7.out]; exact HYA.out); have haL6 : a < L6.length := (by rw [hL7.out]; exact haL); have hL66 : L6.length ≤ 6 := (by rw [hL7.out]; exact hL6); have hgr : Below U9.heap.size U9 W1 := (Below.refl _ _).grown hg1 (Nat.le_refl _) (fun k h => by cases h); have z0 : W1.cell? ⟨gM, a * 4, none⟩ = some (.int .i64 y.v.k) := hO1'.out.cell hy6.out (j := 0) rfl; have z1 : W1.cell? ⟨gM, a * 4 + 1, none⟩ = some (.int .i64 y.v.n) := hO1'.out.cell hy6.out (j := 1) rfl; have z2 : W1.cell? ⟨gM, a * 4 + 2, none⟩ = some (.string (str y.v.s)) := hO1'.out.cell hy6.out (j := 2) rfl; have z3 : W1.cell? ⟨gM, a * 4 + 3, none⟩ = some (.slice y.p y.v.l.length y.cap) := hO1'.out.cell hy6.out (j := 3) rfl; have zf0 := hO1'.out.frozen (a * 4); have zf1 := hO1'.out.frozen (a * 4 + 1); have zf2 := hO1'.out.frozen (a * 4 + 2); have zf3 := hO1'.out.frozen (a * 4 + 3); have y0 : W1.cell? ⟨bv, ov + b * 4, none⟩ = some (.int .i64 yb.v.k) := (hgr.cell hbv).trans (HCV.out b yb HYB.out 0 _ rfl); have y1 : W1.cell? ⟨bv, ov + b * 4 + 1, none⟩ = some (.int .i64 yb.v.n) := (hgr.cell hbv).trans (HCV.out b yb HYB.out 1 _ rfl); have y2 : W1.cell? ⟨bv, ov + b * 4 + 2, none⟩ = some (.string (str yb.v.s)) := (hgr.cell hbv).trans (HCV.out b yb HYB.out 2 _ rfl); have y3 : W1.cell? ⟨bv, ov + b * 4 + 3, none⟩ = some (.slice yb.p yb.v.l.length yb.cap) := (hgr.cell hbv).trans (HCV.out b yb HYB.out 3 _ rfl))
          clear z0 z1 z2 z3 zf0 zf1 zf2 zf3 y0 y1 y2 y3 hgr
          have hst : Below U9.heap.size U9 ((((W1.setCell ⟨gM, a * 4, none⟩ (.int .i64 yb.v.k)).setCell ⟨gM, a * 4 + 1, none⟩ (.int .i64 yb.v.n)).setCell ⟨gM, a * 4 + 2, none⟩ (.string (str yb.v.s))).setCell ⟨gM, a * 4 + 3, none⟩ (.slice yb.p yb.v.l.length yb.cap)) := (((((Below.refl _ _).grown hg1 (Nat.le_refl _) (fun k h => by cases h)).setCell (p := ⟨gM, a * 4, none⟩) hgM _).setCell (p := ⟨gM, a * 4 + 1, none⟩) hgM _).setCell (p := ⟨gM, a * 4 + 2, none⟩) hgM _).setCell (p := ⟨gM, a * 4 + 3, none⟩) hgM _
          have hOM : OwnR VR U9.heap.size ((((W1.setCell ⟨gM, a * 4, none⟩ (.int .i64 yb.v.k)).setCell ⟨gM, a * 4 + 1, none⟩ (.int .i64 yb.v.n)).setCell ⟨gM, a * 4 + 2, none⟩ (.string (str yb.v.s))).setCell ⟨gM, a * 4 + 3, none⟩ (.slice yb.p yb.v.l.length yb.cap)) (.slice (some ⟨gM, 0, none⟩) L6.length k6) (L6.set a yb) := put_val hO1'.out hy6.out yb
          have HM : Hid (IsV ((((W1.setCell ⟨gM, a * 4, none⟩ (.int .i64 yb.v.k)).setCell ⟨gM, a * 4 + 1, none⟩ (.int .i64 yb.v.n)).setCell ⟨gM, a * 4 + 2, none⟩ (.string (str yb.v.s))).setCell ⟨gM, a * 4 + 3, none⟩ (.slice yb.p yb.v.l.length yb.cap)) (L6.set a yb) (.slice (some ⟨gM, 0, none⟩) L6.length k6)) := ⟨hOM.any, fun q hq => by
            rcases mem_setV hq with rfl | hq
            · exact (HV.out.2 _ (List.mem_of_getElem? HYB.out)).ext hst
            · rw [hL7.out] at hq
              exact (HV.out.2 q hq).ext hst⟩
          clear hOM hO1' hg1 HCV
          have lB5_NX := heap_lt NX.out
          have lB5_NA := heap_lt NA.out
          replace hB := hB.trans (hst.mono hB.size)
          replace NX := Lib.hid ((hst.block _ (heap_lt NX.out)).trans NX.out)
          replace NA := Lib.hid ((hst.block _ (heap_lt NA.out)).trans NA.out)
          replace HX := Lib.hid (HX.out.ext hst)
          replace HG := Lib.hid (HG.out.ext hst)
          replace HI := Lib.hid (HI.out.ext hst)
          replace HA := Lib.hid (HA.out.ext hst)
          replace HV := Lib.hid (HV.out.ext hst)
          obtain ⟨U10, hV⟩ : ∃ V, (((W1.setCell ⟨gM, a * 4, none⟩ (.int .i64 yb.v.k)).setCell ⟨gM, a * 4 + 1, none⟩ (.int .i64 yb.v.n)).setCell ⟨gM, a * 4 + 2, none⟩ (.string (str yb.v.s))).setCell ⟨gM, a * 4 + 3, none⟩ (.slice yb.p yb.v.l.length yb.cap) = V := ⟨_, rfl⟩
          obtain ⟨B5, hV2⟩ : ∃ B, U9.heap.size = B := ⟨_, rfl⟩
          rw [hV] at NX NA HX HG HI HA HV hB HM ⊢
          rw [hV2] at lB5_NX lB5_NA hgM hbv
          try rw [hV2]
          clear hV hV2 hst
          obtain ⟨fb, hfb⟩ : ∃ f, A.fs[b]? = some f := ⟨_, List.getElem?_eq_getElem hbl⟩
          have hvb : (mkVals A.fs l 4)[b]? = some yb.v := by rw [← HL.out, List.getElem?_map, HYB.out]; rfl
          obtain ⟨op, oq, hores, HO2⟩ := other_res HGA.out.right (vs := mkVals A.fs l 4) (by simp [mkVals]) (fun i f v h1 h2 => mkVals_fits HRF.out (by omega) i f v h1 h2) HFA.out hfb hvb
          have HORES := Lib.hid hores
          have HFB := Lib.hid hfb
          have HMT : Hid (VTextsOk ((mkVals A.fs l 4).set a yb.v)) := texts_setV HVT.out a (HVT.out _ (List.mem_of_getElem? hvb))
          clear hores hfb hvb
          have HLM : Hid (IsL (fun _ => True) U10 ((mkVals A.fs l 4).set a yb.v) (.slice (some ⟨gM, 0, none⟩) L6.length k6)) := by
            have := HM.out.toL
            rw [set_map, hL7.out, HL.out] at this
            rw [hL7.out]
            exact this
          have d0 := blk_cells' NA.out 0
          have d1 := blk_cells' NA.out 1
          simp only [List.getElem?_toArray, List.getElem?_cons_zero, List.getElem?_cons_succ] at d0 d1
          go_wp2_with fail
          clear d0 d1
          refine (Check_any A.n A.fs ((mkVals A.fs l 4).set a yb.v) _ _ a0 a1 U10 hnm HGA.out.texts HMT.out HA.out.toF HLM.out HG.out).mono ?_
          rintro e U11 ⟨rfl, hbU11⟩
          replace hB := hB.trans (hbU11.mono hB.size)
          replace NX := Lib.hid ((hbU11.block _ (heap_lt NX.out)).trans NX.out)
          replace NA := Lib.hid ((hbU11.block _ (heap_lt NA.out)).trans NA.out)
          replace HX := Lib.hid (HX.out.ext hbU11)
          replace HG := Lib.hid (HG.out.ext hbU11)
          replace HI := Lib.hid (HI.out.ext hbU11)
          replace HA := Lib.hid (HA.out.ext hbU11)
          replace HV := Lib.hid (HV.out.ext hbU11)
          clear hbU11
          rw [HORES.out]
          clear HLM HMT HM
          have d0 := blk_cells' NA.out 0
          have d1 := blk_cells' NA.out 1
          simp only [List.getElem?_toArray, List.getElem?_cons_zero, List.getElem?_cons_succ] at d0 d1
          have lt_NX := heap_lt NX.out
          have lt_NA := heap_lt NA.out
          have hlenF : ([] : List Fld).length + A.fs.length ≤ 1000000 := by simp; omega
          have hal2 : Below U11.heap.size U11 (U11.alloc (.cells #[.string ⟨#[111, 116, 104, 101, 114]⟩, .slice (some ⟨bA, oA, none⟩) A.fs.length ka] 27)) := (Below.refl _ _).alloc (Nat.le_refl _) _
          have NR := Lib.hid (World.alloc_heap_new U11 (.cells #[.string ⟨#[111, 116, 104, 101, 114]⟩, .slice (some ⟨bA, oA, none⟩) A.fs.length ka] 27))
          have HAR := Lib.hid (HA.out.ext hal2)
          go_upto_region 29 with (at_builtin; refine wpList_appR (R := FR) rfl _ _ rfl (OwnR.nil (U11.heap.size + 1) _) HAR.out rfl rfl hlenF (by simp) ?_; intro v1 W1 hO1 hg1; obtain ⟨L8, p1, k8, rfl, hL8, hO1'⟩ := hO1.formL; clear hO1; replace hL8 : Hid (L8 = A.fs) := hL8.out; have hpos8 : 0 < L8.length := (by rw [hL8.out]; exact hpos); obtain ⟨gR, rfl, hgR, hgRl⟩ := hO1'.out.at hpos8; have hf8 : Hid (L8[a]? = some fa) := (by show _ = _; rw [hL8.out]; exact HFA.out); have haL8 : a < L8.length := (by rw [hL8.out]; exact hal); have hL86 : L8.length ≤ 6 := (by rw [hL8.out]; exact hlen6); have q8 := (hg1.block _ (heap_lt NR.out) (fun h => by cases h)).trans NR.out; have e0 := blk_cells' q8 0; have e1 := blk_cells' q8 1; have f1 := blk_frozen q8 1; simp only [List.getElem?_toArray, List.getElem?_cons_zero, List.getElem?_cons_succ] at e0 e1; have Q8 := Lib.hid q8; clear q8; have z0 : W1.cell? ⟨gR, a * 4, none⟩ = some (.string (str fa.n)) := hO1'.out.cell hf8.out (j := 0) rfl; have zf0 := hO1'.out.frozen (a * 4); have hne : U11.heap.size ≠ gR := (by omega))
          clear d0 d1 e0 e1 f1 z0 zf0
          clear lt_NX lt_NA
          have hst : Below U11.heap.size U11 ((W1.setCell ⟨U11.heap.size, 1, none⟩ (.slice (some ⟨gR, 0, none⟩) L8.length k8)).setCell ⟨gR, a * 4, none⟩ (.string ⟨#[113, 117, 105, 116, 101, 95, 110, 101, 119]⟩)) := ((hal2.grown hg1 hal2.size (fun k h => by cases h)).setCell (Nat.le_refl _) _).setCell (p := ⟨gR, a * 4, none⟩) (by show U11.heap.size ≤ gR; omega) _
          replace NR := Lib.hid (keepSet (heap_setCell_same _ _ 1 _ _ (.slice (some ⟨gR, 0, none⟩) L8.length k8) Q8.out) gR (a * 4) (.string ⟨#[113, 117, 105, 116, 101, 95, 110, 101, 119]⟩) hne)
          have q1 := hO1'.out.set (C := U11.heap.size) (i := 1) (u := .slice (some ⟨gR, 0, none⟩) L8.length k8) (by intro h; have h' : U11.heap.size = gR := (by injection h); omega)
          have q2 := q1.put (i := a) (j := 0) (u := .string ⟨#[113, 117, 105, 116, 101, 95, 110, 101, 119]⟩) (y := ⟨quite, fa.t, fa.ix⟩) hf8.out (by decide) rfl rfl
          have HR : Hid (IsR FR (fun _ => True) ((W1.setCell ⟨U11.heap.size, 1, none⟩ (.slice (some ⟨gR, 0, none⟩) L8.length k8)).setCell ⟨gR, a * 4, none⟩ (.string ⟨#[113, 117, 105, 116, 101, 95, 110, 101, 119]⟩)) (L8.set a ⟨quite, fa.t, fa.ix⟩) (.slice (some ⟨gR, 0, none⟩) L8.length k8)) := q2.any
          clear q1 q2 hal2 HAR hg1 hO1' Q8 hne
          have lB6_NX := heap_lt NX.out
          have lB6_NA := heap_lt NA.out
          replace hB := hB.trans (hst.mono hB.size)
          replace NX := Lib.hid ((hst.block _ (heap_lt NX.out)).trans NX.out)
          replace NA := Lib.hid ((hst.block _ (heap_lt NA.out)).trans NA.out)
          replace HX := Lib.hid (HX.out.ext hst)
          replace HG := Lib.hid (HG.out.ext hst)
          replace HI := Lib.hid (HI.out.ext hst)
          replace HA := Lib.hid (HA.out.ext hst)
          replace HV := Lib.hid (HV.out.ext hst)
          obtain ⟨U12, hV⟩ : ∃ V, (W1.setCell ⟨U11.heap.size, 1, none⟩ (.slice (some ⟨gR, 0, none⟩) L8.length k8)).setCell ⟨gR, a * 4, none⟩ (.string ⟨#[113, 117, 105, 116, 101, 95, 110, 101, 119]⟩) = V := ⟨_, rfl⟩
          obtain ⟨B6, hV2⟩ : ∃ B, U11.heap.size = B := ⟨_, rfl⟩
          rw [hV] at NX NA HX HG HI HA HV hB NR HR ⊢
          rw [hV2] at lB6_NX lB6_NA NR hgR
          try rw [hV2]
          clear hV hV2 hst
          replace NR : Hid (U12.heap[B6]? = some (.cells #[.string (str other), .slice (some ⟨gR, 0, none⟩) L8.length k8] 27 (0, 0))) := NR.out
          have HRC : Hid (checkRes ⟨other, L8.set a ⟨quite, fa.t, fa.ix⟩⟩ (mkVals A.fs l 4) = .tuple #[.int .i64 0, .int .i64 0]) := by
            show _ = _
            rw [hL8.out, checkRes, check_ok (renamed_right A HGA.out HFA.out) (by simp [mkVals]) (fun i f v h1 h2 => by
              rw [set_get HFA.out] at h1
              split at h1
              · rename_i he
                subst he
                injection h1 with h1
                subst h1
                exact mkVals_fits HRF.out (by omega) _ fa v HFA.out h2
              · exact mkVals_fits HRF.out (by omega) i f v h1 h2)]
          have HRT : Hid (FTextsOk (L8.set a ⟨quite, fa.t, fa.ix⟩)) := by show FTextsOk _; rw [hL8.out]; exact texts_set HGA.out.texts _ (show quite.length ≤ _ by decide)
          have HLV : Hid (IsL (fun _ => True) U12 (mkVals A.fs l 4) (.slice (some ⟨bv, ov, none⟩) L.length kv)) := by
            have := HV.out.toL
            rw [HL.out] at this
            exact this
          obtain ⟨LR, hLR⟩ : ∃ q, L8.set a ⟨quite, fa.t, fa.ix⟩ = q := ⟨_, rfl⟩
          have hlR : LR.length = L8.length := by rw [← hLR]; simp
          rw [hLR] at HR HRC HRT
          rw [← hlR] at HR NR
          clear hLR hlR
          have d0 := blk_cells' NR.out 0
          have d1 := blk_cells' NR.out 1
          simp only [List.getElem?_toArray, List.getElem?_cons_zero, List.getElem?_cons_succ] at d0 d1
          go_wp2_with fail
          clear d0 d1
          refine (Check_any other LR (mkVals A.fs l 4) _ _ a0 a1 U12 (by decide) HRT.out HVT.out HR.out.toF HLV.out HG.out).mono ?_
          rintro e U13 ⟨rfl, hbU13⟩
          replace hB := hB.trans (hbU13.mono hB.size)
          replace NX := Lib.hid ((hbU13.block _ (heap_lt NX.out)).trans NX.out)
          replace NA := Lib.hid ((hbU13.block _ (heap_lt NA.out)).trans NA.out)
          replace NR := Lib.hid ((hbU13.block _ (heap_lt NR.out)).trans NR.out)
          replace HX := Lib.hid (HX.out.ext hbU13)
          replace HG := Lib.hid (HG.out.ext hbU13)
          replace HI := Lib.hid (HI.out.ext hbU13)
          replace HA := Lib.hid (HA.out.ext hbU13)
          replace HV := Lib.hid (HV.out.ext hbU13)
          replace HR := Lib.hid (HR.out.ext hbU13)
          clear hbU13
          rw [HRC.out]
          clear HLV
          have d0 := blk_cells' NA.out 0
          have d1 := blk_cells' NA.out 1
          simp only [List.getElem?_toArray, List.getElem?_cons_zero, List.getElem?_cons_succ] at d0 d1
          have u1 : U13.cell? ⟨bA, oA + a * 4 + 1, none⟩ = some (.int .i64 fa.t.k) := HA.out.cell HFA.out (j := 1) rfl
          have u2 : U13.cell? ⟨bA, oA + a * 4 + 2, none⟩ = some (.int .i64 fa.t.o) := HA.out.cell HFA.out (j := 2) rfl
          have t1 : U13.cell? ⟨bA, oA + b * 4 + 1, none⟩ = some (.int .i64 fb.t.k) := HA.out.cell HFB.out (j := 1) rfl
          have t2 : U13.cell? ⟨bA, oA + b * 4 + 2, none⟩ = some (.int .i64 fb.t.o) := HA.out.cell HFB.out (j := 2) rfl
          have hneq := neqT fa.t fb.t
          go_upto_region 30 with fail
          obtain ⟨rf, hrf⟩ : ∃ r, (fa.t.k == 3 || fa.t.k == 4) = r := ⟨_, rfl⟩
          rw [hrf] at HN1 HN2 ⊢
          clear hrf
          have HET : Hid (eqTy fa.t fb.t = true → oq = 0) := fun h => HO2.out (eqTy_eq h)
          obtain ⟨et, het⟩ : ∃ r, eqTy fa.t fb.t = r := ⟨_, rfl⟩
          rw [het] at HET hneq
          clear het HO2 HRES HORES
          cases rf
          · obtain ⟨hnp, hnq⟩ := HN2.out rfl
            subst hnp
            subst hnq
            clear HN1 HN2
            cases et
            · go_quiet (fail)
              go_wp2_with fail
              go_ret
              exact ⟨rfl, hB.trans ⟨rfl, rfl, rfl, Nat.le_refl _, fun _ _ => rfl⟩⟩
            · obtain rfl : oq = 0 := HET.out rfl
              go_quiet (fail)
              go_wp2_with fail
              go_ret
              exact ⟨rfl, hB.trans ⟨rfl, rfl, rfl, Nat.le_refl _, fun _ _ => rfl⟩⟩
          · obtain rfl : nq = 0 := HN1.out rfl
            clear HN1 HN2
            cases et
            · go_quiet (fail)
              go_wp2_with fail
              go_ret
              exact ⟨rfl, hB.trans ⟨rfl, rfl, rfl, Nat.le_refl _, fun _ _ => rfl⟩⟩
            · obtain rfl : oq = 0 := HET.out rfl
              go_quiet (fail)
              go_wp2_with fail
              go_ret
              exact ⟨rfl, hB.trans ⟨rfl, rfl, rfl, Nat.le_refl _, fun _ _ => rfl⟩⟩
end Go.Proofs.YtdlolkogifigpaaDoor
