/- Layer 4: class.Same, class.Check. -/
import Derived.Test.YtdlolkogifigpaaDoorRegIn
import Derived.Test.YtdlolkogifigpaaDoorClass2
namespace Go.Proofs.YtdlolkogifigpaaDoor
open Go Go.RowKit Go.Mor
set_option maxHeartbeats 1000000

theorem eqFlds_drop (l m : List Fld) (k : Nat) (f g : Fld) (h : l[k]? = some f) (h' : m[k]? = some g) : eqFlds (l.drop k) (m.drop k) = (eqFld f g && eqFlds (l.drop (k + 1)) (m.drop (k + 1))) := by
  obtain ⟨hk, rfl⟩ := List.getElem?_eq_some_iff.1 h
  obtain ⟨hk', rfl⟩ := List.getElem?_eq_some_iff.1 h'
  rw [List.drop_eq_getElem_cons hk, List.drop_eq_getElem_cons hk']
  rfl

theorem eqFlds_len : ∀ (l m : List Fld), l.length ≠ m.length → eqFlds l m = false
  | [], [], h => absurd rfl h
  | [], _ :: _, _ => rfl
  | _ :: _, [], _ => rfl
  | f :: r, g :: q, h => by simp only [eqFlds, eqFlds_len r q (by simpa using h), Bool.and_false]

set_option maxRecDepth 10000 in
theorem neqF (x y : Fld) (W : World) : (binOp .neq 53 (.agg #[.string (str x.n), .int .i64 x.t.k, .int .i64 x.t.o, .bool x.ix]) (.agg #[.string (str y.n), .int .i64 y.t.k, .int .i64 y.t.o, .bool y.ix])).run Tryd.prog W = .ok (.bool (!eqFld x y)) W := by
  go_simp
  unfold eqFld
  by_cases h1 : x.n = y.n <;> by_cases h2 : x.t.k = y.t.k <;> by_cases h3 : x.t.o = y.t.o <;> by_cases h4 : x.ix = y.ix <;> simp [h1, h2, h3, h4]
set_option maxRecDepth 10000 in
theorem equalF_any (l m : List Fld) (c d : Value) (w : World) (hL : IsF (fun _ => True) w l c) (hM : IsF (fun _ => True) w m d) :
    Calls Tryd.prog 50 #[c, d] w fun e w' => e = .returned (.bool (eqFlds l m)) ∧ Below w.heap.size w w' := by
  have hmix : Tryd.prog.follows .mixedOrders = true := by kernel_rfl
  obtain ⟨b, off, cap, p, rfl, hcap, hmax, hp, hc⟩ := hL
  obtain ⟨b', off', cap', p', rfl, hcap', hmax', hp', hc'⟩ := hM
  unfold maxLen at hmax hmax'
  by_cases hll : l.length = m.length
  · have hle : ((l.length : Int) != (m.length : Int)) = false := by simp; omega
    have HLL := Lib.hid hll
    have hlm : l.length ≤ m.length := by omega
    clear hll
    go_enter Tryd.func50, Tryd.ntmps50
    go_wp2_with fail
    go_loopw [13] (fun i wr => ∃ k : Nat, k ≤ l.length ∧ i = .int .i64 k ∧ Below w.heap.size w wr ∧ Hid (eqFlds (l.drop k) (m.drop k) = eqFlds l m)) (fun i _ => l.length - (intOf i).toNat)
    case atStart => exact ⟨0, Nat.zero_le _, rfl, Below.refl _ _, rfl⟩
    case round =>
      obtain ⟨k, hk, rfl, hb, ho⟩ := hrel
      by_cases hlt : k < l.length
      · have hlt' : k < m.length := by omega
        obtain ⟨x, hx⟩ : ∃ x, l[k]? = some x := ⟨_, List.getElem?_eq_getElem hlt⟩
        obtain ⟨y, hy⟩ : ∃ y, m[k]? = some y := ⟨_, List.getElem?_eq_getElem hlt'⟩
        obtain ⟨rfl, _⟩ := hp (by rintro rfl; simp at hlt)
        obtain ⟨rfl, _⟩ := hp' (by rintro rfl; simp at hlt')
        obtain ⟨h0, h1, h2, h3⟩ := hc k x hx
        obtain ⟨j0, j1, j2, j3⟩ := hc' k y hy
        have e0 := (hb.cell (cell_lt h0)).trans h0
        have e1 := (hb.cell (cell_lt h1)).trans h1
        have e2 := (hb.cell (cell_lt h2)).trans h2
        have e3 := (hb.cell (cell_lt h3)).trans h3
        have g0 := (hb.cell (cell_lt j0)).trans j0
        have g1 := (hb.cell (cell_lt j1)).trans j1
        have g2 := (hb.cell (cell_lt j2)).trans j2
        have g3 := (hb.cell (cell_lt j3)).trans j3
        have hneq := neqF x y
        have HST := Lib.hid (eqFlds_drop l m k x y hx hy)
        clear hx hy h0 h1 h2 h3 j0 j1 j2 j3 hc hc' hp hp'
        go_wp2_with fail
        refine wp_region_tail 8 hmix (by kernel_rfl) ?_; simp only [List.take_succ_cons, List.take_zero, List.drop_succ_cons, List.drop_zero]
        iterate 8 still_step
        refine wpStill_nil ?_
        have hbd := hb.drew
        go_wp2_with fail
        · refine bodyPost_ret (v := .bool false) (by simp [results, Tryd.results50, go_sem]) rfl ?_
          refine ⟨?_, hbd⟩
          have h1 := HST.out; have h2 := ho.out
          rw [← h2, h1]; simp_all
        · refine ⟨⟨k + 1, by omega, rfl, hbd, ?_⟩, ?_⟩
          · have h1 := HST.out; have h2 := ho.out
            rw [← h2, h1]; apply Lib.hid; simp_all
          · simp only [intOf]; omega
      · have hkl : k = l.length := by omega
        subst hkl
        have hlt' : ¬ ((l.length : Int) < l.length) := by omega
        go_wp2_with fail
        refine bodyPost_ret (v := .bool true) (by simp [results, Tryd.results50, go_sem]) rfl ?_
        refine ⟨?_, hb⟩
        have h2 := ho.out; have h3 := HLL.out
        rw [← h2, List.drop_eq_nil_of_le (Nat.le_refl _), List.drop_eq_nil_of_le (by omega)]; rfl
  · have hle : ((l.length : Int) != (m.length : Int)) = true := by simp; omega
    have hf : eqFlds l m = false := eqFlds_len l m hll
    rw [hf]
    clear hf
    go_enter Tryd.func50, Tryd.ntmps50
    go_wp2_with fail
    refine bodyPost_ret (v := .bool false) (by simp [results, Tryd.results50, go_sem]) rfl ?_
    exact ⟨rfl, Below.refl _ _⟩

set_option maxRecDepth 10000 in
theorem Same_any (a b : List UInt8) (l m : List Fld) (c d : Value) (w : World) (hL : IsF (fun _ => True) w l c) (hM : IsF (fun _ => True) w m d) :
    Calls Tryd.prog 21 #[.agg #[.string (str a), c], .agg #[.string (str b), d]] w fun e w' => e = .returned (.bool (sameClass ⟨a, l⟩ ⟨b, m⟩)) ∧ Below w.heap.size w w' := by
  obtain ⟨p, cap, rfl, hcap, hmax⟩ := hL.form
  obtain ⟨q, cap', rfl, hcap', hmax'⟩ := hM.form
  have hB2 : Below w.heap.size w ((w.alloc (.cells #[.string (str a), .slice p l.length cap] 27)).alloc (.cells #[.string (str b), .slice q m.length cap'] 27)) := ((Below.refl _ _).alloc (Nat.le_refl _) _).alloc (by simp) _
  have HE := Lib.hid (equalF_any l m _ _ _ (hL.ext hB2) (hM.ext hB2))
  clear hL hM
  by_cases hab : a = b
  · subst hab
    go_enter Tryd.func21, Tryd.ntmps21
    go_wp2_with fail
    refine HE.out.mono ?_
    rintro e w1 ⟨rfl, hb1⟩
    have hB3 := hB2.trans (hb1.mono (by simp; omega))
    go_wp2_with fail
    go_ret
    exact ⟨bret (by simp [sameClass]), hB3⟩
  · have hab2 : decide (a = b) = false := by simp [hab]
    go_enter Tryd.func21, Tryd.ntmps21
    go_wp2_with fail
    go_ret
    exact ⟨bret (by simp [sameClass, hab]), hB2⟩
end Go.Proofs.YtdlolkogifigpaaDoor
