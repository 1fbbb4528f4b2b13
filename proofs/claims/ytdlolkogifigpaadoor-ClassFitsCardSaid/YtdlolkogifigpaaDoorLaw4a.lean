/- Chapter 4's helpers: pick, the reference's Field and Same. -/
import Derived.Test.YtdlolkogifigpaaDoorClass3
import Derived.Test.YtdlolkogifigpaaDoorPCls
namespace Go.Proofs.YtdlolkogifigpaaDoor
open Go Go.RowKit Go.Mor
set_option maxHeartbeats 1000000

theorem pick_any (c n : Int) (w : World) (h0 : -9223372036854775808 ≤ c) (h1 : c ≤ 9223372036854775807) (hn : 0 < n) (hn1 : n ≤ 1000000) :
    Calls Tryd.prog 15 #[.int .i64 c, .int .i64 n] w fun e w' => e = .returned (.int .i64 (pick c n)) ∧ w' = w := by
  by_cases hc : c < 0
  · have hp : pick c n = -(c + 1) % n := by rw [pick, if_pos hc]
    have hp0 : (-(c + 1)).tmod n = -(c + 1) % n := Int.tmod_eq_emod_of_nonneg (by omega)
    rw [hp]
    go_enter Tryd.func15, Tryd.ntmps15
    go_wp2_with fail
    go_ret
    exact ⟨rfl, rfl⟩
  · have hp : pick c n = c % n := by rw [pick, if_neg hc]
    rw [hp]
    go_enter Tryd.func15, Tryd.ntmps15
    go_wp2_with fail
    go_ret
    exact ⟨rfl, rfl⟩

theorem fieldRes_at {l : List Fld} {name : List UInt8} {k : Nat} {x : Fld} (hx : l[k]? = some x) (h : x.n = name) (hno : ∀ (i : Nat) y, i < k → l[i]? = some y → (y.n == name) = false) : fieldRes l name = .tuple #[.int .i64 k, .bool true] := by
  have := firstAt_some (fun f : Fld => f.n == name) l k x hx (by simp [h]) hno
  rw [fieldRes, if_neg (by rw [fieldAt, this]; omega), fieldAt, this]
theorem fieldRes_no {l : List Fld} {name : List UInt8} (hno : ∀ (i : Nat) (y : Fld), l[i]? = some y → (y.n == name) = false) : fieldRes l name = .tuple #[.int .i64 0, .bool false] := by
  have := firstAt_none (fun f : Fld => f.n == name) l hno
  rw [fieldRes, if_pos (by rw [fieldAt, this]; omega)]

set_option maxRecDepth 10000 in
theorem refField_any (n : List UInt8) (l : List Fld) (c : Value) (name : List UInt8) (w : World) (hL : IsF (fun _ => True) w l c) :
    Calls Tryd.prog 23 #[.agg #[.string (str n), c], .string (str name)] w fun e w' => e = .returned (fieldRes l name) ∧ Below w.heap.size w w' := by
  obtain ⟨b, off, cap, p, rfl, hcap, hmax, hp, hc⟩ := hL
  unfold maxLen at hmax
  have hB1 : Below w.heap.size w (w.alloc (.cells #[.string (str n), .slice p l.length cap] 27)) := (Below.refl _ _).alloc (Nat.le_refl _) _
  have Q0 := Lib.hid (World.alloc_heap_new w (.cells #[.string (str n), .slice p l.length cap] 27))
  have HP := Lib.hid hp
  have HC := Lib.hid hc
  clear hp hc
  go_enter Tryd.func23, Tryd.ntmps23
  go_wp2_with fail
  obtain ⟨W, hW⟩ : ∃ W, w.alloc (.cells #[.string (str n), .slice p l.length cap] 27) = W := ⟨_, rfl⟩
  rw [hW] at hB1 Q0 ⊢
  clear hW
  obtain ⟨d0, d1⟩ := blk2 Q0.out
  go_loopw [6] (fun i wr => ∃ k : Nat, k ≤ l.length ∧ i = .int .i64 k ∧ wr = W ∧ Hid (∀ (i : Nat) y, i < k → l[i]? = some y → (y.n == name) = false)) (fun i _ => l.length - (intOf i).toNat)
  case atStart => exact ⟨0, Nat.zero_le _, rfl, rfl, fun i y h => absurd h (by omega)⟩
  case round =>
    obtain ⟨k, hk, rfl, rfl, hno⟩ := hrel
    by_cases hlt : k < l.length
    · obtain ⟨x, hx⟩ : ∃ x, l[k]? = some x := ⟨_, List.getElem?_eq_getElem hlt⟩
      obtain ⟨rfl, _⟩ := HP.out (by rintro rfl; simp at hlt)
      obtain ⟨h0, h1, h2, h3⟩ := HC.out k x hx
      have e0 := (hB1.cell (cell_lt h0)).trans h0
      have HX := Lib.hid hx
      clear hx h0 h1 h2 h3
      by_cases hxn : x.n = name
      · have hd : (x.n == name) = true := by simp [hxn]
        have HXN := Lib.hid hxn
        clear hxn
        go_wp2_with fail
        go_ret2
        exact ⟨by rw [fieldRes_at HX.out HXN.out hno.out]; rfl, hB1⟩
      · have hd : (x.n == name) = false := by simp [hxn]
        have HXN := Lib.hid hxn
        clear hxn
        go_wp2_with fail
        go_roundw
        case rel =>
          refine ⟨k + 1, by omega, by go_num, by trivial, fun i y hi hy => ?_⟩
          rcases Nat.lt_or_ge i k with h | h
          · exact hno i y h hy
          · obtain rfl : i = k := by omega
            have := hy.symm.trans HX.out
            injection this with this
            subst this
            simpa using HXN.out
        case measure => simp [intOf]; omega
    · go_wp2_with fail
      go_ret2
      refine ⟨by rw [fieldRes_no (fun i y hy => hno.out i y (by have := (List.getElem?_eq_some_iff.1 hy).1; omega) hy)]; rfl, hB1⟩

set_option maxRecDepth 10000 in
theorem refSame_any (a b : List UInt8) (l m : List Fld) (c d : Value) (w : World) (hL : IsF (fun _ => True) w l c) (hM : IsF (fun _ => True) w m d) :
    Calls Tryd.prog 39 #[.agg #[.string (str a), c], .agg #[.string (str b), d]] w fun e w' => e = .returned (.bool (sameClass ⟨a, l⟩ ⟨b, m⟩)) ∧ Below w.heap.size w w' := by
  have hmix : Tryd.prog.follows .mixedOrders = true := by kernel_rfl
  obtain ⟨g, off, cap, p, rfl, hcap, hmax, hp, hc⟩ := hL
  obtain ⟨g', off', cap', p', rfl, hcap', hmax', hp', hc'⟩ := hM
  unfold maxLen at hmax hmax'
  have hB2 : Below w.heap.size w ((w.alloc (.cells #[.string (str a), .slice p l.length cap] 27)).alloc (.cells #[.string (str b), .slice p' m.length cap'] 27)) := ((Below.refl _ _).alloc (Nat.le_refl _) _).alloc (by simp) _
  have Q0 : Hid (((w.alloc (.cells #[.string (str a), .slice p l.length cap] 27)).alloc (.cells #[.string (str b), .slice p' m.length cap'] 27)).heap[w.heap.size]? = some (.cells #[.string (str a), .slice p l.length cap] 27 (0, 0))) := by
    show _ = _
    rw [Below.heap_alloc _ _ _ (by simp)]
    exact World.alloc_heap_new w _
  have Q1 : Hid (((w.alloc (.cells #[.string (str a), .slice p l.length cap] 27)).alloc (.cells #[.string (str b), .slice p' m.length cap'] 27)).heap[w.heap.size + 1]? = some (.cells #[.string (str b), .slice p' m.length cap'] 27 (0, 0))) := by
    have := World.alloc_heap_new (w.alloc (.cells #[.string (str a), .slice p l.length cap] 27)) (.cells #[.string (str b), .slice p' m.length cap'] 27)
    rwa [World.size_alloc] at this
  have HP := Lib.hid hp
  have HC := Lib.hid hc
  have HP' := Lib.hid hp'
  have HC' := Lib.hid hc'
  clear hp hc hp' hc'
  by_cases hab : a = b
  · subst hab
    by_cases hll : l.length = m.length
    · have hle : ((l.length : Int) != (m.length : Int)) = false := by simp; omega
      have HLL := Lib.hid hll
      have hlm : l.length ≤ m.length := by omega
      clear hll
      go_enter Tryd.func39, Tryd.ntmps39
      go_wp2_with fail
      obtain ⟨W, hW⟩ : ∃ W, ((w.alloc (.cells #[.string (str a), .slice p l.length cap] 27)).alloc (.cells #[.string (str a), .slice p' m.length cap'] 27)) = W := ⟨_, rfl⟩
      rw [hW] at hB2 Q0 Q1 ⊢
      clear hW
      go_loopw [5] (fun i wr => ∃ k : Nat, k ≤ l.length ∧ i = .int .i64 k ∧ Below W.heap.size W wr ∧ Hid (eqFlds (l.drop k) (m.drop k) = eqFlds l m)) (fun i _ => l.length - (intOf i).toNat)
      case atStart => exact ⟨0, Nat.zero_le _, rfl, Below.refl _ _, rfl⟩
      case round =>
        obtain ⟨k, hk, rfl, hb, ho⟩ := hrel
        obtain ⟨d0, d1⟩ := blk2 ((hb.block _ (heap_lt Q0.out)).trans Q0.out)
        obtain ⟨f0, f1⟩ := blk2 ((hb.block _ (heap_lt Q1.out)).trans Q1.out)
        have hbb := hB2.trans (hb.mono hB2.size)
        by_cases hlt : k < l.length
        · have hlt' : k < m.length := by omega
          obtain ⟨x, hx⟩ : ∃ x, l[k]? = some x := ⟨_, List.getElem?_eq_getElem hlt⟩
          obtain ⟨y, hy⟩ : ∃ y, m[k]? = some y := ⟨_, List.getElem?_eq_getElem hlt'⟩
          obtain ⟨rfl, _⟩ := HP.out (by rintro rfl; simp at hlt)
          obtain ⟨rfl, _⟩ := HP'.out (by rintro rfl; simp at hlt')
          obtain ⟨h0, h1, h2, h3⟩ := HC.out k x hx
          obtain ⟨j0, j1, j2, j3⟩ := HC'.out k y hy
          have e0 := (hbb.cell (cell_lt h0)).trans h0
          have e1 := (hbb.cell (cell_lt h1)).trans h1
          have e2 := (hbb.cell (cell_lt h2)).trans h2
          have e3 := (hbb.cell (cell_lt h3)).trans h3
          have g0 := (hbb.cell (cell_lt j0)).trans j0
          have g1 := (hbb.cell (cell_lt j1)).trans j1
          have g2 := (hbb.cell (cell_lt j2)).trans j2
          have g3 := (hbb.cell (cell_lt j3)).trans j3
          have hneq := neqF x y
          have HST := Lib.hid (eqFlds_drop l m k x y hx hy)
          clear hx hy h0 h1 h2 h3 j0 j1 j2 j3
          go_wp2_with fail
          refine wp_region_tail 10 hmix (by kernel_rfl) ?_; simp only [List.take_succ_cons, List.take_zero, List.drop_succ_cons, List.drop_zero]
          iterate 10 still_step
          refine wpStill_nil ?_
          have hbd := hb.drew
          have hbbd := hbb.drew
          cases hxy : eqFld x y
          all_goals
            have HXY := Lib.hid hxy
            rw [hxy] at hneq
            clear hxy
          · go_wp2_with fail
            refine bodyPost_ret (v := .bool false) (by simp [results, Tryd.results39, go_sem]) rfl ?_
            refine ⟨bret ?_, hbbd⟩
            simp only [sameClass]
            rw [← ho.out, HST.out, HXY.out]; simp
          · go_wp2_with fail
            go_roundw
            case rel =>
              refine ⟨k + 1, by omega, by go_num, hbd, ?_⟩
              show _ = _
              rw [← ho.out, HST.out, HXY.out]; rfl
            case measure => simp [intOf]; omega
        · go_wp2_with fail
          refine bodyPost_ret (v := .bool true) (by simp [results, Tryd.results39, go_sem]) rfl ?_
          refine ⟨bret ?_, hbb⟩
          simp only [sameClass]
          rw [← ho.out, List.drop_eq_nil_of_le (by omega), List.drop_eq_nil_of_le (by have := HLL.out; omega)]; simp [eqFlds]
    · have hle : ((l.length : Int) != (m.length : Int)) = true := by simp; omega
      have HF := Lib.hid (eqFlds_len l m hll)
      clear hll
      go_enter Tryd.func39, Tryd.ntmps39
      go_wp2_with fail
      refine bodyPost_ret (v := .bool false) (by simp [results, Tryd.results39, go_sem]) rfl ?_
      exact ⟨bret (by simp [sameClass, HF.out]), hB2⟩
  · have hab2 : decide (a = b) = false := by simp [hab]
    go_enter Tryd.func39, Tryd.ntmps39
    go_wp2_with fail
    refine bodyPost_ret (v := .bool false) (by simp [results, Tryd.results39, go_sem]) rfl ?_
    exact ⟨bret (by simp [sameClass, hab]), hB2⟩
end Go.Proofs.YtdlolkogifigpaaDoor
