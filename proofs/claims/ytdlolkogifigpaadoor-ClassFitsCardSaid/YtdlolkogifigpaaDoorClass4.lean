/- Layer 4: class.Check. -/
import Derived.Test.YtdlolkogifigpaaDoorRegIn
import Derived.Test.YtdlolkogifigpaaDoorClass3
import Derived.Test.YtdlolkogifigpaaDoorVal4
namespace Go.Proofs.YtdlolkogifigpaaDoor
open Go Go.RowKit Go.Mor
set_option maxHeartbeats 1000000

/-- The texts of values are no longer than texts can be. -/
def VTextsOk (l : List V) : Prop := ∀ x ∈ l, TextsOk x ∧ ∀ y ∈ x.l, TextsOk y

theorem checkGo_drop (fs : List Fld) (vs : List V) (k : Nat) (f : Fld) (v : V) (h : fs[k]? = some f) (h' : vs[k]? = some v) : checkGo k (fs.drop k) (vs.drop k) = if fitsV v f.t then checkGo (k + 1) (fs.drop (k + 1)) (vs.drop (k + 1)) else (k, 42) := by
  obtain ⟨hk, rfl⟩ := List.getElem?_eq_some_iff.1 h
  obtain ⟨hk', rfl⟩ := List.getElem?_eq_some_iff.1 h'
  rw [List.drop_eq_getElem_cons hk, List.drop_eq_getElem_cons hk']
  rfl
/-- class.Check's two answers. -/
def checkRes (c : Cls) (vs : List V) : Value := .tuple #[.int .i64 (check c vs).1, .int .i64 (check c vs).2]

set_option maxRecDepth 10000 in
theorem Check_any (n : List UInt8) (l : List Fld) (vs : List V) (c d : Value) (a0 a1 : Addr) (w : World) (hn : n.length ≤ 9223372036854775807) (hl : FTextsOk l) (hv : VTextsOk vs) (hL : IsF (fun _ => True) w l c) (hV : IsL (fun _ => True) w vs d) (hG : Glob w a0 a1) :
    Calls Tryd.prog 17 #[.agg #[.string (str n), c], d] w fun e w' => e = .returned (checkRes ⟨n, l⟩ vs) ∧ Below w.heap.size w w' := by
  have hmix : Tryd.prog.follows .mixedOrders = true := by kernel_rfl
  have hL0 := hL
  have hV0 := hV
  obtain ⟨b, off, cap, p, rfl, hcap, hmax, hp, hc⟩ := hL
  obtain @⟨_, b', off', cap', p', sub, hcap', hmax', hp', hc', hs'⟩ := hV
  unfold maxLen at hmax hmax'
  have hB1 : Below w.heap.size w (w.alloc (.cells #[.string (str n), .slice p l.length cap] 27)) := (Below.refl _ _).alloc (Nat.le_refl _) _
  have q0 : (w.alloc (.cells #[.string (str n), .slice p l.length cap] 27)).heap[w.heap.size]? = some (.cells #[.string (str n), .slice p l.length cap] 27 (0, 0)) := World.alloc_heap_new w _
  have HR := Lib.hid (CRight_any n l _ _ hn hl (hL0.ext hB1))
  have HP := Lib.hid hp
  have HP' := Lib.hid hp'
  have HC := Lib.hid hc
  have HC' := Lib.hid hc'
  have HS' := Lib.hid hs'
  have HV := Lib.hid hv
  have HL := Lib.hid hL0
  have HG := Lib.hid hG
  have Q0 := Lib.hid q0
  clear hp hp' hc hc' hs' hv hL0 hV0 hG q0
  go_enter Tryd.func17, Tryd.ntmps17
  go_wp2_with fail
  refine HR.out.mono ?_
  rintro e w1 ⟨rfl, hb1⟩
  have hB2 := hB1.trans (hb1.mono (by simp))
  cases hr : rightClass ⟨n, l⟩
  · have H1 := Lib.hid hr
    clear hr
    go_wp2_with fail
    go_ret2
    exact ⟨by simp [checkRes, check, H1.out], hB2⟩
  · have H1 := Lib.hid hr
    clear hr
    have q2 := (hb1.block w.heap.size (heap_lt Q0.out)).trans Q0.out
    obtain ⟨d0, d1⟩ := blk2 q2
    have Q2 := Lib.hid q2
    clear q2
    by_cases hle : vs.length = l.length
    · have hle' : ((vs.length : Int) != (l.length : Int)) = false := by simp; omega
      have HLE := Lib.hid hle
      clear hle
      go_wp2_with fail
      go_loopw [26] (fun i wr => ∃ k : Nat, k ≤ l.length ∧ i = .int .i64 k ∧ Below w.heap.size w wr ∧ Hid (checkGo k (l.drop k) (vs.drop k) = checkGo 0 l vs)) (fun i _ => l.length - (intOf i).toNat)
      case atStart => exact ⟨0, Nat.zero_le _, rfl, hB2, rfl⟩
      case round =>
        obtain ⟨k, hk, rfl, hb, ho⟩ := hrel
        by_cases hlt : k < l.length
        · have hlt' : k < vs.length := by have := HLE.out; omega
          obtain ⟨x, hx⟩ : ∃ x, l[k]? = some x := ⟨_, List.getElem?_eq_getElem hlt⟩
          obtain ⟨y, hy⟩ : ∃ y, vs[k]? = some y := ⟨_, List.getElem?_eq_getElem hlt'⟩
          obtain ⟨rfl, _⟩ := HP.out (by rintro rfl; simp at hlt)
          obtain ⟨rfl, _⟩ := HP'.out (by rintro rfl; simp at hlt')
          obtain ⟨h0, h1, h2, h3⟩ := HC.out k x hx
          obtain ⟨j0, j1, j2, j3⟩ := HC'.out k y hy
          have HY := Lib.hid (HS'.out k y hy)
          have hty := Lib.hid (HV.out y (List.mem_of_getElem? hy))
          have e0 := (hb.cell (cell_lt h0)).trans h0
          have e1 := (hb.cell (cell_lt h1)).trans h1
          have e2 := (hb.cell (cell_lt h2)).trans h2
          have e3 := (hb.cell (cell_lt h3)).trans h3
          have hBa : Below wr.heap.size wr (wr.alloc (.cells #[.string (str x.n), .int .i64 x.t.k, .int .i64 x.t.o, .bool x.ix] 53)) := (Below.refl _ _).alloc (Nat.le_refl _) _
          have qa : (wr.alloc (.cells #[.string (str x.n), .int .i64 x.t.k, .int .i64 x.t.o, .bool x.ix] 53)).heap[wr.heap.size]? = some (.cells #[.string (str x.n), .int .i64 x.t.k, .int .i64 x.t.o, .bool x.ix] 53 (0, 0)) := World.alloc_heap_new wr _
          have hB3 := hb.trans (hBa.mono hb.size)
          have g0 := (hB3.cell (cell_lt j0)).trans j0
          have g1 := (hB3.cell (cell_lt j1)).trans j1
          have g2 := (hB3.cell (cell_lt j2)).trans j2
          have g3 := (hB3.cell (cell_lt j3)).trans j3
          obtain ⟨f0, f1, f2, f3⟩ := blk4 qa
          have G0 := Lib.hid g0; have G1 := Lib.hid g1; have G2 := Lib.hid g2; have G3 := Lib.hid g3
          have F1 := Lib.hid f1; have F2 := Lib.hid f2
          have HST := Lib.hid (checkGo_drop l vs k x y hx hy)
          clear hx hy h0 h1 h2 h3 j0 j1 j2 j3 g0 g1 g2 g3 f0 f1 f2 f3 qa
          go_wp2_with fail
          obtain ⟨W2, hW2⟩ : ∃ W2, wr.alloc (.cells #[.string (str x.n), .int .i64 x.t.k, .int .i64 x.t.o, .bool x.ix] 53) = W2 := ⟨_, rfl⟩
          rw [hW2] at G0 G1 G2 G3 F1 F2 hBa hB3 ⊢
          clear hW2 e0 e1 e2 e3
          have g0 := G0.out; have g1 := G1.out; have g2 := G2.out; have g3 := G3.out
          have f1 := F1.out; have f2 := F2.out
          clear G0 G1 G2 G3 F1 F2
          refine wp_region_tail 6 hmix (by kernel_rfl) ?_; simp only [List.take_succ_cons, List.take_zero, List.drop_succ_cons, List.drop_zero]
          iterate 6 still_step
          refine wpStill_nil ?_
          clear g0 g1 g2 g3 f1 f2
          go_wp2_with fail
          have hB4 := hB3.drew
          refine (Fits_any y (sub k) x.t a0 a1 W2.drew hty.out.1 hty.out.2 (HY.out.ext hB4) (HG.out.ext hB4)).mono ?_
          rintro e w3 ⟨rfl, hb3⟩
          have hB5 := hB4.trans (hb3.mono hB4.size)
          cases hfit : fitsV y x.t
          · have H2 := Lib.hid hfit
            clear hfit
            go_wp2_with fail
            go_ret2
            exact ⟨by rw [checkRes, check, H1.out, ← ho.out, HST.out, H2.out]; simp [HLE.out], hB5⟩
          · have H2 := Lib.hid hfit
            clear hfit
            go_wp2_with fail
            go_roundw
            case rel =>
              refine ⟨k + 1, by omega, by go_num, hB5, ?_⟩
              show _ = _
              rw [← ho.out, HST.out, H2.out]
              rfl
            case measure => simp [intOf]; omega
        · go_wp2_with fail
          go_ret2
          exact ⟨by rw [checkRes, check, H1.out, ← ho.out, List.drop_eq_nil_of_le (by omega)]; simp [HLE.out, checkGo], hb⟩
    · have hle' : ((vs.length : Int) != (l.length : Int)) = true := by simp; omega
      have HLE := Lib.hid hle
      clear hle
      go_wp2_with fail
      refine bodyPost_ret (v := .tuple #[.int .i64 (min (vs.length : Int) l.length), .int .i64 42]) (by simp [results, Tryd.results17, go_sem]) rfl ?_
      exact ⟨by simp [checkRes, check, H1.out, HLE.out]; omega, hB2⟩
end Go.Proofs.YtdlolkogifigpaaDoor
