/- Layer 4: class.Decode. -/
import Derived.Test.YtdlolkogifigpaaDoorClass8
namespace Go.Proofs.YtdlolkogifigpaaDoor
open Go Go.RowKit Go.Mor
set_option maxHeartbeats 1000000

theorem fstep_bound {s : List UInt8} {a : Int} {bad : Bool} (hs : s.length < 1125899906842624) (ha0 : -9223372036854775808 ≤ a) (ha1 : a ≤ 9223372036854775807) :
    -9223372036854775808 ≤ (fstep s a bad).a ∧ (fstep s a bad).a ≤ 9223372036854775807 ∧ (fstep s a bad).f.n.length ≤ 9223372036854775807 := by
  obtain ⟨x1, x2, x3⟩ := rtext_bound (bad := bad) hs ha0 ha1
  obtain ⟨x4, x5, _⟩ := rnum_bound (bad := (rtext s a bad).2.2) hs x1 x2
  obtain ⟨x6, x7, _⟩ := rnum_bound (bad := (rnum s (rtext s a bad).2.1 (rtext s a bad).2.2).2.2) hs x4 x5
  obtain ⟨x8, x9, _⟩ := rnum_bound (bad := (rnum s (rnum s (rtext s a bad).2.1 (rtext s a bad).2.2).2.1 (rnum s (rtext s a bad).2.1 (rtext s a bad).2.2).2.2).2.2) hs x6 x7
  exact ⟨x8, x9, x3⟩
/-- class.Decode's three answers. -/
def decOut (r : Option (Cls × Int)) : Cls × Int × Int := match r with | none => (⟨[], []⟩, 0, 10) | some (c, b) => (c, b, 0)
def DecPost (w : World) (o : Cls × Int × Int) (e : Ending) (w' : World) : Prop :=
  (∃ v, e = .returned (.tuple #[.agg #[.string (str o.1.n), v], .int .i64 o.2.1, .int .i64 o.2.2]) ∧ IsF (w.heap.size ≤ ·) w' o.1.fs v) ∧ Below w.heap.size w w'
theorem DecPost.none_ {w w' : World} {r : Option (Cls × Int)} (h : r = none) (hb : Below w.heap.size w w') : DecPost w (decOut r) (.returned (.tuple #[.agg #[.string ⟨#[]⟩, .slice none 0 0], .int .i64 0, .int .i64 10])) w' := by
  subst h
  exact ⟨⟨_, rfl, IsF.none_⟩, hb⟩

set_option maxRecDepth 10000 in
theorem Decode_any (s : List UInt8) (a : Int) (a0 a1 : Addr) (w : World) (hs : s.length < 1125899906842624) (ha0 : -9223372036854775808 ≤ a) (ha1 : a ≤ 9223372036854775807) (hG : Glob w a0 a1) :
    Calls Tryd.prog 20 #[.string (str s), .int .i64 a] w fun e w' => DecPost w (decOut (decode s a)) e w' := by
  have hB0 : Below w.heap.size w ((w.alloc (.cells #[.string ⟨#[]⟩, .slice none 0 0] 27)).alloc (.cells #[.string (str s), .int .i64 a, .bool false] 89)) := ((Below.refl _ _).alloc (Nat.le_refl _) _).alloc (by simp) _
  have qr : RdAt ((w.alloc (.cells #[.string ⟨#[]⟩, .slice none 0 0] 27)).alloc (.cells #[.string (str s), .int .i64 a, .bool false] 89)) (w.heap.size + 1) s a false := by
    have := World.alloc_heap_new (w.alloc (.cells #[.string ⟨#[]⟩, .slice none 0 0] 27)) (.cells #[.string (str s), .int .i64 a, .bool false] 89)
    rwa [World.size_alloc] at this
  have qc : ((w.alloc (.cells #[.string ⟨#[]⟩, .slice none 0 0] 27)).alloc (.cells #[.string (str s), .int .i64 a, .bool false] 89)).heap[w.heap.size]? = some (.cells #[.string ⟨#[]⟩, .slice none 0 0] 27 (0, 0)) := by
    rw [Below.heap_alloc _ _ _ (by simp)]
    exact World.alloc_heap_new w _
  have HG := Lib.hid hG
  have QR := Lib.hid qr
  have QC := Lib.hid qc
  clear hG qr qc
  go_enter Tryd.func20, Tryd.ntmps20
  go_wp2_with fail
  obtain ⟨W, hW⟩ : ∃ W, ((w.alloc (.cells #[.string ⟨#[]⟩, .slice none 0 0] 27)).alloc (.cells #[.string (str s), .int .i64 a, .bool false] 89)) = W := ⟨_, rfl⟩
  rw [hW] at hB0 QR QC ⊢
  clear hW
  refine (rtext_any (w.heap.size + 1) s a false a0 a1 W hs ha0 ha1 (HG.out.ext hB0) QR.out).mono ?_
  rintro e W1 ⟨rfl, hg1, hr1⟩
  have hbd1 := rtext_bound (bad := false) hs ha0 ha1
  obtain ⟨r1, hr1e⟩ : ∃ r, rtext s a false = r := ⟨_, rfl⟩
  rw [hr1e] at hr1 hbd1 ⊢
  have HR1 := Lib.hid hr1e
  clear hr1e
  obtain ⟨nm, p1, b1⟩ := r1
  dsimp only at *
  obtain ⟨z1, z2, z3⟩ := hbd1
  have qc1 := (hg1.block w.heap.size (heap_lt QC.out) (by simp)).trans QC.out
  have c0 := blk_cells' qc1 0
  have c1 := blk_cells' qc1 1
  have k0 := blk_frozen qc1 0
  have k1 := blk_frozen qc1 1
  simp at c0 c1
  have QC1 := Lib.hid qc1
  clear qc1
  have hs1 : w.heap.size + 2 ≤ W1.heap.size := by have := heap_lt hr1; omega
  have hB1 : Below w.heap.size w W1 := hB0.grown hg1 (by have := hB0.size; omega) (by simp)
  have hBa : Below W1.heap.size W1 (W1.alloc (.cells #[.string (str nm), .slice none 0 0] 27)) := (Below.refl _ _).alloc (Nat.le_refl _) _
  have QD := Lib.hid (World.alloc_heap_new W1 (.cells #[.string (str nm), .slice none 0 0] 27))
  have HR1' : Hid (RdAt (W1.alloc (.cells #[.string (str nm), .slice none 0 0] 27)) (w.heap.size + 1) s p1 b1) := (hBa.block _ (heap_lt hr1)).trans hr1
  clear hr1
  go_wp2_with fail
  obtain ⟨W2, hW2⟩ : ∃ W2, (W1.alloc (.cells #[.string (str nm), .slice none 0 0] 27)) = W2 := ⟨_, rfl⟩
  obtain ⟨C, hC⟩ : ∃ C, W1.heap.size = C := ⟨_, rfl⟩
  rw [hC] at QD hBa hs1
  rw [hW2] at HR1' QD hBa ⊢
  rw [hC]
  have hB2 : Below w.heap.size w W2 := hB1.trans (hBa.mono (by omega))
  clear hW2 hC
  refine (rnum_any (w.heap.size + 1) s p1 b1 a0 a1 W2 hs z1 z2 (HG.out.ext hB2) HR1'.out).mono ?_
  rintro e W3 ⟨rfl, hg3, hr3⟩
  have hbd3 := rnum_bound (bad := b1) hs z1 z2
  obtain ⟨r3, hr3e⟩ : ∃ r, rnum s p1 b1 = r := ⟨_, rfl⟩
  rw [hr3e] at hr3 hbd3 ⊢
  have HR3 := Lib.hid hr3e
  clear hr3e
  obtain ⟨nn, p3, b3⟩ := r3
  dsimp only at *
  obtain ⟨z4, z5, z6, z7⟩ := hbd3
  have qd3 := (hg3.block C (heap_lt QD.out) (by simp; omega)).trans QD.out
  have hB3 : Below w.heap.size w W3 := hB2.grown hg3 (by have := hB2.size; omega) (by simp)
  have QD3 := Lib.hid qd3
  have QC3 : Hid (W3.heap[w.heap.size]? = some (.cells #[.string ⟨#[]⟩, .slice none 0 0] 27 (0, 0))) := by
    refine (hg3.block w.heap.size ?_ (by simp)).trans ((hBa.block w.heap.size (by omega)).trans QC1.out)
    have := heap_lt QD.out; omega
  have RD3 := Lib.hid hr3
  clear QC QC1 QD HR1' hg3 hg1 hBa hB0 QR hr3 hB1 hB2 qd3 c0 c1 k0 k1
  have c0 := blk_cells' QC3.out 0
  have c1 := blk_cells' QC3.out 1
  have k0 := blk_frozen QC3.out 0
  have k1 := blk_frozen QC3.out 1
  simp at c0 c1
  by_cases hn0 : nn < 0
  · have HD : Hid (decode s a = none) := by show _ = _; simp [decode, HR1.out, HR3.out, hn0]
    go_wp2_with fail
    refine bodyPost_ret (v := .tuple #[.agg #[.string ⟨#[]⟩, .slice none 0 0], .int .i64 0, .int .i64 10]) (by simp [results, Tryd.results20, go_sem, c0, c1]) rfl ?_
    exact DecPost.none_ HD.out ((hB3.setCell (Nat.le_refl _) _).setCell (Nat.le_refl _) _)
  · by_cases hn8 : 8 < nn
    · have HD : Hid (decode s a = none) := by show _ = _; simp [decode, HR1.out, HR3.out, hn8]
      go_wp2_with fail
      refine bodyPost_ret (v := .tuple #[.agg #[.string ⟨#[]⟩, .slice none 0 0], .int .i64 0, .int .i64 10]) (by simp [results, Tryd.results20, go_sem, c0, c1]) rfl ?_
      exact DecPost.none_ HD.out ((hB3.setCell (Nat.le_refl _) _).setCell (Nat.le_refl _) _)
    · clear c0 c1 k0 k1
      have hm0 : 0 ≤ nn := by omega
      have hm8 : nn ≤ 8 := by omega
      clear hn0 hn8
      obtain ⟨M, rfl⟩ := Int.eq_ofNat_of_zero_le hm0
      clear hm0
      have hM8 : M ≤ 8 := by omega
      clear hm8
      have HO0 : Hid (OwnF w.heap.size W3 (.slice none 0 0) []) := OwnF.nil _ _
      have HDM : Hid (decode s a = decFin nm (fieldsGo s M p3 b3 [])) := by
        show _ = _
        rw [decode, HR1.out]; dsimp only; rw [HR3.out]; dsimp only
        rw [if_neg (by omega), Int.toNat_natCast]
      go_wp2_with fail
      go_loopw [26] (fun i wr => ∃ (k : Nat) (fs : List Fld) (pL : Option Addr) (cL : Nat) (pos : Int) (bad : Bool), k ≤ M ∧ i = .int .i64 k ∧ Hid (wr.heap[C]? = some (.cells #[.string (str nm), .slice pL fs.length cL] 27 (0, 0))) ∧ Hid (OwnF w.heap.size wr (.slice pL fs.length cL) fs) ∧ Hid (RdAt wr (w.heap.size + 1) s pos bad) ∧ Hid (wr.heap[w.heap.size]? = some (.cells #[.string ⟨#[]⟩, .slice none 0 0] 27 (0, 0))) ∧ Below w.heap.size w wr ∧ -9223372036854775808 ≤ pos ∧ pos ≤ 9223372036854775807 ∧ Hid (fieldsGo s (M - k) pos bad fs = fieldsGo s M p3 b3 []) ∧ fs.length ≤ k ∧ Hid (FTextsOk fs)) (fun i _ => M - (intOf i).toNat)
      case atStart => exact ⟨0, [], none, 0, p3, b3, Nat.zero_le _, rfl, QD3, HO0, RD3, QC3, hB3, z4, z5, rfl, by simp, by intro f hf; cases hf⟩
      case round =>
        obtain ⟨k, fs, pL, cL, pos, bad, hk, rfl, QD4, HO, RD4, QC4, hb, y0, y1, hgo, hfl, hft⟩ := hrel
        by_cases hlt : k < M
        · have hO := HO.out
          go_wp2_with fail
          refine (field_any (w.heap.size + 1) s pos bad a0 a1 w wr hs y0 y1 HG.out hb (by omega) RD4.out).mono ?_
          rintro e W4 ⟨rfl, hg4, hr4⟩
          obtain ⟨r, hre⟩ : ∃ r, fstep s pos bad = r := ⟨_, rfl⟩
          have hbnd := fstep_bound (bad := bad) hs y0 y1
          rw [hre] at hr4 hbnd ⊢
          have HRE := Lib.hid hre
          clear hre
          obtain ⟨f, ok, pos', bad'⟩ := r
          dsimp only at *
          obtain ⟨t0, t1, t2⟩ := hbnd
          have hsz4 := hb.size
          have hB4 : Below w.heap.size w W4 := hb.grown hg4 (by omega) (by simp)
          have QD5 := (hg4.block C (heap_lt QD4.out) (by simp; omega)).trans QD4.out
          have HO5 := hO.grown hg4 (fun k hk e => by injection hk with hk; subst hk; exact (hO.ne RD4.out (by decide)) e.symm)
          have QC5 := (hg4.block w.heap.size (heap_lt QC4.out) (by simp)).trans QC4.out
          have hBa : Below W4.heap.size W4 (W4.alloc (.cells #[.string (str f.n), .int .i64 f.t.k, .int .i64 f.t.o, .bool f.ix] 53)) := (Below.refl _ _).alloc (Nat.le_refl _) _
          have QD6 := Lib.hid ((hBa.block C (heap_lt QD5)).trans QD5)
          have QC6 := Lib.hid ((hBa.block _ (heap_lt QC5)).trans QC5)
          have RD6 := Lib.hid ((hBa.block _ (heap_lt hr4)).trans hr4)
          have HO6 := Lib.hid (HO5.ext hBa)
          have QF6 := Lib.hid (World.alloc_heap_new W4 (.cells #[.string (str f.n), .int .i64 f.t.k, .int .i64 f.t.o, .bool f.ix] 53))
          have hB6 := hB4.trans (hBa.mono hB4.size)
          have c0 := blk_cells' QC6.out 0
          have c1 := blk_cells' QC6.out 1
          have k0 := blk_frozen QC6.out 0
          have k1 := blk_frozen QC6.out 1
          have d0 := blk_cells' QD6.out 0
          have d1 := blk_cells' QD6.out 1
          have l0 := blk_frozen QD6.out 0
          have l1 := blk_frozen QD6.out 1
          obtain ⟨f0, f1, f2, f3⟩ := blk4 QF6.out
          simp only [List.getElem?_toArray, List.getElem?_cons_zero, List.getElem?_cons_succ] at c0 c1 d0 d1
          clear hg4 hr4 QD4 HO RD4 QC4 QD5 QC5 HO5 hO
          cases ok
          · have HD : Hid (decode s a = none) := by
              show _ = _
              rw [HDM.out, ← hgo.out, show M - k = (M - k - 1) + 1 by omega, fieldsGo, HRE.out]
              rfl
            go_wp2_with fail
            refine bodyPost_ret (v := .tuple #[.agg #[.string ⟨#[]⟩, .slice none 0 0], .int .i64 0, .int .i64 10]) (by simp [results, Tryd.results20, go_sem, c0, c1]) rfl ?_
            exact DecPost.none_ HD.out ((hB6.setCell (Nat.le_refl _) _).setCell (Nat.le_refl _) _)
          · have hBc : Below (W4.alloc (.cells #[.string (str f.n), .int .i64 f.t.k, .int .i64 f.t.o, .bool f.ix] 53)).heap.size (W4.alloc (.cells #[.string (str f.n), .int .i64 f.t.k, .int .i64 f.t.o, .bool f.ix] 53)) ((W4.alloc (.cells #[.string (str f.n), .int .i64 f.t.k, .int .i64 f.t.o, .bool f.ix] 53)).alloc (.cells #[.string (str f.n), .int .i64 f.t.k, .int .i64 f.t.o, .bool f.ix] 53)) := (Below.refl _ _).alloc (Nat.le_refl _) _
            have hO7 := HO6.out.ext hBc
            have QF7 := World.alloc_heap_new (W4.alloc (.cells #[.string (str f.n), .int .i64 f.t.k, .int .i64 f.t.o, .bool f.ix] 53)) (.cells #[.string (str f.n), .int .i64 f.t.k, .int .i64 f.t.o, .bool f.ix] 53)
            rw [World.size_alloc] at QF7
            have hF7 := isF_one f QF7
            clear QF7
            have QD7 := Lib.hid ((hBc.block C (heap_lt QD6.out)).trans QD6.out)
            have QC7 := Lib.hid ((hBc.block _ (heap_lt QC6.out)).trans QC6.out)
            have RD7 := Lib.hid ((hBc.block _ (heap_lt RD6.out)).trans RD6.out)
            have hB7 := hB6.trans (hBc.mono hB6.size)
            have hlen : fs.length + [f].length ≤ 1000000 := by simp; omega
            have hbs := hB7.size
            clear QD6 QC6 RD6 HO6 QF6 hBa hBc hB6
            go_wp2_with (at_builtin; refine wpList_appFs rfl _ _ rfl hO7 hF7 (fun h => by cases h) rfl rfl hlen hbs ?_; intro v' wA0 hown' hgr0; obtain ⟨LA0, pA0, cA0, rfl, hLA0, hown0⟩ := hown'.formL; clear hown'; have qd8 := hO7.keep hgr0 QD7.out (by decide); have e1 := blk_cells' qd8 1; have g1 := blk_frozen qd8 1; simp only [List.getElem?_toArray, List.getElem?_cons_zero, List.getElem?_cons_succ] at e1; have QD8 := Lib.hid qd8; clear qd8)
            have QR8 := hO7.keep hgr0 RD7.out (by decide)
            have QC8 := hO7.keep hgr0 QC7.out (by decide)
            have hB8 := hB7.grown hgr0 hbs hO7.below
            refine ⟨⟨k + 1, LA0, pA0, cA0, pos', bad', by omega, rfl, heap_setCell_same _ _ _ _ _ _ QD8.out, hown0.out.set (hown0.out.ne QD8.out (by decide)), ?_, ?_, hB8.setCell (by show w.heap.size ≤ C; omega) _, t0, t1, ?_, ?_, ?_⟩, by simp [intOf]; omega⟩
            · exact (heap_setCell_other _ _ _ _ (by simp; omega)).trans QR8
            · exact (heap_setCell_other _ _ _ _ (by simp; omega)).trans QC8
            · show _ = _
              rw [← hgo.out, show M - k = (M - (k + 1)) + 1 by omega, fieldsGo, HRE.out, hLA0.out]
              rfl
            · rw [hLA0.out]; simp; omega
            · rw [hLA0.out]
              intro g hg
              rcases List.mem_append.1 hg with h | h
              · exact hft.out g h
              · simp at h; subst h; exact t2
        · have hkM : k = M := by omega
          subst hkM
          have HDF : Hid (decode s a = decFin nm (some (fs, pos, bad))) := by
            show _ = _
            rw [HDM.out, ← hgo.out, Nat.sub_self, fieldsGo]
          have hIF := Lib.hid (HO.out.isF.weaken (fun _ _ => trivial))
          have c0 := blk_cells' QC4.out 0
          have c1 := blk_cells' QC4.out 1
          have k0 := blk_frozen QC4.out 0
          have k1 := blk_frozen QC4.out 1
          have d0 := blk_cells' QD4.out 0
          have d1 := blk_cells' QD4.out 1
          have r1 := blk_cells' RD4.out 1
          have r2 := blk_cells' RD4.out 2
          simp only [List.getElem?_toArray, List.getElem?_cons_zero, List.getElem?_cons_succ] at c0 c1 d0 d1 r1 r2
          cases bad
          · go_wp2_with fail
            refine (CRight_any nm fs _ _ z3 hft.out hIF.out).mono ?_
            rintro e W9 ⟨rfl, hb9⟩
            have QC9 := (hb9.block _ (heap_lt QC4.out)).trans QC4.out
            have QD9 := (hb9.block _ (heap_lt QD4.out)).trans QD4.out
            have RD9 := (hb9.block _ (heap_lt RD4.out)).trans RD4.out
            have hB9 := hb.trans (hb9.mono hb.size)
            clear c0 c1 k0 k1 d0 d1 r1 r2
            have c0 := blk_cells' QC9 0
            have c1 := blk_cells' QC9 1
            have k0 := blk_frozen QC9 0
            have k1 := blk_frozen QC9 1
            have d0 := blk_cells' QD9 0
            have d1 := blk_cells' QD9 1
            have r1 := blk_cells' RD9 1
            simp only [List.getElem?_toArray, List.getElem?_cons_zero, List.getElem?_cons_succ] at c0 c1 d0 d1 r1
            have HO9 := Lib.hid (HO.out.ext hb9)
            have QC9' := Lib.hid QC9
            clear QC9 QD9 RD9
            cases hr : rightClass ⟨nm, fs⟩
            · have HD : Hid (decode s a = none) := by show _ = _; rw [HDF.out]; simp [decFin, hr]
              clear hr
              go_wp2_with fail
              refine bodyPost_ret (v := .tuple #[.agg #[.string ⟨#[]⟩, .slice none 0 0], .int .i64 0, .int .i64 10]) (by simp [results, Tryd.results20, go_sem, c0, c1]) rfl ?_
              exact DecPost.none_ HD.out ((hB9.setCell (Nat.le_refl _) _).setCell (Nat.le_refl _) _)
            · have HD : Hid (decode s a = some (⟨nm, fs⟩, pos)) := by show _ = _; rw [HDF.out]; simp [decFin, hr]
              clear hr
              go_wp2_with fail
              go_region
              all_goals
                go_wp2_with fail
                refine bodyPost_ret (v := .tuple #[.agg #[.string (str nm), .slice pL fs.length cL], .int .i64 pos, .int .i64 0]) (by simp [results, Tryd.results20, go_sem, c0, c1]) rfl ?_
                rw [HD.out]
                have hne := HO9.out.ne QC9'.out (by decide)
                have hO1 : OwnF w.heap.size (W9.drew.setCell ⟨w.heap.size, 0, none⟩ (.string (str nm))) (.slice pL fs.length cL) fs := OwnF.set (w := W9.drew) HO9.out hne
                exact ⟨⟨_, rfl, (hO1.set hne).isF⟩, (hB9.drew.setCell (Nat.le_refl _) _).setCell (Nat.le_refl _) _⟩
          · have HD : Hid (decode s a = none) := by show _ = _; rw [HDF.out]; rfl
            go_wp2_with fail
            refine bodyPost_ret (v := .tuple #[.agg #[.string ⟨#[]⟩, .slice none 0 0], .int .i64 0, .int .i64 10]) (by simp [results, Tryd.results20, go_sem, c0, c1]) rfl ?_
            exact DecPost.none_ HD.out ((hb.setCell (Nat.le_refl _) _).setCell (Nat.le_refl _) _)
end Go.Proofs.YtdlolkogifigpaaDoor
