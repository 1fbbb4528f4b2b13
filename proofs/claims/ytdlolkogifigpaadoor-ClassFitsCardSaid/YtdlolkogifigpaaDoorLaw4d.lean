/- The law ClassBack: its walk. -/
import Derived.Test.YtdlolkogifigpaaDoorLaw4b
import Derived.Test.YtdlolkogifigpaaDoorLaw4c
import Derived.Test.YtdlolkogifigpaaDoorPBack
import Derived.Outline
namespace Go.Proofs.YtdlolkogifigpaaDoor
open Go Go.RowKit Go.Mor
set_option maxHeartbeats 4000000

theorem IsRaw.ext {w w' : World} {l : List RawF} {c : Value} (h : IsRaw w l c) (hb : Below w.heap.size w w') : IsRaw w' l c := by
  obtain ⟨b, off, cap, p, h1, h2, h3, h4, h5⟩ := h
  refine ⟨b, off, cap, p, h1, h2, h3, h4, fun i f hf => ?_⟩
  obtain ⟨q, q0, q1, q2, q3⟩ := h5 i f hf
  exact ⟨q, (hb.cell (cell_lt q0)).trans q0, (hb.cell (cell_lt q1)).trans q1, (hb.cell (cell_lt q2)).trans q2, (hb.cell (cell_lt q3)).trans q3⟩
theorem IsRaw.form {w : World} {l : List RawF} {c : Value} (h : IsRaw w l c) : ∃ p cap, c = .slice p l.length cap ∧ l.length ≤ cap ∧ cap ≤ maxLen := by
  obtain ⟨b, off, cap, p, h1, h2, h3, h4, h5⟩ := h
  exact ⟨p, cap, h1, h2, h3⟩
theorem _root_.Go.Mor.GoodC.texts {c : Cls} (h : GoodC c) : FTextsOk c.fs := fun f hf => by have := (h.fs f hf).2; omega
theorem OwnF.any {base : Nat} {w : World} {v : Value} {l : List Fld} (h : OwnF base w v l) : IsF (fun _ => True) w l v := h.isF.weaken fun _ _ => trivial

set_option maxRecDepth 10000 in
theorem ClassBack_any (x y : Raw) (cx cy : Value) (s t : List UInt8) (cut : Int) (a0 a1 : Addr) (w : World) (hx0 : -9223372036854775808 ≤ x.n) (hx1 : x.n ≤ 9223372036854775807) (hy0 : -9223372036854775808 ≤ y.n) (hy1 : y.n ≤ 9223372036854775807)
    (hX : IsRaw w x.fs cx) (hY : IsRaw w y.fs cy) (hs : s.length ≤ 9223372036854775807) (ht : t.length ≤ 9223372036854775807) (hc0 : 0 ≤ cut) (hc1 : cut ≤ 255) (hG : Glob w a0 a1) :
    Calls Tryd.prog 4 #[.agg #[.int .i64 x.n, cx], .agg #[.int .i64 y.n, cy], .string (str s), .string (str t), .int .u8 cut] w fun e w' => e = .returned (.bool true) ∧ Below w.heap.size w w' := by
  obtain ⟨px, kx, rfl, hkx, hmx⟩ := hX.form
  obtain ⟨py, ky, rfl, hky, hmy⟩ := hY.form
  have HX := Lib.hid hX
  have HY := Lib.hid hY
  have HG := Lib.hid hG
  have hB := Below.refl w.heap.size w
  clear hX hY hG
  go_enter Tryd.func4, Tryd.ntmps4
  go_wp2_with fail
  have hBa : Below (w).heap.size (w) ((w).alloc (.cells #[.int .i64 x.n, .slice px x.fs.length kx] 24)) := (Below.refl _ _).alloc (Nat.le_refl _) _
  have NX := World.alloc_heap_new (w) (.cells #[.int .i64 x.n, .slice px x.fs.length kx] 24)
  replace NX := Lib.hid NX
  replace hB := hB.trans (hBa.mono hB.size)
  replace HX := Lib.hid (HX.out.ext hBa)
  replace HY := Lib.hid (HY.out.ext hBa)
  replace HG := Lib.hid (HG.out.ext hBa)
  clear hBa
  have hBa : Below ((w).alloc (.cells #[.int .i64 x.n, .slice px x.fs.length kx] 24)).heap.size ((w).alloc (.cells #[.int .i64 x.n, .slice px x.fs.length kx] 24)) (((w).alloc (.cells #[.int .i64 x.n, .slice px x.fs.length kx] 24)).alloc (.cells #[.int .i64 y.n, .slice py y.fs.length ky] 24)) := (Below.refl _ _).alloc (Nat.le_refl _) _
  have NY := World.alloc_heap_new ((w).alloc (.cells #[.int .i64 x.n, .slice px x.fs.length kx] 24)) (.cells #[.int .i64 y.n, .slice py y.fs.length ky] 24)
  rw [World.size_alloc] at NY
  replace NY := Lib.hid NY
  replace hB := hB.trans (hBa.mono hB.size)
  replace NX := Lib.hid ((hBa.block _ (heap_lt NX.out)).trans NX.out)
  replace HX := Lib.hid (HX.out.ext hBa)
  replace HY := Lib.hid (HY.out.ext hBa)
  replace HG := Lib.hid (HG.out.ext hBa)
  clear hBa
  obtain ⟨U1, hV⟩ : ∃ V, ((w).alloc (.cells #[.int .i64 x.n, .slice px x.fs.length kx] 24)).alloc (.cells #[.int .i64 y.n, .slice py y.fs.length ky] 24) = V := ⟨_, rfl⟩
  obtain ⟨B1, hV2⟩ : ∃ B, w.heap.size = B := ⟨_, rfl⟩
  rw [hV] at NX NY HX HY HG hB ⊢
  rw [hV2] at NX NY ⊢
  clear hV hV2
  refine (examples_any a0 a1 U1 HG.out).mono ?_
  rintro e U2 ⟨rfl, hbU2⟩
  replace hB := hB.trans (hbU2.mono hB.size)
  replace NX := Lib.hid ((hbU2.block _ (heap_lt NX.out)).trans NX.out)
  replace NY := Lib.hid ((hbU2.block _ (heap_lt NY.out)).trans NY.out)
  replace HX := Lib.hid (HX.out.ext hbU2)
  replace HY := Lib.hid (HY.out.ext hbU2)
  replace HG := Lib.hid (HG.out.ext hbU2)
  clear hbU2
  have d0 := blk_cells' NX.out 0
  have d1 := blk_cells' NX.out 1
  simp only [List.getElem?_toArray, List.getElem?_cons_zero, List.getElem?_cons_succ] at d0 d1
  go_wp2_with fail
  clear d0 d1
  refine (ClassOf_any x _ U2 hx0 hx1 HX.out).mono ?_
  rintro e U3 ⟨⟨va, rfl, hOa⟩, hbU3⟩
  obtain ⟨pa, ka, rfl⟩ := hOa.form
  have HA := Lib.hid hOa.any
  clear hOa
  have HGA := Lib.hid (classOf_good x)
  replace hB := hB.trans (hbU3.mono hB.size)
  replace NX := Lib.hid ((hbU3.block _ (heap_lt NX.out)).trans NX.out)
  replace NY := Lib.hid ((hbU3.block _ (heap_lt NY.out)).trans NY.out)
  replace HX := Lib.hid (HX.out.ext hbU3)
  replace HY := Lib.hid (HY.out.ext hbU3)
  replace HG := Lib.hid (HG.out.ext hbU3)
  clear hbU3
  obtain ⟨A, hA⟩ : ∃ A, classOf x = A := ⟨_, rfl⟩
  rw [hA] at HA HGA ⊢
  clear hA
  have d0 := blk_cells' NY.out 0
  have d1 := blk_cells' NY.out 1
  simp only [List.getElem?_toArray, List.getElem?_cons_zero, List.getElem?_cons_succ] at d0 d1
  have lt_NX := heap_lt NX.out
  have lt_NY := heap_lt NY.out
  go_wp2_with fail
  clear d0 d1
  clear lt_NX lt_NY
  have lB3_NX := heap_lt NX.out
  have lB3_NY := heap_lt NY.out
  have hBa : Below (U3).heap.size (U3) ((U3).alloc (.cells #[.string (str A.n), .slice pa A.fs.length ka] 27)) := (Below.refl _ _).alloc (Nat.le_refl _) _
  have NA := World.alloc_heap_new (U3) (.cells #[.string (str A.n), .slice pa A.fs.length ka] 27)
  replace NA := Lib.hid NA
  replace hB := hB.trans (hBa.mono hB.size)
  replace NX := Lib.hid ((hBa.block _ (heap_lt NX.out)).trans NX.out)
  replace NY := Lib.hid ((hBa.block _ (heap_lt NY.out)).trans NY.out)
  replace HX := Lib.hid (HX.out.ext hBa)
  replace HY := Lib.hid (HY.out.ext hBa)
  replace HG := Lib.hid (HG.out.ext hBa)
  replace HA := Lib.hid (HA.out.ext hBa)
  clear hBa
  obtain ⟨U4, hV⟩ : ∃ V, (U3).alloc (.cells #[.string (str A.n), .slice pa A.fs.length ka] 27) = V := ⟨_, rfl⟩
  obtain ⟨B3, hV2⟩ : ∃ B, U3.heap.size = B := ⟨_, rfl⟩
  rw [hV] at NX NY NA HX HY HG HA hB ⊢
  rw [hV2] at NA lB3_NX lB3_NY ⊢
  clear hV hV2
  refine (ClassOf_any y _ U4 hy0 hy1 HY.out).mono ?_
  rintro e U5 ⟨⟨vb, rfl, hOb⟩, hbU5⟩
  obtain ⟨pb, kb, rfl⟩ := hOb.form
  have HC := Lib.hid hOb.any
  clear hOb
  have HGC := Lib.hid (classOf_good y)
  replace hB := hB.trans (hbU5.mono hB.size)
  replace NX := Lib.hid ((hbU5.block _ (heap_lt NX.out)).trans NX.out)
  replace NY := Lib.hid ((hbU5.block _ (heap_lt NY.out)).trans NY.out)
  replace NA := Lib.hid ((hbU5.block _ (heap_lt NA.out)).trans NA.out)
  replace HX := Lib.hid (HX.out.ext hbU5)
  replace HY := Lib.hid (HY.out.ext hbU5)
  replace HG := Lib.hid (HG.out.ext hbU5)
  replace HA := Lib.hid (HA.out.ext hbU5)
  clear hbU5
  obtain ⟨C, hC⟩ : ∃ C, classOf y = C := ⟨_, rfl⟩
  rw [hC] at HC HGC ⊢
  clear hC
  have d0 := blk_cells' NA.out 0
  have d1 := blk_cells' NA.out 1
  simp only [List.getElem?_toArray, List.getElem?_cons_zero, List.getElem?_cons_succ] at d0 d1
  have lt_NX := heap_lt NX.out
  have lt_NY := heap_lt NY.out
  have lt_NA := heap_lt NA.out
  go_wp2_with fail
  clear d0 d1
  clear lt_NX lt_NY lt_NA
  have lB4_NX := heap_lt NX.out
  have lB4_NY := heap_lt NY.out
  have lB4_NA := heap_lt NA.out
  have hBa : Below (U5).heap.size (U5) ((U5).alloc (.cells #[.string (str C.n), .slice pb C.fs.length kb] 27)) := (Below.refl _ _).alloc (Nat.le_refl _) _
  have NC := World.alloc_heap_new (U5) (.cells #[.string (str C.n), .slice pb C.fs.length kb] 27)
  replace NC := Lib.hid NC
  replace hB := hB.trans (hBa.mono hB.size)
  replace NX := Lib.hid ((hBa.block _ (heap_lt NX.out)).trans NX.out)
  replace NY := Lib.hid ((hBa.block _ (heap_lt NY.out)).trans NY.out)
  replace NA := Lib.hid ((hBa.block _ (heap_lt NA.out)).trans NA.out)
  replace HX := Lib.hid (HX.out.ext hBa)
  replace HY := Lib.hid (HY.out.ext hBa)
  replace HG := Lib.hid (HG.out.ext hBa)
  replace HA := Lib.hid (HA.out.ext hBa)
  replace HC := Lib.hid (HC.out.ext hBa)
  clear hBa
  obtain ⟨U6, hV⟩ : ∃ V, (U5).alloc (.cells #[.string (str C.n), .slice pb C.fs.length kb] 27) = V := ⟨_, rfl⟩
  obtain ⟨B4, hV2⟩ : ∃ B, U5.heap.size = B := ⟨_, rfl⟩
  rw [hV] at NX NY NA NC HX HY HG HA HC hB ⊢
  rw [hV2] at NC lB4_NX lB4_NY lB4_NA ⊢
  clear hV hV2
  refine (Encode_any A.n A.fs _ U6 (by have := HGA.out.nm.2; omega) HGA.out.texts HA.out).mono ?_
  rintro e U7 ⟨rfl, hbU7⟩
  replace hB := hB.trans (hbU7.mono hB.size)
  replace NX := Lib.hid ((hbU7.block _ (heap_lt NX.out)).trans NX.out)
  replace NY := Lib.hid ((hbU7.block _ (heap_lt NY.out)).trans NY.out)
  replace NA := Lib.hid ((hbU7.block _ (heap_lt NA.out)).trans NA.out)
  replace NC := Lib.hid ((hbU7.block _ (heap_lt NC.out)).trans NC.out)
  replace HX := Lib.hid (HX.out.ext hbU7)
  replace HY := Lib.hid (HY.out.ext hbU7)
  replace HG := Lib.hid (HG.out.ext hbU7)
  replace HA := Lib.hid (HA.out.ext hbU7)
  replace HC := Lib.hid (HC.out.ext hbU7)
  clear hbU7
  rw [show encRes ⟨A.n, A.fs⟩ = .tuple #[.string (str (encode A)), .int .i64 0] from if_pos HGA.out.right]
  have hu0 := encode_pos A
  have hu1 := encode_le A HGA.out.right
  have HUR := Lib.hid (back_read A HGA.out.right)
  have HUC := Lib.hid (back_cut A HGA.out.right)
  have HUS := Lib.hid (back_same A C HGA.out.right HGC.out.right)
  obtain ⟨u, hu⟩ : ∃ u, encode A = u := ⟨_, rfl⟩
  rw [hu] at hu0 hu1 HUR HUC HUS ⊢
  clear hu
  have d0 := blk_cells' NC.out 0
  have d1 := blk_cells' NC.out 1
  simp only [List.getElem?_toArray, List.getElem?_cons_zero, List.getElem?_cons_succ] at d0 d1
  go_wp2_with fail
  clear d0 d1
  refine (Encode_any C.n C.fs _ U7 (by have := HGC.out.nm.2; omega) HGC.out.texts HC.out).mono ?_
  rintro e U8 ⟨rfl, hbU8⟩
  replace hB := hB.trans (hbU8.mono hB.size)
  replace NX := Lib.hid ((hbU8.block _ (heap_lt NX.out)).trans NX.out)
  replace NY := Lib.hid ((hbU8.block _ (heap_lt NY.out)).trans NY.out)
  replace NA := Lib.hid ((hbU8.block _ (heap_lt NA.out)).trans NA.out)
  replace NC := Lib.hid ((hbU8.block _ (heap_lt NC.out)).trans NC.out)
  replace HX := Lib.hid (HX.out.ext hbU8)
  replace HY := Lib.hid (HY.out.ext hbU8)
  replace HG := Lib.hid (HG.out.ext hbU8)
  replace HA := Lib.hid (HA.out.ext hbU8)
  replace HC := Lib.hid (HC.out.ext hbU8)
  clear hbU8
  rw [show encRes ⟨C.n, C.fs⟩ = .tuple #[.string (str (encode C)), .int .i64 0] from if_pos HGC.out.right]
  obtain ⟨v, hv⟩ : ∃ v, encode C = v := ⟨_, rfl⟩
  rw [hv] at HUS ⊢
  clear hv
  go_wp2_with fail
  have hpl : min (min (s.length : Int) 100).toNat s.length = (List.take (min (s.length : Int) 100).toNat s).length := by simp
  have hpl1 : (List.take (min (s.length : Int) 100).toNat s).length ≤ 100 := by simp; omega
  have hql1 : (List.take (min (t.length : Int) 100).toNat t).length ≤ 100 := by simp; omega
  rw [hpl]
  clear hpl
  obtain ⟨pre, hpre⟩ : ∃ p, List.take (min (s.length : Int) 100).toNat s = p := ⟨_, rfl⟩
  obtain ⟨post, hpost⟩ : ∃ p, List.take (min (t.length : Int) 100).toNat t = p := ⟨_, rfl⟩
  rw [hpre] at hpl1 ⊢
  rw [hpost] at hql1 ⊢
  clear hpre hpost
  have hdec := HUR.out pre post
  rw [List.append_assoc] at hdec
  refine (Decode_any (pre ++ (u ++ post)) pre.length a0 a1 U8 (by simp; omega) (by omega) (by omega) HG.out).mono ?_
  rintro e U9 ⟨⟨vd, he, hFd⟩, hbU9⟩
  rw [hdec] at he hFd
  dsimp only [decOut] at he hFd
  obtain ⟨pd, kd, rfl, hkd, hmd⟩ := hFd.form
  have HD := Lib.hid (hFd.weaken (fun _ _ => trivial) : IsF (fun _ => True) _ _ _)
  subst he
  clear hFd hdec
  replace hB := hB.trans (hbU9.mono hB.size)
  replace NX := Lib.hid ((hbU9.block _ (heap_lt NX.out)).trans NX.out)
  replace NY := Lib.hid ((hbU9.block _ (heap_lt NY.out)).trans NY.out)
  replace NA := Lib.hid ((hbU9.block _ (heap_lt NA.out)).trans NA.out)
  replace NC := Lib.hid ((hbU9.block _ (heap_lt NC.out)).trans NC.out)
  replace HX := Lib.hid (HX.out.ext hbU9)
  replace HY := Lib.hid (HY.out.ext hbU9)
  replace HG := Lib.hid (HG.out.ext hbU9)
  replace HA := Lib.hid (HA.out.ext hbU9)
  replace HC := Lib.hid (HC.out.ext hbU9)
  clear hbU9
  have d0 := blk_cells' NA.out 0
  have d1 := blk_cells' NA.out 1
  simp only [List.getElem?_toArray, List.getElem?_cons_zero, List.getElem?_cons_succ] at d0 d1
  have lt_NX := heap_lt NX.out
  have lt_NY := heap_lt NY.out
  have lt_NA := heap_lt NA.out
  have lt_NC := heap_lt NC.out
  go_wp2_with fail
  clear d0 d1
  clear lt_NX lt_NY lt_NA lt_NC
  have lB5_NX := heap_lt NX.out
  have lB5_NY := heap_lt NY.out
  have lB5_NA := heap_lt NA.out
  have lB5_NC := heap_lt NC.out
  have hBa : Below (U9).heap.size (U9) ((U9).alloc (.cells #[.string (str A.n), .slice pd A.fs.length kd] 27)) := (Below.refl _ _).alloc (Nat.le_refl _) _
  have ND := World.alloc_heap_new (U9) (.cells #[.string (str A.n), .slice pd A.fs.length kd] 27)
  replace ND := Lib.hid ND
  replace hB := hB.trans (hBa.mono hB.size)
  replace NX := Lib.hid ((hBa.block _ (heap_lt NX.out)).trans NX.out)
  replace NY := Lib.hid ((hBa.block _ (heap_lt NY.out)).trans NY.out)
  replace NA := Lib.hid ((hBa.block _ (heap_lt NA.out)).trans NA.out)
  replace NC := Lib.hid ((hBa.block _ (heap_lt NC.out)).trans NC.out)
  replace HX := Lib.hid (HX.out.ext hBa)
  replace HY := Lib.hid (HY.out.ext hBa)
  replace HG := Lib.hid (HG.out.ext hBa)
  replace HA := Lib.hid (HA.out.ext hBa)
  replace HC := Lib.hid (HC.out.ext hBa)
  replace HD := Lib.hid (HD.out.ext hBa)
  clear hBa
  obtain ⟨U10, hV⟩ : ∃ V, (U9).alloc (.cells #[.string (str A.n), .slice pd A.fs.length kd] 27) = V := ⟨_, rfl⟩
  obtain ⟨B5, hV2⟩ : ∃ B, U9.heap.size = B := ⟨_, rfl⟩
  rw [hV] at NX NY NA NC ND HX HY HG HA HC HD hB ⊢
  rw [hV2] at ND lB5_NX lB5_NY lB5_NA lB5_NC ⊢
  clear hV hV2
  refine (Same_any A.n A.n A.fs A.fs _ _ U10 HD.out HA.out).mono ?_
  rintro e U11 ⟨rfl, hbU11⟩
  replace hB := hB.trans (hbU11.mono hB.size)
  replace NX := Lib.hid ((hbU11.block _ (heap_lt NX.out)).trans NX.out)
  replace NY := Lib.hid ((hbU11.block _ (heap_lt NY.out)).trans NY.out)
  replace NA := Lib.hid ((hbU11.block _ (heap_lt NA.out)).trans NA.out)
  replace NC := Lib.hid ((hbU11.block _ (heap_lt NC.out)).trans NC.out)
  replace ND := Lib.hid ((hbU11.block _ (heap_lt ND.out)).trans ND.out)
  replace HX := Lib.hid (HX.out.ext hbU11)
  replace HY := Lib.hid (HY.out.ext hbU11)
  replace HG := Lib.hid (HG.out.ext hbU11)
  replace HA := Lib.hid (HA.out.ext hbU11)
  replace HC := Lib.hid (HC.out.ext hbU11)
  replace HD := Lib.hid (HD.out.ext hbU11)
  clear hbU11
  rw [show sameClass ⟨A.n, A.fs⟩ ⟨A.n, A.fs⟩ = true from (same_iff _ _).2 rfl]
  have hz : ((u.length : Int) == 0) = false := by rw [beq_eq_false_iff_ne]; omega
  have hm0 : 0 ≤ cut % (u.length : Int) := Int.emod_nonneg _ (by omega)
  have hm1 : cut % (u.length : Int) ≤ u.length := by have := Int.emod_lt_of_pos cut (show (0 : Int) < u.length by omega); omega
  have hm2 : (cut % (u.length : Int)).toNat < u.length := by have := Int.emod_lt_of_pos cut (show (0 : Int) < u.length by omega); omega
  go_wp2_with fail
  have hcut := HUC.out _ hm2
  refine (Decode_any (List.take (cut % (u.length : Int)).toNat u) 0 a0 a1 U11 (by simp; omega) (by omega) (by omega) HG.out).mono ?_
  rintro e U12 ⟨⟨vn, he, hFn⟩, hbU12⟩
  rw [hcut] at he hFn
  dsimp only [decOut] at he hFn
  obtain ⟨pn, kn, rfl, hkn, hmn⟩ := hFn.form
  subst he
  clear hFn hcut
  replace hB := hB.trans (hbU12.mono hB.size)
  replace NX := Lib.hid ((hbU12.block _ (heap_lt NX.out)).trans NX.out)
  replace NY := Lib.hid ((hbU12.block _ (heap_lt NY.out)).trans NY.out)
  replace NA := Lib.hid ((hbU12.block _ (heap_lt NA.out)).trans NA.out)
  replace NC := Lib.hid ((hbU12.block _ (heap_lt NC.out)).trans NC.out)
  replace ND := Lib.hid ((hbU12.block _ (heap_lt ND.out)).trans ND.out)
  replace HX := Lib.hid (HX.out.ext hbU12)
  replace HY := Lib.hid (HY.out.ext hbU12)
  replace HG := Lib.hid (HG.out.ext hbU12)
  replace HA := Lib.hid (HA.out.ext hbU12)
  replace HC := Lib.hid (HC.out.ext hbU12)
  replace HD := Lib.hid (HD.out.ext hbU12)
  clear hbU12
  clear hm0 hm1 hm2 hz
  have hus : (u == v) = sameClass A C := HUS.out
  have d0 := blk_cells' NA.out 0
  have d1 := blk_cells' NA.out 1
  simp only [List.getElem?_toArray, List.getElem?_cons_zero, List.getElem?_cons_succ] at d0 d1
  have g0 := blk_cells' NC.out 0
  have g1 := blk_cells' NC.out 1
  simp only [List.getElem?_toArray, List.getElem?_cons_zero, List.getElem?_cons_succ] at g0 g1
  have lt_NX := heap_lt NX.out
  have lt_NY := heap_lt NY.out
  have lt_NA := heap_lt NA.out
  have lt_NC := heap_lt NC.out
  have lt_ND := heap_lt ND.out
  cases hsc : sameClass A C
  all_goals
    rw [hsc] at hus
    have HSC := Lib.hid hsc
    clear hsc
    go_wp2_with fail
    clear d0 d1 g0 g1
    clear lt_NX lt_NY lt_NA lt_NC lt_ND
    have lB6_NX := heap_lt NX.out
    have lB6_NY := heap_lt NY.out
    have lB6_NA := heap_lt NA.out
    have lB6_NC := heap_lt NC.out
    have lB6_ND := heap_lt ND.out
    have hBa : Below (U12).heap.size (U12) ((U12).alloc (.cells #[.string (str []), .slice pn 0 kn] 27)) := (Below.refl _ _).alloc (Nat.le_refl _) _
    have NN := World.alloc_heap_new (U12) (.cells #[.string (str []), .slice pn 0 kn] 27)
    replace NN := Lib.hid NN
    replace hB := hB.trans (hBa.mono hB.size)
    replace NX := Lib.hid ((hBa.block _ (heap_lt NX.out)).trans NX.out)
    replace NY := Lib.hid ((hBa.block _ (heap_lt NY.out)).trans NY.out)
    replace NA := Lib.hid ((hBa.block _ (heap_lt NA.out)).trans NA.out)
    replace NC := Lib.hid ((hBa.block _ (heap_lt NC.out)).trans NC.out)
    replace ND := Lib.hid ((hBa.block _ (heap_lt ND.out)).trans ND.out)
    replace HX := Lib.hid (HX.out.ext hBa)
    replace HY := Lib.hid (HY.out.ext hBa)
    replace HG := Lib.hid (HG.out.ext hBa)
    replace HA := Lib.hid (HA.out.ext hBa)
    replace HC := Lib.hid (HC.out.ext hBa)
    replace HD := Lib.hid (HD.out.ext hBa)
    clear hBa
    obtain ⟨U13, hV⟩ : ∃ V, (U12).alloc (.cells #[.string (str []), .slice pn 0 kn] 27) = V := ⟨_, rfl⟩
    obtain ⟨B6, hV2⟩ : ∃ B, U12.heap.size = B := ⟨_, rfl⟩
    rw [hV] at NX NY NA NC ND NN HX HY HG HA HC HD hB ⊢
    rw [hV2] at NN lB6_NX lB6_NY lB6_NA lB6_NC lB6_ND ⊢
    clear hV hV2
    refine (Same_any A.n C.n A.fs C.fs _ _ U13 HA.out HC.out).mono ?_
    rintro e U14 ⟨rfl, hbU14⟩
    replace hB := hB.trans (hbU14.mono hB.size)
    replace NX := Lib.hid ((hbU14.block _ (heap_lt NX.out)).trans NX.out)
    replace NY := Lib.hid ((hbU14.block _ (heap_lt NY.out)).trans NY.out)
    replace NA := Lib.hid ((hbU14.block _ (heap_lt NA.out)).trans NA.out)
    replace NC := Lib.hid ((hbU14.block _ (heap_lt NC.out)).trans NC.out)
    replace ND := Lib.hid ((hbU14.block _ (heap_lt ND.out)).trans ND.out)
    replace NN := Lib.hid ((hbU14.block _ (heap_lt NN.out)).trans NN.out)
    replace HX := Lib.hid (HX.out.ext hbU14)
    replace HY := Lib.hid (HY.out.ext hbU14)
    replace HG := Lib.hid (HG.out.ext hbU14)
    replace HA := Lib.hid (HA.out.ext hbU14)
    replace HC := Lib.hid (HC.out.ext hbU14)
    replace HD := Lib.hid (HD.out.ext hbU14)
    clear hbU14
    rw [show sameClass ⟨A.n, A.fs⟩ ⟨C.n, C.fs⟩ = _ from HSC.out]
    go_wp2_with fail
    go_ret
    exact ⟨rfl, hB⟩
end Go.Proofs.YtdlolkogifigpaaDoor
