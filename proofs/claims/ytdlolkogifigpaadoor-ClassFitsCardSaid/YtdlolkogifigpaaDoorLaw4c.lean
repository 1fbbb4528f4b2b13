/- Chapter 4's examples. -/
import Derived.Test.YtdlolkogifigpaaDoorPLaw4
import Derived.Test.YtdlolkogifigpaaDoorLaw4a
import Derived.Outline
namespace Go.Proofs.YtdlolkogifigpaaDoor
open Go Go.RowKit Go.Mor
set_option maxHeartbeats 4000000

abbrev bF : Obj := .cells #[.string ⟨#[97]⟩, .int .i64 1, .int .i64 0, .bool true, .string ⟨#[98]⟩, .int .i64 3, .int .i64 0, .bool false] 53
abbrev bC (b : Nat) : Obj := .cells #[.string ⟨#[110]⟩, .slice (some ⟨b, 0, none⟩) 2 2] 27
abbrev b5 : Obj := .cells #[.int .i64 1, .int .i64 5, .string ⟨#[]⟩, .slice none 0 0] 31
theorem cat3 (S : List UInt8) : (⟨#[120]⟩ : ByteArray) ++ str S ++ (⟨#[121]⟩ : ByteArray) = str ([120] ++ S ++ [121]) := by
  show str [120] ++ str S ++ str [121] = _
  rw [str_append, str_append]
theorem vOk {l : List V} (h : ∀ x ∈ l, x.s = [] ∧ x.l = []) : VTextsOk l := by
  intro x hx
  obtain ⟨h1, h2⟩ := h x hx
  exact ⟨by rw [TextsOk, h1]; decide, by rw [h2]; intro y hy; cases hy⟩

set_option maxRecDepth 10000 in
theorem examples_any (a0 a1 : Addr) (w : World) (hG : Glob w a0 a1) :
    Calls Tryd.prog 12 #[] w fun e w' => e = .returned (.bool true) ∧ Below w.heap.size w w' := by
  obtain ⟨q0, q1, q2, q3, hB0, hsz⟩ := alloc4x w bF (bC w.heap.size) b5 (.cells #[.int .i64 1, .int .i64 5, .string ⟨#[]⟩, .slice none 0 0, .int .i64 3, .int .i64 3, .string ⟨#[]⟩, .slice none 0 0] 31)
  have Q0 := Lib.hid q0; have Q1 := Lib.hid q1; have Q2 := Lib.hid q2; have Q3 := Lib.hid q3
  have HG := Lib.hid hG
  clear q0 q1 q2 q3 hG hsz
  go_enter Tryd.func12, Tryd.ntmps12
  go_wp2_with fail
  obtain ⟨W, hW⟩ : ∃ W, (((w.alloc bF).alloc (bC w.heap.size)).alloc b5).alloc (.cells #[.int .i64 1, .int .i64 5, .string ⟨#[]⟩, .slice none 0 0, .int .i64 3, .int .i64 3, .string ⟨#[]⟩, .slice none 0 0] 31) = W := ⟨_, rfl⟩
  rw [hW] at Q0 Q1 Q2 Q3 hB0 ⊢
  clear hW
  refine (Check_any [110] exF [five, ref3] _ _ a0 a1 W (by decide) exF_texts (vOk (by simp [five, ref3, V.s, V.l])) (isF_ex Q0.out) (isL_2 five ref3 rfl rfl Q3.out) (HG.out.ext hB0)).mono ?_
  rintro e W1 ⟨rfl, hb1⟩
  rw [show checkRes ⟨[110], exF⟩ [five, ref3] = _ from ex1]
  have P0 := Lib.hid ((hb1.block _ (heap_lt Q0.out)).trans Q0.out)
  have P1 := Lib.hid ((hb1.block _ (heap_lt Q1.out)).trans Q1.out)
  have P2 := Lib.hid ((hb1.block _ (heap_lt Q2.out)).trans Q2.out)
  have hB1 := hB0.trans (hb1.mono hB0.size)
  clear Q0 Q1 Q2 Q3 hb1 hB0
  obtain ⟨d0, d1⟩ := blk2 P1.out
  obtain ⟨f0, f1, f2, f3⟩ := blk4 P2.out
  have hBa : Below W1.heap.size W1 (W1.alloc (.cells #[.int .i64 1, .int .i64 5, .string ⟨#[]⟩, .slice none 0 0, .int .i64 0, .int .i64 0, .string ⟨#[]⟩, .slice none 0 0] 31)) := (Below.refl _ _).alloc (Nat.le_refl _) _
  have N3 := Lib.hid (World.alloc_heap_new W1 (.cells #[.int .i64 1, .int .i64 5, .string ⟨#[]⟩, .slice none 0 0, .int .i64 0, .int .i64 0, .string ⟨#[]⟩, .slice none 0 0] 31))
  have N0 := Lib.hid ((hBa.block _ (heap_lt P0.out)).trans P0.out)
  have N1 := Lib.hid ((hBa.block _ (heap_lt P1.out)).trans P1.out)
  have N2 := Lib.hid ((hBa.block _ (heap_lt P2.out)).trans P2.out)
  have hBb := hB1.trans (hBa.mono hB1.size)
  go_wp2_with fail
  obtain ⟨V2, hV⟩ : ∃ V, W1.alloc (.cells #[.int .i64 1, .int .i64 5, .string ⟨#[]⟩, .slice none 0 0, .int .i64 0, .int .i64 0, .string ⟨#[]⟩, .slice none 0 0] 31) = V := ⟨_, rfl⟩
  rw [hV] at N0 N1 N2 N3 hBb ⊢
  clear hV d0 d1 f0 f1 f2 f3 hBa P0 P1 P2
  refine (Check_any [110] exF [five, V.nil] _ _ a0 a1 V2 (by decide) exF_texts (vOk (by simp [five, V.nil, V.s, V.l])) (isF_ex N0.out) (isL_2 five V.nil rfl rfl N3.out) (HG.out.ext hBb)).mono ?_
  rintro e W2 ⟨rfl, hb2⟩
  rw [show checkRes ⟨[110], exF⟩ [five, V.nil] = _ from ex2]
  have P0 := Lib.hid ((hb2.block _ (heap_lt N0.out)).trans N0.out)
  have P1 := Lib.hid ((hb2.block _ (heap_lt N1.out)).trans N1.out)
  have P2 := Lib.hid ((hb2.block _ (heap_lt N2.out)).trans N2.out)
  have hB2 := hBb.trans (hb2.mono hBb.size)
  clear N0 N1 N2 N3 hb2 hBb
  obtain ⟨d0, d1⟩ := blk2 P1.out
  obtain ⟨f0, f1, f2, f3⟩ := blk4 P2.out
  have hBa : Below W2.heap.size W2 (W2.alloc (.cells #[.int .i64 1, .int .i64 5, .string ⟨#[]⟩, .slice none 0 0] 31)) := (Below.refl _ _).alloc (Nat.le_refl _) _
  have N3 := Lib.hid (World.alloc_heap_new W2 (.cells #[.int .i64 1, .int .i64 5, .string ⟨#[]⟩, .slice none 0 0] 31))
  have N0 := Lib.hid ((hBa.block _ (heap_lt P0.out)).trans P0.out)
  have N1 := Lib.hid ((hBa.block _ (heap_lt P1.out)).trans P1.out)
  have N2 := Lib.hid ((hBa.block _ (heap_lt P2.out)).trans P2.out)
  have hBb := hB2.trans (hBa.mono hB2.size)
  go_wp2_with fail
  obtain ⟨V3, hV⟩ : ∃ V, W2.alloc (.cells #[.int .i64 1, .int .i64 5, .string ⟨#[]⟩, .slice none 0 0] 31) = V := ⟨_, rfl⟩
  rw [hV] at N0 N1 N2 N3 hBb ⊢
  clear hV d0 d1 f0 f1 f2 f3 hBa P0 P1 P2
  refine (Check_any [110] exF [five] _ _ a0 a1 V3 (by decide) exF_texts (vOk (by simp [five, V.nil, V.s, V.l])) (isF_ex N0.out) (isL_1 five rfl N3.out) (HG.out.ext hBb)).mono ?_
  rintro e W3 ⟨rfl, hb3⟩
  rw [show checkRes ⟨[110], exF⟩ [five] = _ from ex3]
  have P0 := Lib.hid ((hb3.block _ (heap_lt N0.out)).trans N0.out)
  have P1 := Lib.hid ((hb3.block _ (heap_lt N1.out)).trans N1.out)
  have P2 := Lib.hid ((hb3.block _ (heap_lt N2.out)).trans N2.out)
  have hB3 := hBb.trans (hb3.mono hBb.size)
  clear N0 N1 N2 N3 hb3 hBb
  obtain ⟨d0, d1⟩ := blk2 P1.out
  obtain ⟨f0, f1, f2, f3⟩ := blk4 P2.out
  have hBa : Below W3.heap.size W3 (W3.alloc (.cells #[.int .i64 1, .int .i64 5, .string ⟨#[]⟩, .slice none 0 0, .int .i64 1, .int .i64 5, .string ⟨#[]⟩, .slice none 0 0] 31)) := (Below.refl _ _).alloc (Nat.le_refl _) _
  have N3 := Lib.hid (World.alloc_heap_new W3 (.cells #[.int .i64 1, .int .i64 5, .string ⟨#[]⟩, .slice none 0 0, .int .i64 1, .int .i64 5, .string ⟨#[]⟩, .slice none 0 0] 31))
  have N0 := Lib.hid ((hBa.block _ (heap_lt P0.out)).trans P0.out)
  have N1 := Lib.hid ((hBa.block _ (heap_lt P1.out)).trans P1.out)
  have N2 := Lib.hid ((hBa.block _ (heap_lt P2.out)).trans P2.out)
  have hBb := hB3.trans (hBa.mono hB3.size)
  go_wp2_with fail
  obtain ⟨V4, hV⟩ : ∃ V, W3.alloc (.cells #[.int .i64 1, .int .i64 5, .string ⟨#[]⟩, .slice none 0 0, .int .i64 1, .int .i64 5, .string ⟨#[]⟩, .slice none 0 0] 31) = V := ⟨_, rfl⟩
  rw [hV] at N0 N1 N2 N3 hBb ⊢
  clear hV d0 d1 f0 f1 f2 f3 hBa P0 P1 P2
  refine (Check_any [110] exF [five, five] _ _ a0 a1 V4 (by decide) exF_texts (vOk (by simp [five, V.nil, V.s, V.l])) (isF_ex N0.out) (isL_2 five five rfl rfl N3.out) (HG.out.ext hBb)).mono ?_
  rintro e W4 ⟨rfl, hb4⟩
  rw [show checkRes ⟨[110], exF⟩ [five, five] = _ from ex4]
  have P0 := Lib.hid ((hb4.block _ (heap_lt N0.out)).trans N0.out)
  have P1 := Lib.hid ((hb4.block _ (heap_lt N1.out)).trans N1.out)
  have P2 := Lib.hid ((hb4.block _ (heap_lt N2.out)).trans N2.out)
  have hB4 := hBb.trans (hb4.mono hBb.size)
  clear N0 N1 N2 N3 hb4 hBb
  obtain ⟨d0, d1⟩ := blk2 P1.out
  obtain ⟨f0, f1, f2, f3⟩ := blk4 P2.out
  clear f0 f1 f2 f3 P2
  go_wp2_with fail
  refine (Encode_any [110] exF _ W4 (by decide) exF_texts (isF_ex P0.out)).mono ?_
  rintro e W5 ⟨rfl, hb5⟩
  rw [show encRes ⟨[110], exF⟩ = _ from ex5]
  have N0 := Lib.hid ((hb5.block _ (heap_lt P0.out)).trans P0.out)
  have N1 := Lib.hid ((hb5.block _ (heap_lt P1.out)).trans P1.out)
  have hB5 := hB4.trans (hb5.mono hB4.size)
  clear d0 d1 P0 P1 hb5
  have P0 := N0; have P1 := N1
  clear N0 N1
  obtain ⟨d0, d1⟩ := blk2 P1.out
  have hexs : exS.length < 100 := by decide
  obtain ⟨S, hS⟩ : ∃ S, exS = S := ⟨_, rfl⟩
  rw [hS] at hexs ⊢
  have HS := Lib.hid hS
  clear hS
  go_wp2_with fail
  rw [cat3]
  refine (Decode_any ([120] ++ S ++ [121]) 1 a0 a1 W5 (by simp; omega) (by omega) (by omega) (HG.out.ext hB5)).mono ?_
  rintro e W6 hd
  rw [show decode ([120] ++ S ++ [121]) 1 = some (exC, 14) by rw [← HS.out]; exact ex7] at hd
  obtain ⟨⟨vd, rfl, hFd⟩, hb6⟩ := hd
  dsimp only [decOut, exC] at *
  obtain ⟨pd, cd, rfl, hcd, hmd⟩ := hFd.form
  have N0 := Lib.hid ((hb6.block _ (heap_lt P0.out)).trans P0.out)
  have N1 := Lib.hid ((hb6.block _ (heap_lt P1.out)).trans P1.out)
  have hB6 := hB5.trans (hb6.mono hB5.size)
  have HFD := Lib.hid (hFd.weaken (fun _ _ => trivial))
  clear d0 d1 P0 P1 hb6 hFd
  obtain ⟨d0, d1⟩ := blk2 N1.out
  have hBa : Below W6.heap.size W6 (W6.alloc (.cells #[.string (str [110]), .slice pd exF.length cd] 27)) := (Below.refl _ _).alloc (Nat.le_refl _) _
  have ND := Lib.hid (World.alloc_heap_new W6 (.cells #[.string (str [110]), .slice pd exF.length cd] 27))
  have M0 := Lib.hid ((hBa.block _ (heap_lt N0.out)).trans N0.out)
  have M1 := Lib.hid ((hBa.block _ (heap_lt N1.out)).trans N1.out)
  have MF := Lib.hid (HFD.out.ext hBa)
  have hBb := hB6.trans (hBa.mono hB6.size)
  go_wp2_with fail
  obtain ⟨V6, hV⟩ : ∃ V, W6.alloc (.cells #[.string (str [110]), .slice pd exF.length cd] 27) = V := ⟨_, rfl⟩
  obtain ⟨B6, hB6e⟩ : ∃ B, W6.heap.size = B := ⟨_, rfl⟩
  rw [hV] at M0 M1 MF ND hBb ⊢
  rw [hB6e] at ND ⊢
  clear hV d0 d1 hBa N0 N1 HFD hB6e
  have N0 := M0; have N1 := M1; have HFD := MF
  clear M0 M1 MF
  obtain ⟨d0, d1⟩ := blk2 N1.out
  obtain ⟨g0, g1⟩ := blk2 ND.out
  refine (Decode_any S 1 a0 a1 V6 (by omega) (by omega) (by omega) (HG.out.ext hBb)).mono ?_
  rintro e W7 hd
  rw [show decode S 1 = none by rw [← HS.out]; exact ex8] at hd
  obtain ⟨⟨vd, rfl, hFn⟩, hb7⟩ := hd
  dsimp only [decOut] at *
  obtain ⟨pn, cn, rfl, _, _⟩ := hFn.form
  clear hFn
  have M0 := Lib.hid ((hb7.block _ (heap_lt N0.out)).trans N0.out)
  have M1 := Lib.hid ((hb7.block _ (heap_lt N1.out)).trans N1.out)
  have MD := Lib.hid ((hb7.block _ (heap_lt ND.out)).trans ND.out)
  have MF := Lib.hid (HFD.out.ext hb7)
  have hB7 := hBb.trans (hb7.mono hBb.size)
  clear d0 d1 g0 g1 N0 N1 ND HFD hb7
  have N0 := M0; have N1 := M1; have ND := MD; have HFD := MF
  clear M0 M1 MD MF
  have d0 := blk_cells' N1.out 0
  have d1 := blk_cells' N1.out 1
  simp only [List.getElem?_toArray, List.getElem?_cons_zero, List.getElem?_cons_succ] at d0 d1
  have g0 := blk_cells' ND.out 0
  have g1 := blk_cells' ND.out 1
  simp only [List.getElem?_toArray, List.getElem?_cons_zero, List.getElem?_cons_succ] at g0 g1
  have lt_N0 := heap_lt N0.out
  have lt_N1 := heap_lt N1.out
  have lt_ND := heap_lt ND.out
  go_wp2_with fail
  clear d0 d1 g0 g1
  clear lt_N0 lt_N1 lt_ND
  have lB7_N0 := heap_lt N0.out
  have lB7_N1 := heap_lt N1.out
  have lB7_ND := heap_lt ND.out
  have hBa : Below (W7).heap.size (W7) ((W7).alloc (.cells #[.string (str []), .slice pn 0 cn] 27)) := (Below.refl _ _).alloc (Nat.le_refl _) _
  have NX := World.alloc_heap_new (W7) (.cells #[.string (str []), .slice pn 0 cn] 27)
  replace NX := Lib.hid NX
  replace hB7 := hB7.trans (hBa.mono hB7.size)
  replace N0 := Lib.hid ((hBa.block _ (heap_lt N0.out)).trans N0.out)
  replace N1 := Lib.hid ((hBa.block _ (heap_lt N1.out)).trans N1.out)
  replace ND := Lib.hid ((hBa.block _ (heap_lt ND.out)).trans ND.out)
  replace HFD := Lib.hid (HFD.out.ext hBa)
  clear hBa
  obtain ⟨U1, hV⟩ : ∃ V, (W7).alloc (.cells #[.string (str []), .slice pn 0 cn] 27) = V := ⟨_, rfl⟩
  obtain ⟨B7, hV2⟩ : ∃ B, W7.heap.size = B := ⟨_, rfl⟩
  rw [hV] at N0 N1 ND NX HFD hB7 ⊢
  rw [hV2] at NX lB7_N0 lB7_N1 lB7_ND ⊢
  clear hV hV2
  refine (Field_any [110] exF _ [98] U1 (isF_ex N0.out)).mono ?_
  rintro e U2 ⟨rfl, hbU2⟩
  replace hB7 := hB7.trans (hbU2.mono hB7.size)
  replace N0 := Lib.hid ((hbU2.block _ (heap_lt N0.out)).trans N0.out)
  replace N1 := Lib.hid ((hbU2.block _ (heap_lt N1.out)).trans N1.out)
  replace ND := Lib.hid ((hbU2.block _ (heap_lt ND.out)).trans ND.out)
  replace NX := Lib.hid ((hbU2.block _ (heap_lt NX.out)).trans NX.out)
  replace HFD := Lib.hid (HFD.out.ext hbU2)
  clear hbU2
  rw [ex10]
  have d0 := blk_cells' N1.out 0
  have d1 := blk_cells' N1.out 1
  simp only [List.getElem?_toArray, List.getElem?_cons_zero, List.getElem?_cons_succ] at d0 d1
  have g0 := blk_cells' ND.out 0
  have g1 := blk_cells' ND.out 1
  simp only [List.getElem?_toArray, List.getElem?_cons_zero, List.getElem?_cons_succ] at g0 g1
  go_wp2_with fail
  clear d0 d1 g0 g1
  refine (Field_any [110] exF _ [99] U2 (isF_ex N0.out)).mono ?_
  rintro e U3 ⟨rfl, hbU3⟩
  replace hB7 := hB7.trans (hbU3.mono hB7.size)
  replace N0 := Lib.hid ((hbU3.block _ (heap_lt N0.out)).trans N0.out)
  replace N1 := Lib.hid ((hbU3.block _ (heap_lt N1.out)).trans N1.out)
  replace ND := Lib.hid ((hbU3.block _ (heap_lt ND.out)).trans ND.out)
  replace NX := Lib.hid ((hbU3.block _ (heap_lt NX.out)).trans NX.out)
  replace HFD := Lib.hid (HFD.out.ext hbU3)
  clear hbU3
  rw [ex11]
  have d0 := blk_cells' N1.out 0
  have d1 := blk_cells' N1.out 1
  simp only [List.getElem?_toArray, List.getElem?_cons_zero, List.getElem?_cons_succ] at d0 d1
  have g0 := blk_cells' ND.out 0
  have g1 := blk_cells' ND.out 1
  simp only [List.getElem?_toArray, List.getElem?_cons_zero, List.getElem?_cons_succ] at g0 g1
  have hl13 : Hid (S.length = 13) := by show _ = _; rw [← HS.out]; exact ex9
  go_wp2_with fail
  clear d0 d1 g0 g1
  refine (refSame_any [110] [110] exF exF _ _ U3 (isF_ex N0.out) HFD.out).mono ?_
  rintro e U4 ⟨rfl, hbU4⟩
  replace hB7 := hB7.trans (hbU4.mono hB7.size)
  replace N0 := Lib.hid ((hbU4.block _ (heap_lt N0.out)).trans N0.out)
  replace N1 := Lib.hid ((hbU4.block _ (heap_lt N1.out)).trans N1.out)
  replace ND := Lib.hid ((hbU4.block _ (heap_lt ND.out)).trans ND.out)
  replace NX := Lib.hid ((hbU4.block _ (heap_lt NX.out)).trans NX.out)
  replace HFD := Lib.hid (HFD.out.ext hbU4)
  clear hbU4
  rw [show sameClass ⟨[110], exF⟩ ⟨[110], exF⟩ = true from ex16]
  have hl13' := hl13.out
  have d0 := blk_cells' N1.out 0
  have d1 := blk_cells' N1.out 1
  simp only [List.getElem?_toArray, List.getElem?_cons_zero, List.getElem?_cons_succ] at d0 d1
  go_wp2_with fail
  clear d0 d1
  refine (CRight_any [110] exF _ U4 (by decide) exF_texts (isF_ex N0.out)).mono ?_
  rintro e U5 ⟨rfl, hbU5⟩
  replace hB7 := hB7.trans (hbU5.mono hB7.size)
  replace N0 := Lib.hid ((hbU5.block _ (heap_lt N0.out)).trans N0.out)
  replace N1 := Lib.hid ((hbU5.block _ (heap_lt N1.out)).trans N1.out)
  replace ND := Lib.hid ((hbU5.block _ (heap_lt ND.out)).trans ND.out)
  replace NX := Lib.hid ((hbU5.block _ (heap_lt NX.out)).trans NX.out)
  replace HFD := Lib.hid (HFD.out.ext hbU5)
  clear hbU5
  rw [show rightClass ⟨[110], exF⟩ = true from ex12]
  have d0 := blk_cells' N1.out 0
  have d1 := blk_cells' N1.out 1
  simp only [List.getElem?_toArray, List.getElem?_cons_zero, List.getElem?_cons_succ] at d0 d1
  go_wp2_with fail
  clear d0 d1
  refine (CRight_any [] [] (.slice none 0 0) U5 (by decide) (by intro f hf; cases hf) IsF.none_).mono ?_
  rintro e U6 ⟨rfl, hbU6⟩
  replace hB7 := hB7.trans (hbU6.mono hB7.size)
  replace N0 := Lib.hid ((hbU6.block _ (heap_lt N0.out)).trans N0.out)
  replace N1 := Lib.hid ((hbU6.block _ (heap_lt N1.out)).trans N1.out)
  replace ND := Lib.hid ((hbU6.block _ (heap_lt ND.out)).trans ND.out)
  replace NX := Lib.hid ((hbU6.block _ (heap_lt NX.out)).trans NX.out)
  replace HFD := Lib.hid (HFD.out.ext hbU6)
  clear hbU6
  rw [ex13]
  go_wp2_with fail
  refine (RightType_any ⟨5, 4⟩ U6).mono ?_
  rintro e U7 ⟨rfl, hbU7⟩
  replace hB7 := hB7.trans (hbU7.mono hB7.size)
  replace N0 := Lib.hid ((hbU7.block _ (heap_lt N0.out)).trans N0.out)
  replace N1 := Lib.hid ((hbU7.block _ (heap_lt N1.out)).trans N1.out)
  replace ND := Lib.hid ((hbU7.block _ (heap_lt ND.out)).trans ND.out)
  replace NX := Lib.hid ((hbU7.block _ (heap_lt NX.out)).trans NX.out)
  replace HFD := Lib.hid (HFD.out.ext hbU7)
  clear hbU7
  rw [ex14]
  go_wp2_with fail
  refine (RightType_any ⟨5, 0⟩ U7).mono ?_
  rintro e U8 ⟨rfl, hbU8⟩
  replace hB7 := hB7.trans (hbU8.mono hB7.size)
  replace N0 := Lib.hid ((hbU8.block _ (heap_lt N0.out)).trans N0.out)
  replace N1 := Lib.hid ((hbU8.block _ (heap_lt N1.out)).trans N1.out)
  replace ND := Lib.hid ((hbU8.block _ (heap_lt ND.out)).trans ND.out)
  replace NX := Lib.hid ((hbU8.block _ (heap_lt NX.out)).trans NX.out)
  replace HFD := Lib.hid (HFD.out.ext hbU8)
  clear hbU8
  rw [ex15]
  have d0 := blk_cells' N1.out 0
  have d1 := blk_cells' N1.out 1
  simp only [List.getElem?_toArray, List.getElem?_cons_zero, List.getElem?_cons_succ] at d0 d1
  go_wp2_with fail
  clear d0 d1
  refine (Same_any [110] [110] exF exF _ _ U8 (isF_ex N0.out) (isF_ex N0.out)).mono ?_
  rintro e U9 ⟨rfl, hbU9⟩
  replace hB7 := hB7.trans (hbU9.mono hB7.size)
  replace N0 := Lib.hid ((hbU9.block _ (heap_lt N0.out)).trans N0.out)
  replace N1 := Lib.hid ((hbU9.block _ (heap_lt N1.out)).trans N1.out)
  replace ND := Lib.hid ((hbU9.block _ (heap_lt ND.out)).trans ND.out)
  replace NX := Lib.hid ((hbU9.block _ (heap_lt NX.out)).trans NX.out)
  replace HFD := Lib.hid (HFD.out.ext hbU9)
  clear hbU9
  rw [show sameClass ⟨[110], exF⟩ ⟨[110], exF⟩ = true from ex16]
  have d0 := blk_cells' N1.out 0
  have d1 := blk_cells' N1.out 1
  simp only [List.getElem?_toArray, List.getElem?_cons_zero, List.getElem?_cons_succ] at d0 d1
  go_wp2_with fail
  clear d0 d1
  refine (Same_any [110] [] exF [] _ (.slice none 0 0) U9 (isF_ex N0.out) IsF.none_).mono ?_
  rintro e U10 ⟨rfl, hbU10⟩
  replace hB7 := hB7.trans (hbU10.mono hB7.size)
  replace N0 := Lib.hid ((hbU10.block _ (heap_lt N0.out)).trans N0.out)
  replace N1 := Lib.hid ((hbU10.block _ (heap_lt N1.out)).trans N1.out)
  replace ND := Lib.hid ((hbU10.block _ (heap_lt ND.out)).trans ND.out)
  replace NX := Lib.hid ((hbU10.block _ (heap_lt NX.out)).trans NX.out)
  replace HFD := Lib.hid (HFD.out.ext hbU10)
  clear hbU10
  rw [show sameClass ⟨[110], exF⟩ ⟨[], []⟩ = false from ex17]
  go_wp2_with fail
  go_ret
  exact ⟨rfl, hB7⟩
end Go.Proofs.YtdlolkogifigpaaDoor
