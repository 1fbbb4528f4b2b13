/- Texts by the document's signs are texts by the decoder; what ValText, ValOne, fit make is right. Plain Lean. No statement of the program is proved here. -/
import Derived.Test.YtdlolkogifigpaaDoorSy9
import Derived.Test.YtdlolkogifigpaaDoorPlain
set_option linter.unusedSimpArgs false
set_option linter.unusedVariables false
namespace Go.Proofs.YtdlolkogifigpaaDoor
open Go Go.RowKit Go.Mor
theorem byte_lt (l : List UInt8) (i : Nat) : (l.getD i 0).toNat < 256 := (l.getD i 0).toNat_lt
theorem signL_decode (b : UInt8) (t : List UInt8) : signL (b :: t) = if (Lib.decodeL (b :: t)).1 = 65533 ∧ (Lib.decodeL (b :: t)).2 = 1 then 0 else (Lib.decodeL (b :: t)).2 := by
  rw [Lib.decodeL_N, signL, if_neg (by simp)]
  exact signN_decode _ _ _ _ _ (byte_lt _ _) (byte_lt _ _) (byte_lt _ _) (byte_lt _ _)
theorem rune_lo (n b0 b1 b2 b3 : Nat) : (b0 < 128 → (Lib.decodeN n b0 b1 b2 b3).1 = b0) ∧ (128 ≤ b0 → 128 ≤ (Lib.decodeN n b0 b1 b2 b3).1) := by
  unfold Lib.decodeN
  refine ⟨fun h => by rw [if_pos h], fun h => ?_⟩
  rw [if_neg (by omega)]
  (repeat' split) <;> simp only <;> omega
theorem plainR_lead (b : UInt8) (t : List UInt8) : plainR (Lib.decodeL (b :: t)).1 = (!decide (b.toNat < 32) && !(b.toNat == 127)) := by
  rw [Lib.decodeL_N]
  have h := rune_lo (b :: t).length ((b :: t).getD 0 0).toNat ((b :: t).getD 1 0).toNat ((b :: t).getD 2 0).toNat ((b :: t).getD 3 0).toNat
  have e : (b :: t).getD 0 0 = b := rfl
  rw [e] at h ⊢
  generalize (Lib.decodeN _ _ _ _ _).1 = r at h ⊢
  unfold plainR
  rw [Bool.eq_iff_iff]
  rcases Nat.lt_or_ge b.toNat 128 with hb | hb
  · rw [h.1 hb]; simp
  · have := h.2 hb
    simp; omega
theorem isText_eq : ∀ (n : Nat) (l : List UInt8), l.length ≤ n → isText l = (Lib.validD l && plainD l) := by
  intro n
  induction n with
  | zero => intro l hl; obtain rfl := List.eq_nil_of_length_eq_zero (by omega : l.length = 0); rfl
  | succ n ih =>
    intro l hl
    cases l with
    | nil => rfl
    | cons b t =>
      rw [isText_cons, Lib.validD_step _ (by simp), plainD_step _ (by simp), plainR_lead, signL_decode]
      have hw := Lib.decodeL_width (b :: t)
      split
      · simp
      · rw [ih _ (by simp at hl ⊢; omega)]
        have h0 : ((Lib.decodeL (b :: t)).2 == 0) = false := by simp; omega
        rw [h0]
        generalize Lib.validD _ = p
        generalize plainD _ = q
        cases p <;> cases q <;> simp
theorem signL_app (a c : List UInt8) (h : signL a ≠ 0) : signL (a ++ c) = signL a := by
  have hne : a ≠ [] := by rintro rfl; exact h rfl
  have hl := (signL_le a).1
  unfold signL at *
  rw [if_neg hne] at h hl ⊢
  rw [if_neg (by simp [hne])]
  have g : ∀ i, i < a.length → (a ++ c).getD i 0 = a.getD i 0 := fun i hi => by
    simp only [List.getD_eq_getElem?_getD]; rw [List.getElem?_append_left hi]
  have h0 : 0 < a.length := List.length_pos_iff.2 hne
  rw [g 0 h0]
  simp only [List.length_append]
  generalize hB0 : (a.getD 0 0).toNat = B0 at h hl ⊢
  have g1 : 1 < a.length → ((a ++ c).getD 1 0).toNat = (a.getD 1 0).toNat := fun h => by rw [g 1 h]
  have g2 : 2 < a.length → ((a ++ c).getD 2 0).toNat = (a.getD 2 0).toNat := fun h => by rw [g 2 h]
  have g3 : 3 < a.length → ((a ++ c).getD 3 0).toNat = (a.getD 3 0).toNat := fun h => by rw [g 3 h]
  generalize ((a ++ c).getD 1 0).toNat = C1 at g1 ⊢
  generalize ((a ++ c).getD 2 0).toNat = C2 at g2 ⊢
  generalize ((a ++ c).getD 3 0).toNat = C3 at g3 ⊢
  generalize (a.getD 1 0).toNat = D1 at g1 h hl ⊢
  generalize (a.getD 2 0).toNat = D2 at g2 h hl ⊢
  generalize (a.getD 3 0).toNat = D3 at g3 h hl ⊢
  unfold signN at *
  by_cases c1 : B0 < 128
  · rw [if_pos c1, if_pos c1]
  rw [if_neg c1] at h hl ⊢
  rw [if_neg c1]
  by_cases c2 : 194 ≤ B0 ∧ B0 ≤ 223
  · rw [if_pos c2] at h hl ⊢
    rw [if_pos c2]
    split at h
    · contradiction
    · rw [if_neg (by omega), if_neg (by assumption)]
  rw [if_neg c2] at h hl ⊢
  rw [if_neg c2]
  by_cases c3 : 224 ≤ B0 ∧ B0 ≤ 239
  · rw [if_pos c3] at h hl ⊢
    rw [if_pos c3]
    generalize (if B0 = 224 then 160 else 128) = lo at *
    generalize (if B0 = 237 then 159 else 191) = hi at *
    split at h
    · contradiction
    · rw [if_neg (by omega), if_neg (by assumption)]
  rw [if_neg c3] at h hl ⊢
  rw [if_neg c3]
  by_cases c4 : 240 ≤ B0 ∧ B0 ≤ 244
  · rw [if_pos c4] at h hl ⊢
    rw [if_pos c4]
    generalize (if B0 = 240 then 144 else 128) = lo at *
    generalize (if B0 = 244 then 143 else 191) = hi at *
    split at h
    · contradiction
    · rw [if_neg (by omega), if_neg (by assumption)]
  rw [if_neg c4] at h
  contradiction
theorem isText_app : ∀ (n : Nat) (a c : List UInt8), a.length ≤ n → isText a = true → isText c = true → isText (a ++ c) = true := by
  intro n
  induction n with
  | zero => intro a c ha _ hc; obtain rfl := List.eq_nil_of_length_eq_zero (by omega : a.length = 0); exact hc
  | succ n ih =>
    intro a c hl ha hc
    cases a with
    | nil => exact hc
    | cons b t =>
      rw [isText_cons] at ha
      simp only [Bool.and_eq_true, Bool.not_eq_true', beq_eq_false_iff_ne] at ha
      obtain ⟨⟨⟨h1, h2⟩, h3⟩, h4⟩ := ha
      have hs := signL_app (b :: t) c h1
      have hle := (signL_le (b :: t)).1
      rw [List.cons_append] at hs
      rw [List.cons_append, isText_cons, hs, ← List.cons_append, List.drop_append_of_le_length hle]
      rw [ih _ c (by simp at hl ⊢; omega) h4 hc]
      simp [h1, h2, h3]
theorem vtN_right : ∀ (n : Nat) (l out : List UInt8), isText out = true → out.length ≤ 20 → isText (vtN n l out) = true ∧ (vtN n l out).length ≤ 20 := by
  intro n
  induction n with
  | zero => intro l out h1 h2; exact ⟨h1, h2⟩
  | succ n ih =>
    intro l out h1 h2
    simp only [vtN]
    split
    · exact ⟨h1, h2⟩
    · rename_i hn
      refine ih _ _ ?_ ?_
      · split
        · rename_i ht; exact isText_app _ _ _ (Nat.le_refl _) h1 ht
        · exact h1
      · split
        · have hl : 0 < l.length := List.length_pos_iff.2 (fun h => hn (.inl h))
          have hs := stepN_le hl
          have : ¬ 17 ≤ out.length := fun h => hn (.inr h)
          simp only [List.length_append, List.length_take]; omega
        · exact h2
theorem valText_right (l : List UInt8) : (valText l).length ≤ 20 ∧ isText (valText l) = true := (vtN_right _ l [] rfl (by simp)).symm
theorem valText_rt (l : List UInt8) : rightText (valText l) = true := by
  obtain ⟨h1, h2⟩ := valText_right l
  rw [isText_eq _ _ (Nat.le_refl _)] at h2
  unfold rightText
  simp only [Bool.and_eq_true] at h2 ⊢
  exact ⟨by simp; omega, h2⟩
theorem right1_num {n : Int} (h1 : -1000000000000000 ≤ n) (h2 : n ≤ 1000000000000000) : right1 (.mk 1 n [] []) = true := by simp [right1, V.k, bare, V.n, V.s, V.l, h1, h2]
theorem right1_ref {k n : Int} (hk : k = 3 ∨ k = 4) (h : 1 ≤ n ∧ n ≤ 100000) : right1 (.mk k n [] []) = true := by
  rcases hk with rfl | rfl <;> simp [right1, V.k, bare, V.n, V.s, V.l, rightID, h.1, h.2]
theorem valOne_right (k n : Int) (s : List UInt8) (hn : I64 n) : right1 (valOne k n s) = true := by
  have h1 := pickI_lt (n := 1000000000000001) (by decide) hn
  have h2 := pickI_lt (n := 100000) (by decide) hn
  unfold valOne
  split
  · split
    · exact right1_num (by omega) (by omega)
    · exact right1_num (by omega) (by omega)
  · split
    · simp [right1, V.k, V.n, V.s, V.l, valText_rt]
    · split
      · rename_i h
        exact right1_ref h ⟨by omega, by omega⟩
      · rfl
theorem valOne_k (k n : Int) (s : List UInt8) (h : 1 ≤ k ∧ k ≤ 4) : (valOne k n s).k = k := by
  unfold valOne
  split
  · rename_i h; simp [V.k, h]
  · split
    · rename_i h; simp [V.k, h]
    · rw [if_pos (by omega)]; rfl
theorem fitV_right (k j n : Int) (s : List UInt8) (m : Int) (hn : I64 n) (hm : 1 ≤ m) (hk : k ≠ 5) : right1 (fitV k j n s m) = true := by
  have h2 := pickI_lt (n := min m 100000) (by omega) hn
  unfold fitV
  rw [if_neg hk]
  split
  · rename_i h
    split
    · rfl
    · exact right1_ref h ⟨by omega, by omega⟩
  · exact valOne_right _ _ _ hn
theorem fitV_kind (k j n : Int) (s : List UInt8) (m : Int) (hk : 1 ≤ k ∧ k ≤ 4) : (fitV k j n s m).k = k ∨ (fitV k j n s m).k = 0 ∧ (k = 3 ∨ k = 4) := by
  unfold fitV
  rw [if_neg (by omega)]
  split
  · rename_i h
    split
    · exact .inr ⟨rfl, h⟩
    · exact .inl rfl
  · exact .inl (valOne_k _ _ _ hk)
end Go.Proofs.YtdlolkogifigpaaDoor
namespace Go.Proofs.YtdlolkogifigpaaDoor
open Go Go.RowKit Go.Mor
theorem valType_right (a b : Int) (ha : I64 a) (hb : I64 b) : rightType (valType a b) = true := by
  have h1 := pickI_lt (n := 6) (by decide) ha
  have h2 := pickI_lt (n := 4) (by decide) hb
  unfold valType rightType
  split
  · rw [if_neg (by simp only; omega)]; exact decide_eq_true ⟨by show (1 : Int) ≤ 1 + pickI a 6; omega, by show 1 + pickI a 6 ≤ 4; omega, rfl⟩
  · rw [if_pos rfl]; exact decide_eq_true ⟨by show (1 : Int) ≤ 1 + pickI b 4; omega, by show 1 + pickI b 4 ≤ 4; omega⟩
theorem ty_cases {t : Ty} (h : rightType t = true) : (t.k = 5 ∧ 1 ≤ t.o ∧ t.o ≤ 4) ∨ (t.k ≠ 5 ∧ 1 ≤ t.k ∧ t.k ≤ 4 ∧ t.o = 0) := by
  unfold rightType at h
  split at h
  · simp at h; exact .inl ⟨by assumption, h⟩
  · simp at h; exact .inr ⟨by assumption, h⟩
theorem ofKind_fit (k j n : Int) (s : List UInt8) (m : Int) (hk : 1 ≤ k ∧ k ≤ 4) : ofKind (fitV k j n s m) k = true := by
  unfold ofKind
  rcases fitV_kind k j n s m hk with h | ⟨h, h2⟩
  · simp [h]
  · rw [h]; rcases h2 with rfl | rfl <;> simp
theorem fitV_not5 (k j n : Int) (s : List UInt8) (m : Int) (hk : 1 ≤ k ∧ k ≤ 4) : (fitV k j n s m).k ≠ 5 := by
  rcases fitV_kind k j n s m hk with h | ⟨h, h2⟩ <;> omega
theorem fits_one (k j n : Int) (s : List UInt8) (m : Int) (hk : 1 ≤ k ∧ k ≤ 4) (hn : I64 n) (hm : 1 ≤ m) : fitsV (fitV k j n s m) ⟨k, 0⟩ = true := by
  unfold fitsV rightV
  rw [if_neg (fitV_not5 k j n s m hk), fitV_right k j n s m hn hm (by omega), ofKind_fit k j n s m hk, fitV_l]
  simp [rightType]; omega
theorem fitL_mem {o m : Int} {l : List R1} {y : V} (h : y ∈ fitL o m l) : ∃ r ∈ l, y = fitV o r.k r.n r.s m := by
  unfold fitL at h
  obtain ⟨r, hr, rfl⟩ := List.mem_map.1 h
  exact ⟨r, List.mem_of_mem_take hr, rfl⟩
theorem valFit_fits {t : Ty} (ht : rightType t = true) (x : RawV) (m : Int) (hx : x.ok) (hm : 1 ≤ m) : fitsV (valFit t x m) t = true := by
  obtain ⟨hk, hn, hs, hl, hlen⟩ := hx
  unfold valFit
  rcases ty_cases ht with ⟨h5, h1, h4⟩ | ⟨h5, h1, h4, ho⟩
  · rw [if_pos h5]
    unfold fitsV rightV
    have e1 : (fitL t.o m x.l).any noItem = false := by
      rw [List.any_eq_false]
      intro y hy
      obtain ⟨r, hr, rfl⟩ := fitL_mem hy
      have := fitV_not5 t.o r.k r.n r.s m ⟨h1, h4⟩
      unfold noItem
      rw [fitV_right _ _ _ _ _ (hl r hr).2.1 hm (by omega)]
      simp [this]
    have e2 : (fitL t.o m x.l).any (fun y => !ofKind y t.o) = false := by
      rw [List.any_eq_false]
      intro y hy
      obtain ⟨r, hr, rfl⟩ := fitL_mem hy
      rw [ofKind_fit _ _ _ _ _ ⟨h1, h4⟩]; simp
    have e3 : (fitL t.o m x.l).length ≤ 12 := by unfold fitL; simp; omega
    have e4 : ofKind (.mk 5 0 [] (fitL t.o m x.l)) t.k = true := by rw [h5]; rfl
    rw [ht, e4]
    simp only [V.k, V.n, V.s, V.l, if_true, e1, e2]
    simp [e3]
  · rw [if_neg h5]
    have := fits_one t.k x.k x.n x.s m ⟨h1, h4⟩ hn hm
    rw [show (⟨t.k, 0⟩ : Ty) = t by cases t; simp at ho ⊢; exact ho.symm] at this
    exact this
theorem valFit_items {t : Ty} (ht : rightType t = true) (x : RawV) (m : Int) (hx : x.ok) (hm : 1 ≤ m) : ∀ y ∈ (valFit t x m).l, fitsV y ⟨t.o, 0⟩ = true := by
  obtain ⟨hk, hn, hs, hl, hlen⟩ := hx
  intro y hy
  unfold valFit at hy
  rcases ty_cases ht with ⟨h5, h1, h4⟩ | ⟨h5, h1, h4, ho⟩
  · rw [if_pos h5] at hy
    obtain ⟨r, hr, rfl⟩ := fitL_mem hy
    exact fits_one _ _ _ _ _ ⟨h1, h4⟩ (hl r hr).2.1 hm
  · rw [if_neg h5, fitV_l] at hy; simp at hy
theorem zero_fits {t : Ty} (ht : rightType t = true) : fitsV (zeroV t) t = true := by
  unfold fitsV zeroV
  rcases ty_cases ht with ⟨h5, h1, h4⟩ | ⟨h5, h1, h4, ho⟩
  · simp [ht, h5, rightV, ofKind, V.k, V.n, V.s, V.l]
  · rw [ht]
    have : t.k = 1 ∨ t.k = 2 ∨ t.k = 3 ∨ t.k = 4 := by omega
    rcases this with h | h | h | h <;> simp [h, rightV, right1, bare, ofKind, V.k, V.n, V.s, V.l, V.nil, rightText] <;> first | rfl | exact ⟨rfl, rfl⟩
theorem fits_other {t u : Ty} (ht : rightType t = true) (hu : rightType u = true) (x : RawV) (m : Int) (hx : x.ok) (hm : 1 ≤ m) (hne : t.k ≠ u.k) :
    fitsV (valFit t x m) u = ((decide (t.k = 3 ∨ t.k = 4) && decide (u.k = 3 ∨ u.k = 4)) && decide ((valFit t x m).k = 0)) := by
  have hf := valFit_fits ht x m hx hm
  have hr : rightV (valFit t x m) = true := by
    unfold fitsV at hf; simp only [Bool.and_eq_true] at hf; exact hf.1.1.1
  rcases ty_cases ht with ⟨h5, h1, h4⟩ | ⟨h5, h1, h4, ho⟩
  · have hk : (valFit t x m).k = 5 := by unfold valFit; rw [if_pos h5]; rfl
    unfold fitsV ofKind
    rw [hk]
    have : ((5 : Int) == u.k) = false := by simp; omega
    simp [this]
  · have hv : valFit t x m = fitV t.k x.k x.n x.s m := by unfold valFit; rw [if_neg h5]
    have hL : (valFit t x m).l = [] := by rw [hv]; exact fitV_l _ _ _ _ _
    have hkk := fitV_kind t.k x.k x.n x.s m ⟨h1, h4⟩
    rw [← hv] at hkk
    unfold fitsV
    rw [hr, hu, hL]
    have e : ofKind (valFit t x m) u.k = true ↔ (valFit t x m).k = u.k ∨ ((valFit t x m).k = 0 ∧ (u.k = 3 ∨ u.k = 4)) := by unfold ofKind; simp
    rw [Bool.eq_iff_iff]
    simp only [Bool.true_and, List.any_nil, Bool.not_false, Bool.and_true, Bool.and_eq_true, decide_eq_true_eq]
    rw [e]
    have hu1 := ty_cases hu
    omega
/-- The law, in plain words. -/
theorem law_fits {t u : Ty} (ht : rightType t = true) (hu : rightType u = true) (x : RawV) (hx : x.ok) :
    fitsV (valFit t x 500) t = true ∧ (∀ y ∈ (valFit t x 500).l, fitsV y ⟨t.o, 0⟩ = true) ∧ fitsV (zeroV t) t = true ∧
    (t.k ≠ u.k → fitsV (valFit t x 500) u = ((decide (t.k = 3 ∨ t.k = 4) && decide (u.k = 3 ∨ u.k = 4)) && decide ((valFit t x 500).k = 0))) ∧
    (t = u → fitsV (valFit t x 500) u = true) ∧ (t.k = u.k → t.k ≠ 5 → t = u) := by
  refine ⟨valFit_fits ht x 500 hx (by decide), valFit_items ht x 500 hx (by decide), zero_fits ht, fits_other ht hu x 500 hx (by decide), ?_, ?_⟩
  · rintro rfl; exact valFit_fits ht x 500 hx (by decide)
  · intro h1 h2
    rcases ty_cases ht with ⟨h5, _, _⟩ | ⟨h5, _, _, ho⟩
    · exact absurd h5 h2
    rcases ty_cases hu with ⟨h6, _, _⟩ | ⟨h6, _, _, ho'⟩
    · omega
    · cases t; cases u; simp at *; omega
theorem fitV_text (k j n : Int) (s : List UInt8) (m : Int) : (fitV k j n s m).s.length ≤ 60 := by
  have := (valText_right s).1
  unfold fitV valOne
  (repeat' split) <;> simp [V.s, V.nil] <;> omega
end Go.Proofs.YtdlolkogifigpaaDoor
