/- Merged texts: Pt1 Zy5 Zy6 Zr2 Zr3 Pz3 Pz4 Zy7 Zr4 Zy8 Zr5 Pz5 Pz6 Cd2 Zw2 Pz1. No statement of the program is proved here. -/
import Derived.Test.YthjphllpkcnehaaGreatDoorM4
import Derived.Lib.ItoaNum
import Derived.Lib.Replace
import Derived.Lib.ItoaLen
import Derived.Test.YthjphllpkcnehaaGreatDoorProg
import Derived.KernelRfl
set_option linter.unusedSimpArgs false
set_option linter.unusedVariables false
section
/- Texts by the document's signs are texts by the decoder; what ValText, ValOne, fit make is right. Plain Lean. No statement of the program is proved here. -/
namespace Go.Proofs.YthjphllpkcnehaaGreatDoor
open Go Go.RowKit Go.Mor
theorem byte_lt (l : List UInt8) (i : Nat) : (l.getD i 0).toNat < 256 := (l.getD i 0).toNat_lt
theorem signL_decode (b : UInt8) (t : List UInt8) : signL (b :: t) = if (Lib.decodeL (b :: t)).1 = 65533 ∧ (Lib.decodeL (b :: t)).2 = 1 then 0 else (Lib.decodeL (b :: t)).2 := by
  rw [Lib.decodeL_N, signL, if_neg (by simp)]
  exact signN_decode _ _ _ _ _ (byte_lt _ _) (byte_lt _ _) (byte_lt _ _) (byte_lt _ _)
theorem rune_lo (n b0 b1 b2 b3 : Nat) : (b0 < 128 → (Lib.decodeN n b0 b1 b2 b3).1 = b0) ∧ (128 ≤ b0 → 128 ≤ (Lib.decodeN n b0 b1 b2 b3).1) := by
  unfold Lib.decodeN
  refine ⟨fun h => by rw [if_pos h], fun h => ?_⟩
  rw [if_neg (by omega)]
  (repeat' split) <;> simp only <;> omega
theorem plainR_lead (b : UInt8) (t : List UInt8) : plainR (Lib.decodeL (b :: t)).1 = (!decide (b.toNat < 32) && !(b.toNat == 127)) := by
  rw [Lib.decodeL_N]
  have h := rune_lo (b :: t).length ((b :: t).getD 0 0).toNat ((b :: t).getD 1 0).toNat ((b :: t).getD 2 0).toNat ((b :: t).getD 3 0).toNat
  have e : (b :: t).getD 0 0 = b := rfl
  rw [e] at h ⊢
  generalize (Lib.decodeN _ _ _ _ _).1 = r at h ⊢
  unfold plainR
  rw [Bool.eq_iff_iff]
  rcases Nat.lt_or_ge b.toNat 128 with hb | hb
  · rw [h.1 hb]; simp
  · have := h.2 hb
    simp; omega
theorem isText_eq : ∀ (n : Nat) (l : List UInt8), l.length ≤ n → isText l = (Lib.validD l && plainD l) := by
  intro n
  induction n with
  | zero => intro l hl; obtain rfl := List.eq_nil_of_length_eq_zero (by omega : l.length = 0); rfl
  | succ n ih =>
    intro l hl
    cases l with
    | nil => rfl
    | cons b t =>
      rw [isText_cons, Lib.validD_step _ (by simp), plainD_step _ (by simp), plainR_lead, signL_decode]
      have hw := Lib.decodeL_width (b :: t)
      split
      · simp
      · rw [ih _ (by simp at hl ⊢; omega)]
        have h0 : ((Lib.decodeL (b :: t)).2 == 0) = false := by simp; omega
        rw [h0]
        generalize Lib.validD _ = p
        generalize plainD _ = q
        cases p <;> cases q <;> simp
theorem signL_app (a c : List UInt8) (h : signL a ≠ 0) : signL (a ++ c) = signL a := by
  have hne : a ≠ [] := by rintro rfl; exact h rfl
  have hl := (signL_le a).1
  unfold signL at *
  rw [if_neg hne] at h hl ⊢
  rw [if_neg (by simp [hne])]
  have g : ∀ i, i < a.length → (a ++ c).getD i 0 = a.getD i 0 := fun i hi => by
    simp only [List.getD_eq_getElem?_getD]; rw [List.getElem?_append_left hi]
  have h0 : 0 < a.length := List.length_pos_iff.2 hne
  rw [g 0 h0]
  simp only [List.length_append]
  generalize hB0 : (a.getD 0 0).toNat = B0 at h hl ⊢
  have g1 : 1 < a.length → ((a ++ c).getD 1 0).toNat = (a.getD 1 0).toNat := fun h => by rw [g 1 h]
  have g2 : 2 < a.length → ((a ++ c).getD 2 0).toNat = (a.getD 2 0).toNat := fun h => by rw [g 2 h]
  have g3 : 3 < a.length → ((a ++ c).getD 3 0).toNat = (a.getD 3 0).toNat := fun h => by rw [g 3 h]
  generalize ((a ++ c).getD 1 0).toNat = C1 at g1 ⊢
  generalize ((a ++ c).getD 2 0).toNat = C2 at g2 ⊢
  generalize ((a ++ c).getD 3 0).toNat = C3 at g3 ⊢
  generalize (a.getD 1 0).toNat = D1 at g1 h hl ⊢
  generalize (a.getD 2 0).toNat = D2 at g2 h hl ⊢
  generalize (a.getD 3 0).toNat = D3 at g3 h hl ⊢
  unfold signN at *
  by_cases c1 : B0 < 128
  · rw [if_pos c1, if_pos c1]
  rw [if_neg c1] at h hl ⊢
  rw [if_neg c1]
  by_cases c2 : 194 ≤ B0 ∧ B0 ≤ 223
  · rw [if_pos c2] at h hl ⊢
    rw [if_pos c2]
    split at h
    · contradiction
    · rw [if_neg (by omega), if_neg (by assumption)]
  rw [if_neg c2] at h hl ⊢
  rw [if_neg c2]
  by_cases c3 : 224 ≤ B0 ∧ B0 ≤ 239
  · rw [if_pos c3] at h hl ⊢
    rw [if_pos c3]
    generalize (if B0 = 224 then 160 else 128) = lo at *
    generalize (if B0 = 237 then 159 else 191) = hi at *
    split at h
    · contradiction
    · rw [if_neg (by omega), if_neg (by assumption)]
  rw [if_neg c3] at h hl ⊢
  rw [if_neg c3]
  by_cases c4 : 240 ≤ B0 ∧ B0 ≤ 244
  · rw [if_pos c4] at h hl ⊢
    rw [if_pos c4]
    generalize (if B0 = 240 then 144 else 128) = lo at *
    generalize (if B0 = 244 then 143 else 191) = hi at *
    split at h
    · contradiction
    · rw [if_neg (by omega), if_neg (by assumption)]
  rw [if_neg c4] at h
  contradiction
theorem isText_app : ∀ (n : Nat) (a c : List UInt8), a.length ≤ n → isText a = true → isText c = true → isText (a ++ c) = true := by
  intro n
  induction n with
  | zero => intro a c ha _ hc; obtain rfl := List.eq_nil_of_length_eq_zero (by omega : a.length = 0); exact hc
  | succ n ih =>
    intro a c hl ha hc
    cases a with
    | nil => exact hc
    | cons b t =>
      rw [isText_cons] at ha
      simp only [Bool.and_eq_true, Bool.not_eq_true', beq_eq_false_iff_ne] at ha
      obtain ⟨⟨⟨h1, h2⟩, h3⟩, h4⟩ := ha
      have hs := signL_app (b :: t) c h1
      have hle := (signL_le (b :: t)).1
      rw [List.cons_append] at hs
      rw [List.cons_append, isText_cons, hs, ← List.cons_append, List.drop_append_of_le_length hle]
      rw [ih _ c (by simp at hl ⊢; omega) h4 hc]
      simp [h1, h2, h3]
theorem vtN_right : ∀ (n : Nat) (l out : List UInt8), isText out = true → out.length ≤ 20 → isText (vtN n l out) = true ∧ (vtN n l out).length ≤ 20 := by
  intro n
  induction n with
  | zero => intro l out h1 h2; exact ⟨h1, h2⟩
  | succ n ih =>
    intro l out h1 h2
    simp only [vtN]
    split
    · exact ⟨h1, h2⟩
    · rename_i hn
      refine ih _ _ ?_ ?_
      · split
        · rename_i ht; exact isText_app _ _ _ (Nat.le_refl _) h1 ht
        · exact h1
      · split
        · have hl : 0 < l.length := List.length_pos_iff.2 (fun h => hn (.inl h))
          have hs := stepN_le hl
          have : ¬ 17 ≤ out.length := fun h => hn (.inr h)
          simp only [List.length_append, List.length_take]; omega
        · exact h2
theorem valText_right (l : List UInt8) : (valText l).length ≤ 20 ∧ isText (valText l) = true := (vtN_right _ l [] rfl (by simp)).symm
theorem valText_rt (l : List UInt8) : rightText (valText l) = true := by
  obtain ⟨h1, h2⟩ := valText_right l
  rw [isText_eq _ _ (Nat.le_refl _)] at h2
  unfold rightText
  simp only [Bool.and_eq_true] at h2 ⊢
  exact ⟨by simp; omega, h2⟩
theorem right1_num {n : Int} (h1 : -1000000000000000 ≤ n) (h2 : n ≤ 1000000000000000) : right1 (.mk 1 n [] []) = true := by simp [right1, V.k, bare, V.n, V.s, V.l, h1, h2]
theorem right1_ref {k n : Int} (hk : k = 3 ∨ k = 4) (h : 1 ≤ n ∧ n ≤ 100000) : right1 (.mk k n [] []) = true := by
  rcases hk with rfl | rfl <;> simp [right1, V.k, bare, V.n, V.s, V.l, rightID, h.1, h.2]
theorem valOne_right (k n : Int) (s : List UInt8) (hn : I64 n) : right1 (valOne k n s) = true := by
  have h1 := pickI_lt (n := 1000000000000001) (by decide) hn
  have h2 := pickI_lt (n := 100000) (by decide) hn
  unfold valOne
  split
  · split
    · exact right1_num (by omega) (by omega)
    · exact right1_num (by omega) (by omega)
  · split
    · simp [right1, V.k, V.n, V.s, V.l, valText_rt]
    · split
      · rename_i h
        exact right1_ref h ⟨by omega, by omega⟩
      · rfl
theorem valOne_k (k n : Int) (s : List UInt8) (h : 1 ≤ k ∧ k ≤ 4) : (valOne k n s).k = k := by
  unfold valOne
  split
  · rename_i h; simp [V.k, h]
  · split
    · rename_i h; simp [V.k, h]
    · rw [if_pos (by omega)]; rfl
theorem valType_right (a b : Int) (ha : I64 a) (hb : I64 b) : rightType (valType a b) = true := by
  have h1 := pickI_lt (n := 6) (by decide) ha
  have h2 := pickI_lt (n := 4) (by decide) hb
  unfold valType rightType
  split
  · rw [if_neg (by simp only; omega)]; exact decide_eq_true ⟨by show (1 : Int) ≤ 1 + pickI a 6; omega, by show 1 + pickI a 6 ≤ 4; omega, rfl⟩
  · rw [if_pos rfl]; exact decide_eq_true ⟨by show (1 : Int) ≤ 1 + pickI b 4; omega, by show 1 + pickI b 4 ≤ 4; omega⟩
theorem ty_cases {t : Ty} (h : rightType t = true) : (t.k = 5 ∧ 1 ≤ t.o ∧ t.o ≤ 4) ∨ (t.k ≠ 5 ∧ 1 ≤ t.k ∧ t.k ≤ 4 ∧ t.o = 0) := by
  unfold rightType at h
  split at h
  · simp at h; exact .inl ⟨by assumption, h⟩
  · simp at h; exact .inr ⟨by assumption, h⟩
theorem zero_fits {t : Ty} (ht : rightType t = true) : fitsV (zeroV t) t = true := by
  unfold fitsV zeroV
  rcases ty_cases ht with ⟨h5, h1, h4⟩ | ⟨h5, h1, h4, ho⟩
  · simp [ht, h5, rightV, ofKind, V.k, V.n, V.s, V.l]
  · rw [ht]
    have : t.k = 1 ∨ t.k = 2 ∨ t.k = 3 ∨ t.k = 4 := by omega
    rcases this with h | h | h | h <;> simp [h, rightV, right1, bare, ofKind, V.k, V.n, V.s, V.l, V.nil, rightText] <;> first | rfl | exact ⟨rfl, rfl⟩
end Go.Proofs.YthjphllpkcnehaaGreatDoor
end

section
/- Right values, and their bytes by the program. No statement of the program is proved here. -/
namespace Go.Proofs.YthjphllpkcnehaaGreatDoor
open Go Go.RowKit Go.Mor Go.Sh Go.Sh.Cd1
set_option maxRecDepth 100000
set_option maxHeartbeats 2000000
/-- What a right value that is no list is. -/
theorem right1_inv {x : V} (h : right1 x = true) : x = .mk 0 0 [] [] ∨ (∃ n, -1000000000000000 ≤ n ∧ n ≤ 1000000000000000 ∧ x = .mk 1 n [] []) ∨ (∃ s, rightText s = true ∧ x = .mk 2 0 s []) ∨ (∃ k n, (k = 3 ∨ k = 4) ∧ rightID n = true ∧ x = .mk k n [] []) := by
  unfold right1 bare at h
  have e := V.eta x
  by_cases h0 : x.k = 0
  · rw [if_pos h0] at h
    simp at h
    obtain ⟨⟨h1, h2⟩, h3⟩ := h
    exact .inl (by rw [← e, h0, h1, h2, h3])
  rw [if_neg h0] at h
  by_cases h0 : x.k = 1
  · rw [if_pos h0] at h
    simp at h
    obtain ⟨⟨⟨h1, h2⟩, h3⟩, h4⟩ := h
    exact .inr (.inl ⟨x.n, h3, h4, by rw [← e, h0, h1, h2]; rfl⟩)
  rw [if_neg h0] at h
  by_cases h0 : x.k = 2
  · rw [if_pos h0] at h
    simp at h
    obtain ⟨⟨h1, h2⟩, h3⟩ := h
    exact .inr (.inr (.inl ⟨x.s, h3, by rw [← e, h0, h1, h2]; rfl⟩))
  rw [if_neg h0] at h
  by_cases h0 : x.k = 3 ∨ x.k = 4
  · rw [if_pos h0] at h
    simp at h
    obtain ⟨⟨h1, h2⟩, h3⟩ := h
    exact .inr (.inr (.inr ⟨x.k, x.n, h0, h3, by rw [← e, h1, h2]; rfl⟩))
  · rw [if_neg h0] at h; cases h
theorem rightText_len {s : List UInt8} (h : rightText s = true) : s.length ≤ 60 := by unfold rightText at h; simp at h; exact h.1
theorem rightID_inv {n : Int} (h : rightID n = true) : (1 ≤ n ∧ n ≤ 100000) ∨ (-20 ≤ n ∧ n ≤ -1) := by unfold rightID at h; simpa using h
theorem right1_ok {x : V} (h : right1 x = true) : V1Ok x ∧ x.k ≠ 5 ∧ x.l = [] := by
  unfold V1Ok I64
  rcases right1_inv h with rfl | ⟨n, h1, h2, rfl⟩ | ⟨s, h1, rfl⟩ | ⟨k, n, h1, h2, rfl⟩
  · refine ⟨⟨⟨?_, ?_⟩, ⟨?_, ?_⟩, ?_⟩, ?_, rfl⟩ <;> simp [V.k, V.n, V.s]
  · refine ⟨⟨⟨?_, ?_⟩, ⟨?_, ?_⟩, ?_⟩, ?_, rfl⟩ <;> simp [V.k, V.n, V.s] <;> omega
  · have := rightText_len h1
    refine ⟨⟨⟨?_, ?_⟩, ⟨?_, ?_⟩, ?_⟩, ?_, rfl⟩ <;> simp [V.k, V.n, V.s] <;> omega
  · have := rightID_inv h2
    refine ⟨⟨⟨?_, ?_⟩, ⟨?_, ?_⟩, ?_⟩, ?_, rfl⟩ <;> simp [V.k, V.n, V.s] <;> omega
theorem rightL_inv {x : V} (h : rightV x = true) (h5 : x.k = 5) : x.n = 0 ∧ x.s = [] ∧ x.l.length ≤ 12 ∧ ∀ y ∈ x.l, y.k ≠ 5 ∧ right1 y = true := by
  unfold rightV at h
  rw [if_pos h5] at h
  simp only [Bool.and_eq_true, beq_iff_eq, decide_eq_true_eq, Bool.not_eq_true', List.any_eq_false] at h
  obtain ⟨⟨⟨h1, h2⟩, h3⟩, h4⟩ := h
  refine ⟨h1, h2, h3, fun y hy => ?_⟩
  have := h4 y hy
  unfold noItem at this
  simp at this
  exact this
theorem rightV_one {x : V} (h : rightV x = true) (h5 : x.k ≠ 5) : right1 x = true := by unfold rightV at h; rwa [if_neg h5] at h
theorem rightV_vok {x : V} (h : rightV x = true) : VOk x ∧ VSmall x ∧ x.s.length ≤ 60 ∧ x.l.length ≤ 12 := by
  have hm : maxLen = 9223372036854775807 := rfl
  by_cases h5 : x.k = 5
  · obtain ⟨h1, h2, h3, h4⟩ := rightL_inv h h5
    refine ⟨⟨by unfold TextsOk; rw [h2]; simp, fun y hy => ?_⟩, ?_, by rw [h2]; simp, h3⟩
    · have := (right1_ok (h4 y hy).2).1.2.2; unfold TextsOk; omega
    · obtain ⟨k, n, s, l⟩ := x
      simp only [Vl] at h3 h4
      refine .mk (by omega) (fun y hy => ?_)
      have := (right1_ok (h4 y hy).2).2.2
      obtain ⟨k', n', s', l'⟩ := y
      simp only [Vl] at this; subst this
      exact .mk (by simp) (by simp)
  · have h0 := right1_ok (rightV_one h h5)
    refine ⟨⟨by have := h0.1.2.2; unfold TextsOk; omega, by rw [h0.2.2]; simp⟩, ?_, h0.1.2.2, by rw [h0.2.2]; simp⟩
    obtain ⟨k, n, s, l⟩ := x
    have := h0.2.2
    simp only [Vl] at this; subst this
    exact .mk (by simp) (by simp)
def encTV (x : V) : TV := if rightV x then .tuple [S (str (encV x)), I 0] else .tuple [S (str []), I 30]
theorem encTo_all (x : V) (h5 : x.k = 5) : encTo x.l x.l.length = encV x := by
  unfold encTo encV; rw [if_pos h5, List.take_of_length_le (Nat.le_refl _)]
theorem lay_ok (a0 a1 : Addr) (m : Nat) (x : V) (h : rightV x = true) : SCalls Tryz.prog (gl a0 a1 m) 58 [nilT, tv x] [] (.own 1000 1 (byR (encV x))) [.row 5 1 (encV x).length] := by
  by_cases h5 : x.k = 5
  · obtain ⟨h1, h2, h3, h4⟩ := rightL_inv h h5
    rw [← encTo_all x h5]
    exact lay_nilL a0 a1 m x h5 h3 (fun y hy => ⟨(right1_ok (h4 y hy).2).1, (h4 y hy).1⟩)
  · obtain ⟨⟨o1, o2, o3⟩, _, _⟩ := right1_ok (rightV_one h h5)
    have := lay_nil1 a0 a1 m x o1 o2 o3 h5
    unfold encV; rw [if_neg h5]; exact this
theorem encode_ok (a0 a1 : Addr) (m : Nat) (x : V) (hx : VOk x) : SCalls Tryz.prog (gl a0 a1 m) 20 [tv x] [] (encTV x) [] := by
  have HR := rightV_ok a0 a1 m x hx
  refine call_of0 hmix tf_val_Encode rfl ?_
  unfold encTV
  simp only [vcA, Nat.reduceLT, Int.reduceEq, Int.reduceAdd, Int.reduceSub, Nat.reduceBEq, Nat.reduceEqDiff, reduceCtorEq, Nat.reduceAdd, Nat.reduceSub, Nat.reduceMul, Nat.reduceLeDiff, Int.reduceToNat, Int.reduceLT, Int.reduceLE, Int.reduceNeg, reduceIte, pvC_fgt, pvC_ids, pvC_ren, pvC_len, I, S, tv, nv, tyT, RawV.tv, R1.row, rowsGet, rowsLen, row4, Vk, Vn, Vs, Vl]
  (with_reducible apply v_call); (· simp only [vcA, Nat.reduceLT, Int.reduceEq, Int.reduceAdd, Int.reduceSub, Nat.reduceBEq, Nat.reduceEqDiff, reduceCtorEq, Nat.reduceAdd, Nat.reduceSub, Nat.reduceMul, Nat.reduceLeDiff, Int.reduceToNat, Int.reduceLT, Int.reduceLE, Int.reduceNeg, reduceIte, pvC_fgt, pvC_ids, pvC_ren, pvC_len, I, S, tv, nv, tyT, RawV.tv, R1.row, rowsGet, rowsLen, row4, Vk, Vn, Vs, Vl]; with_reducible rfl); (· exact HR); (· first | rfl | (simp only [moOk, nbeq, nble, List.length_nil, beq_self_eq_true, Bool.true_and, Bool.and_true, Bool.and_eq_true, decide_eq_true_eq]; omega)); (· simp only [vcA, Nat.reduceLT, Int.reduceEq, Int.reduceAdd, Int.reduceSub, Nat.reduceBEq, Nat.reduceEqDiff, reduceCtorEq, Nat.reduceAdd, Nat.reduceSub, Nat.reduceMul, Nat.reduceLeDiff, Int.reduceToNat, Int.reduceLT, Int.reduceLE, Int.reduceNeg, reduceIte, pvC_fgt, pvC_ids, pvC_ren, pvC_len, I, S, tv, nv, tyT, RawV.tv, R1.row, rowsGet, rowsLen, row4, Vk, Vn, Vs, Vl]; with_reducible rfl)
  cases hr : rightV x
  · simp only [vcA, Nat.reduceLT, Int.reduceEq, Int.reduceAdd, Int.reduceSub, Nat.reduceBEq, Nat.reduceEqDiff, reduceCtorEq, Nat.reduceAdd, Nat.reduceSub, Nat.reduceMul, Nat.reduceLeDiff, Int.reduceToNat, Int.reduceLT, Int.reduceLE, Int.reduceNeg, reduceIte, pvC_fgt, pvC_ids, pvC_ren, pvC_len, I, S, tv, nv, tyT, RawV.tv, R1.row, rowsGet, rowsLen, row4, Vk, Vn, Vs, Vl]
    rfl
  · have HL := lay_ok a0 a1 m x hr
    simp only [vcA, Nat.reduceLT, Int.reduceEq, Int.reduceAdd, Int.reduceSub, Nat.reduceBEq, Nat.reduceEqDiff, reduceCtorEq, Nat.reduceAdd, Nat.reduceSub, Nat.reduceMul, Nat.reduceLeDiff, Int.reduceToNat, Int.reduceLT, Int.reduceLE, Int.reduceNeg, reduceIte, pvC_fgt, pvC_ids, pvC_ren, pvC_len, I, S, tv, nv, tyT, RawV.tv, R1.row, rowsGet, rowsLen, row4, Vk, Vn, Vs, Vl]
    (with_reducible apply v_call); (· simp only [vcA, Nat.reduceLT, Int.reduceEq, Int.reduceAdd, Int.reduceSub, Nat.reduceBEq, Nat.reduceEqDiff, reduceCtorEq, Nat.reduceAdd, Nat.reduceSub, Nat.reduceMul, Nat.reduceLeDiff, Int.reduceToNat, Int.reduceLT, Int.reduceLE, Int.reduceNeg, reduceIte, pvC_fgt, pvC_ids, pvC_ren, pvC_len, I, S, tv, nv, tyT, RawV.tv, R1.row, rowsGet, rowsLen, row4, Vk, Vn, Vs, Vl, nilT]; with_reducible rfl); (· exact HL); (· first | rfl | (simp only [moOk, nbeq, nble, List.length_nil, beq_self_eq_true, Bool.true_and, Bool.and_true, Bool.and_eq_true, decide_eq_true_eq]; omega)); (· simp only [vcA, Nat.reduceLT, Int.reduceEq, Int.reduceAdd, Int.reduceSub, Nat.reduceBEq, Nat.reduceEqDiff, reduceCtorEq, Nat.reduceAdd, Nat.reduceSub, Nat.reduceMul, Nat.reduceLeDiff, Int.reduceToNat, Int.reduceLT, Int.reduceLE, Int.reduceNeg, reduceIte, pvC_fgt, pvC_ids, pvC_ren, pvC_len, I, S, tv, nv, tyT, RawV.tv, R1.row, rowsGet, rowsLen, row4, Vk, Vn, Vs, Vl, nilT]; with_reducible rfl)
    simp only [vcA, Nat.reduceLT, Int.reduceEq, Int.reduceAdd, Int.reduceSub, Nat.reduceBEq, Nat.reduceEqDiff, reduceCtorEq, Nat.reduceAdd, Nat.reduceSub, Nat.reduceMul, Nat.reduceLeDiff, Int.reduceToNat, Int.reduceLT, Int.reduceLE, Int.reduceNeg, reduceIte, pvC_fgt, pvC_ids, pvC_ren, pvC_len, I, S, tv, nv, tyT, RawV.tv, R1.row, rowsGet, rowsLen, row4, Vk, Vn, Vs, Vl, byP, byApp, byLen, bySeq, strMk]
end Go.Proofs.YthjphllpkcnehaaGreatDoor
end

section
/- Values of bytes: the program's decoder. No statement of the program is proved here. -/
namespace Go.Proofs.YthjphllpkcnehaaGreatDoor
open Go Go.RowKit Go.Mor Go.Sh Go.Sh.Cd1
set_option maxRecDepth 100000
set_option maxHeartbeats 2000000
def dNum (s : List UInt8) (a lo hi : Int) : Except Int (Int × Int) := match readNum s a with
  | none => .error 10
  | some (n, b) => if n < lo ∨ hi < n then .error 30 else .ok (n, b)
def dText (s : List UInt8) (a : Int) : Except Int (List UInt8 × Int) := match readText s a with
  | none => .error 10
  | some (t, b) => if rightText t then .ok (t, b) else .error 30
def dRest (s : List UInt8) (k b : Int) : Except Int (V × Int) :=
  if k = 1 then match dNum s b (-1000000000000000) 1000000000000000 with
    | .ok (n, c) => .ok (.mk 1 n [] [], c)
    | .error e => .error e
  else if k = 2 then match dText s b with
    | .ok (t, c) => .ok (.mk 2 0 t [], c)
    | .error e => .error e
  else if k = 3 ∨ k = 4 then match dNum s b (-20) 100000 with
    | .ok (n, c) => if n = 0 then .error 30 else .ok (.mk k n [] [], c)
    | .error e => .error e
  else .ok (.mk k 0 [] [], b)
def dVal1 (s : List UInt8) (a : Int) : Except Int (V × Int) := match dNum s a 0 4 with
  | .ok (k, b) => dRest s k b
  | .error e => .error e
def dLoop (s : List UInt8) : Nat → Int → List V → Except Int (List V × Int)
  | 0, a, l => .ok (l, a)
  | n + 1, a, l => match dVal1 s a with
    | .ok (v, b) => dLoop s n b (l ++ [v])
    | .error e => .error e
def dItems (s : List UInt8) (a : Int) : Except Int (List V × Int) := match dNum s a 0 12 with
  | .ok (n, b) => dLoop s n.toNat b []
  | .error e => .error e
def dVal (s : List UInt8) (a : Int) : Except Int (V × Int) := match dNum s a 0 5 with
  | .ok (k, b) => if k = 5 then (match dItems s b with | .ok (l, c) => .ok (.mk 5 0 [] l, c) | .error e => .error e) else dRest s k b
  | .error e => .error e
def dec (s : List UInt8) (a : Int) : MO := .box [S (str s), I a]
def SmallS (s : List UInt8) : Prop := s.length < 1125899906842624
theorem dNum_inv {s : List UInt8} {a lo hi n b : Int} (h : dNum s a lo hi = .ok (n, b)) : readNum s a = some (n, b) ∧ lo ≤ n ∧ n ≤ hi := by
  unfold dNum at h
  split at h
  · cases h
  · rename_i n' b' hr
    split at h
    · cases h
    · cases h; exact ⟨hr, by omega, by omega⟩
theorem dNum_pos {s : List UInt8} {a lo hi n b : Int} (hs : SmallS s) (h : dNum s a lo hi = .ok (n, b)) : I64 b ∧ I64 n := by
  have := readNum_bound (dNum_inv h).1
  unfold SmallS at hs
  unfold I64; omega
theorem number_ok (a0 a1 : Addr) (m : Nat) (s : List UInt8) (a lo hi : Int) (hs : SmallS s) (ha : I64 a) {n b : Int} (h : dNum s a lo hi = .ok (n, b)) :
    SCalls Tryz.prog (gl a0 a1 m) 112 [.ptr 1000 0, I lo, I hi] [dec s a] (.tuple [I n, I 0]) [dec s b] := by
  obtain ⟨hr, h1, h2⟩ := dNum_inv h
  have HR := readNum_ok a0 a1 m s a hs ha
  rw [hr] at HR
  refine call_of hmix tf___val_decoder__number rfl rfl rfl ?_
  simp only [vcA, Nat.reduceLT, Int.reduceEq, Int.reduceAdd, Int.reduceSub, Nat.reduceBEq, Nat.reduceEqDiff, reduceCtorEq, Nat.reduceAdd, Nat.reduceSub, Nat.reduceMul, Nat.reduceLeDiff, Int.reduceToNat, Int.reduceLT, Int.reduceLE, Int.reduceNeg, reduceIte, pvC_fgt, pvC_ids, pvC_ren, pvC_len, I, S, tv, nv, tyT, RawV.tv, R1.row, rowsGet, rowsLen, row4, Vk, Vn, Vs, Vl, dec]
  (with_reducible apply v_call); (· simp only [vcA, Nat.reduceLT, Int.reduceEq, Int.reduceAdd, Int.reduceSub, Nat.reduceBEq, Nat.reduceEqDiff, reduceCtorEq, Nat.reduceAdd, Nat.reduceSub, Nat.reduceMul, Nat.reduceLeDiff, Int.reduceToNat, Int.reduceLT, Int.reduceLE, Int.reduceNeg, reduceIte, pvC_fgt, pvC_ids, pvC_ren, pvC_len, I, S, tv, nv, tyT, RawV.tv, R1.row, rowsGet, rowsLen, row4, Vk, Vn, Vs, Vl, numTV]; with_reducible rfl); (· exact HR); (· first | rfl | (simp only [moOk, nbeq, nble, List.length_nil, beq_self_eq_true, Bool.true_and, Bool.and_true, Bool.and_eq_true, decide_eq_true_eq]; omega)); (· simp only [vcA, Nat.reduceLT, Int.reduceEq, Int.reduceAdd, Int.reduceSub, Nat.reduceBEq, Nat.reduceEqDiff, reduceCtorEq, Nat.reduceAdd, Nat.reduceSub, Nat.reduceMul, Nat.reduceLeDiff, Int.reduceToNat, Int.reduceLT, Int.reduceLE, Int.reduceNeg, reduceIte, pvC_fgt, pvC_ids, pvC_ren, pvC_len, I, S, tv, nv, tyT, RawV.tv, R1.row, rowsGet, rowsLen, row4, Vk, Vn, Vs, Vl, numTV]; with_reducible rfl)
  have l1 : ¬ n < lo := by omega
  have l2 : ¬ hi < n := by omega
  simp only [vcA, Nat.reduceLT, Int.reduceEq, Int.reduceAdd, Int.reduceSub, Nat.reduceBEq, Nat.reduceEqDiff, reduceCtorEq, Nat.reduceAdd, Nat.reduceSub, Nat.reduceMul, Nat.reduceLeDiff, Int.reduceToNat, Int.reduceLT, Int.reduceLE, Int.reduceNeg, reduceIte, pvC_fgt, pvC_ids, pvC_ren, pvC_len, I, S, tv, nv, tyT, RawV.tv, R1.row, rowsGet, rowsLen, row4, Vk, Vn, Vs, Vl, l1, l2, dec]
theorem number_err (a0 a1 : Addr) (m : Nat) (s : List UInt8) (a lo hi : Int) (hs : SmallS s) (ha : I64 a) {e : Int} (h : dNum s a lo hi = .error e) :
    SCalls Tryz.prog (gl a0 a1 m) 112 [.ptr 1000 0, I lo, I hi] [dec s a] (.tuple [I 0, I e]) [dec s a] ∧ e ≠ 0 := by
  have HR := readNum_ok a0 a1 m s a hs ha
  unfold dNum at h
  cases hr : readNum s a with
  | none =>
    rw [hr] at h HR; cases h
    refine ⟨call_of hmix tf___val_decoder__number rfl rfl rfl ?_, by decide⟩
    simp only [vcA, Nat.reduceLT, Int.reduceEq, Int.reduceAdd, Int.reduceSub, Nat.reduceBEq, Nat.reduceEqDiff, reduceCtorEq, Nat.reduceAdd, Nat.reduceSub, Nat.reduceMul, Nat.reduceLeDiff, Int.reduceToNat, Int.reduceLT, Int.reduceLE, Int.reduceNeg, reduceIte, pvC_fgt, pvC_ids, pvC_ren, pvC_len, I, S, tv, nv, tyT, RawV.tv, R1.row, rowsGet, rowsLen, row4, Vk, Vn, Vs, Vl, dec]
    (with_reducible apply v_call); (· simp only [vcA, Nat.reduceLT, Int.reduceEq, Int.reduceAdd, Int.reduceSub, Nat.reduceBEq, Nat.reduceEqDiff, reduceCtorEq, Nat.reduceAdd, Nat.reduceSub, Nat.reduceMul, Nat.reduceLeDiff, Int.reduceToNat, Int.reduceLT, Int.reduceLE, Int.reduceNeg, reduceIte, pvC_fgt, pvC_ids, pvC_ren, pvC_len, I, S, tv, nv, tyT, RawV.tv, R1.row, rowsGet, rowsLen, row4, Vk, Vn, Vs, Vl, numTV]; with_reducible rfl); (· exact HR); (· first | rfl | (simp only [moOk, nbeq, nble, List.length_nil, beq_self_eq_true, Bool.true_and, Bool.and_true, Bool.and_eq_true, decide_eq_true_eq]; omega)); (· simp only [vcA, Nat.reduceLT, Int.reduceEq, Int.reduceAdd, Int.reduceSub, Nat.reduceBEq, Nat.reduceEqDiff, reduceCtorEq, Nat.reduceAdd, Nat.reduceSub, Nat.reduceMul, Nat.reduceLeDiff, Int.reduceToNat, Int.reduceLT, Int.reduceLE, Int.reduceNeg, reduceIte, pvC_fgt, pvC_ids, pvC_ren, pvC_len, I, S, tv, nv, tyT, RawV.tv, R1.row, rowsGet, rowsLen, row4, Vk, Vn, Vs, Vl, numTV]; with_reducible rfl)
    simp only [vcA, Nat.reduceLT, Int.reduceEq, Int.reduceAdd, Int.reduceSub, Nat.reduceBEq, Nat.reduceEqDiff, reduceCtorEq, Nat.reduceAdd, Nat.reduceSub, Nat.reduceMul, Nat.reduceLeDiff, Int.reduceToNat, Int.reduceLT, Int.reduceLE, Int.reduceNeg, reduceIte, pvC_fgt, pvC_ids, pvC_ren, pvC_len, I, S, tv, nv, tyT, RawV.tv, R1.row, rowsGet, rowsLen, row4, Vk, Vn, Vs, Vl, dec]
  | some q =>
    obtain ⟨n, b⟩ := q
    rw [hr] at h HR
    simp only [] at h
    by_cases hc : n < lo ∨ hi < n
    · rw [if_pos hc] at h; cases h
      refine ⟨call_of hmix tf___val_decoder__number rfl rfl rfl ?_, by decide⟩
      simp only [vcA, Nat.reduceLT, Int.reduceEq, Int.reduceAdd, Int.reduceSub, Nat.reduceBEq, Nat.reduceEqDiff, reduceCtorEq, Nat.reduceAdd, Nat.reduceSub, Nat.reduceMul, Nat.reduceLeDiff, Int.reduceToNat, Int.reduceLT, Int.reduceLE, Int.reduceNeg, reduceIte, pvC_fgt, pvC_ids, pvC_ren, pvC_len, I, S, tv, nv, tyT, RawV.tv, R1.row, rowsGet, rowsLen, row4, Vk, Vn, Vs, Vl, dec]
      (with_reducible apply v_call); (· simp only [vcA, Nat.reduceLT, Int.reduceEq, Int.reduceAdd, Int.reduceSub, Nat.reduceBEq, Nat.reduceEqDiff, reduceCtorEq, Nat.reduceAdd, Nat.reduceSub, Nat.reduceMul, Nat.reduceLeDiff, Int.reduceToNat, Int.reduceLT, Int.reduceLE, Int.reduceNeg, reduceIte, pvC_fgt, pvC_ids, pvC_ren, pvC_len, I, S, tv, nv, tyT, RawV.tv, R1.row, rowsGet, rowsLen, row4, Vk, Vn, Vs, Vl, numTV]; with_reducible rfl); (· exact HR); (· first | rfl | (simp only [moOk, nbeq, nble, List.length_nil, beq_self_eq_true, Bool.true_and, Bool.and_true, Bool.and_eq_true, decide_eq_true_eq]; omega)); (· simp only [vcA, Nat.reduceLT, Int.reduceEq, Int.reduceAdd, Int.reduceSub, Nat.reduceBEq, Nat.reduceEqDiff, reduceCtorEq, Nat.reduceAdd, Nat.reduceSub, Nat.reduceMul, Nat.reduceLeDiff, Int.reduceToNat, Int.reduceLT, Int.reduceLE, Int.reduceNeg, reduceIte, pvC_fgt, pvC_ids, pvC_ren, pvC_len, I, S, tv, nv, tyT, RawV.tv, R1.row, rowsGet, rowsLen, row4, Vk, Vn, Vs, Vl, numTV]; with_reducible rfl)
      by_cases l1 : n < lo
      · simp only [vcA, Nat.reduceLT, Int.reduceEq, Int.reduceAdd, Int.reduceSub, Nat.reduceBEq, Nat.reduceEqDiff, reduceCtorEq, Nat.reduceAdd, Nat.reduceSub, Nat.reduceMul, Nat.reduceLeDiff, Int.reduceToNat, Int.reduceLT, Int.reduceLE, Int.reduceNeg, reduceIte, pvC_fgt, pvC_ids, pvC_ren, pvC_len, I, S, tv, nv, tyT, RawV.tv, R1.row, rowsGet, rowsLen, row4, Vk, Vn, Vs, Vl, l1, dec]
      · have l2 : hi < n := by omega
        simp only [vcA, Nat.reduceLT, Int.reduceEq, Int.reduceAdd, Int.reduceSub, Nat.reduceBEq, Nat.reduceEqDiff, reduceCtorEq, Nat.reduceAdd, Nat.reduceSub, Nat.reduceMul, Nat.reduceLeDiff, Int.reduceToNat, Int.reduceLT, Int.reduceLE, Int.reduceNeg, reduceIte, pvC_fgt, pvC_ids, pvC_ren, pvC_len, I, S, tv, nv, tyT, RawV.tv, R1.row, rowsGet, rowsLen, row4, Vk, Vn, Vs, Vl, l1, l2, dec]
    · rw [if_neg hc] at h; cases h
theorem dtext_ok (a0 a1 : Addr) (m : Nat) (s : List UInt8) (a : Int) (hs : SmallS s) (ha : I64 a) {t : List UInt8} {b : Int} (h : dText s a = .ok (t, b)) :
    SCalls Tryz.prog (gl a0 a1 m) 113 [.ptr 1000 0] [dec s a] (.tuple [S (str t), I 0]) [dec s b] := by
  have HR := readText_ok a0 a1 m s a hs ha
  unfold dText at h
  cases hr : readText s a with
  | none => rw [hr] at h; cases h
  | some q =>
    obtain ⟨t', b'⟩ := q
    rw [hr] at h HR
    have hb := readText_bound hr
    simp only [] at h
    by_cases hc : rightText t' = true
    · rw [if_pos hc] at h; cases h
      have HT := rightText_ok a0 a1 m t (by omega)
      rw [hc] at HT
      refine call_of hmix tf___val_decoder__text rfl rfl rfl ?_
      simp only [vcA, Nat.reduceLT, Int.reduceEq, Int.reduceAdd, Int.reduceSub, Nat.reduceBEq, Nat.reduceEqDiff, reduceCtorEq, Nat.reduceAdd, Nat.reduceSub, Nat.reduceMul, Nat.reduceLeDiff, Int.reduceToNat, Int.reduceLT, Int.reduceLE, Int.reduceNeg, reduceIte, pvC_fgt, pvC_ids, pvC_ren, pvC_len, I, S, tv, nv, tyT, RawV.tv, R1.row, rowsGet, rowsLen, row4, Vk, Vn, Vs, Vl, dec]
      (with_reducible apply v_call); (· simp only [vcA, Nat.reduceLT, Int.reduceEq, Int.reduceAdd, Int.reduceSub, Nat.reduceBEq, Nat.reduceEqDiff, reduceCtorEq, Nat.reduceAdd, Nat.reduceSub, Nat.reduceMul, Nat.reduceLeDiff, Int.reduceToNat, Int.reduceLT, Int.reduceLE, Int.reduceNeg, reduceIte, pvC_fgt, pvC_ids, pvC_ren, pvC_len, I, S, tv, nv, tyT, RawV.tv, R1.row, rowsGet, rowsLen, row4, Vk, Vn, Vs, Vl, readTV]; with_reducible rfl); (· exact HR); (· first | rfl | (simp only [moOk, nbeq, nble, List.length_nil, beq_self_eq_true, Bool.true_and, Bool.and_true, Bool.and_eq_true, decide_eq_true_eq]; omega)); (· simp only [vcA, Nat.reduceLT, Int.reduceEq, Int.reduceAdd, Int.reduceSub, Nat.reduceBEq, Nat.reduceEqDiff, reduceCtorEq, Nat.reduceAdd, Nat.reduceSub, Nat.reduceMul, Nat.reduceLeDiff, Int.reduceToNat, Int.reduceLT, Int.reduceLE, Int.reduceNeg, reduceIte, pvC_fgt, pvC_ids, pvC_ren, pvC_len, I, S, tv, nv, tyT, RawV.tv, R1.row, rowsGet, rowsLen, row4, Vk, Vn, Vs, Vl, readTV]; with_reducible rfl)
      simp only [vcA, Nat.reduceLT, Int.reduceEq, Int.reduceAdd, Int.reduceSub, Nat.reduceBEq, Nat.reduceEqDiff, reduceCtorEq, Nat.reduceAdd, Nat.reduceSub, Nat.reduceMul, Nat.reduceLeDiff, Int.reduceToNat, Int.reduceLT, Int.reduceLE, Int.reduceNeg, reduceIte, pvC_fgt, pvC_ids, pvC_ren, pvC_len, I, S, tv, nv, tyT, RawV.tv, R1.row, rowsGet, rowsLen, row4, Vk, Vn, Vs, Vl, dec]
      (with_reducible apply v_call); (· simp only [vcA, Nat.reduceLT, Int.reduceEq, Int.reduceAdd, Int.reduceSub, Nat.reduceBEq, Nat.reduceEqDiff, reduceCtorEq, Nat.reduceAdd, Nat.reduceSub, Nat.reduceMul, Nat.reduceLeDiff, Int.reduceToNat, Int.reduceLT, Int.reduceLE, Int.reduceNeg, reduceIte, pvC_fgt, pvC_ids, pvC_ren, pvC_len, I, S, tv, nv, tyT, RawV.tv, R1.row, rowsGet, rowsLen, row4, Vk, Vn, Vs, Vl]; with_reducible rfl); (· exact HT); (· first | rfl | (simp only [moOk, nbeq, nble, List.length_nil, beq_self_eq_true, Bool.true_and, Bool.and_true, Bool.and_eq_true, decide_eq_true_eq]; omega)); (· simp only [vcA, Nat.reduceLT, Int.reduceEq, Int.reduceAdd, Int.reduceSub, Nat.reduceBEq, Nat.reduceEqDiff, reduceCtorEq, Nat.reduceAdd, Nat.reduceSub, Nat.reduceMul, Nat.reduceLeDiff, Int.reduceToNat, Int.reduceLT, Int.reduceLE, Int.reduceNeg, reduceIte, pvC_fgt, pvC_ids, pvC_ren, pvC_len, I, S, tv, nv, tyT, RawV.tv, R1.row, rowsGet, rowsLen, row4, Vk, Vn, Vs, Vl]; with_reducible rfl)
      simp only [vcA, Nat.reduceLT, Int.reduceEq, Int.reduceAdd, Int.reduceSub, Nat.reduceBEq, Nat.reduceEqDiff, reduceCtorEq, Nat.reduceAdd, Nat.reduceSub, Nat.reduceMul, Nat.reduceLeDiff, Int.reduceToNat, Int.reduceLT, Int.reduceLE, Int.reduceNeg, reduceIte, pvC_fgt, pvC_ids, pvC_ren, pvC_len, I, S, tv, nv, tyT, RawV.tv, R1.row, rowsGet, rowsLen, row4, Vk, Vn, Vs, Vl, dec]
    · rw [if_neg hc] at h; cases h
theorem dtext_err (a0 a1 : Addr) (m : Nat) (s : List UInt8) (a : Int) (hs : SmallS s) (ha : I64 a) {e : Int} (h : dText s a = .error e) :
    SCalls Tryz.prog (gl a0 a1 m) 113 [.ptr 1000 0] [dec s a] (.tuple [S (str []), I e]) [dec s a] ∧ e ≠ 0 := by
  have HR := readText_ok a0 a1 m s a hs ha
  unfold dText at h
  cases hr : readText s a with
  | none =>
    rw [hr] at h HR; cases h
    refine ⟨call_of hmix tf___val_decoder__text rfl rfl rfl ?_, by decide⟩
    simp only [vcA, Nat.reduceLT, Int.reduceEq, Int.reduceAdd, Int.reduceSub, Nat.reduceBEq, Nat.reduceEqDiff, reduceCtorEq, Nat.reduceAdd, Nat.reduceSub, Nat.reduceMul, Nat.reduceLeDiff, Int.reduceToNat, Int.reduceLT, Int.reduceLE, Int.reduceNeg, reduceIte, pvC_fgt, pvC_ids, pvC_ren, pvC_len, I, S, tv, nv, tyT, RawV.tv, R1.row, rowsGet, rowsLen, row4, Vk, Vn, Vs, Vl, dec]
    (with_reducible apply v_call); (· simp only [vcA, Nat.reduceLT, Int.reduceEq, Int.reduceAdd, Int.reduceSub, Nat.reduceBEq, Nat.reduceEqDiff, reduceCtorEq, Nat.reduceAdd, Nat.reduceSub, Nat.reduceMul, Nat.reduceLeDiff, Int.reduceToNat, Int.reduceLT, Int.reduceLE, Int.reduceNeg, reduceIte, pvC_fgt, pvC_ids, pvC_ren, pvC_len, I, S, tv, nv, tyT, RawV.tv, R1.row, rowsGet, rowsLen, row4, Vk, Vn, Vs, Vl, readTV]; with_reducible rfl); (· exact HR); (· first | rfl | (simp only [moOk, nbeq, nble, List.length_nil, beq_self_eq_true, Bool.true_and, Bool.and_true, Bool.and_eq_true, decide_eq_true_eq]; omega)); (· simp only [vcA, Nat.reduceLT, Int.reduceEq, Int.reduceAdd, Int.reduceSub, Nat.reduceBEq, Nat.reduceEqDiff, reduceCtorEq, Nat.reduceAdd, Nat.reduceSub, Nat.reduceMul, Nat.reduceLeDiff, Int.reduceToNat, Int.reduceLT, Int.reduceLE, Int.reduceNeg, reduceIte, pvC_fgt, pvC_ids, pvC_ren, pvC_len, I, S, tv, nv, tyT, RawV.tv, R1.row, rowsGet, rowsLen, row4, Vk, Vn, Vs, Vl, readTV]; with_reducible rfl)
    simp only [vcA, Nat.reduceLT, Int.reduceEq, Int.reduceAdd, Int.reduceSub, Nat.reduceBEq, Nat.reduceEqDiff, reduceCtorEq, Nat.reduceAdd, Nat.reduceSub, Nat.reduceMul, Nat.reduceLeDiff, Int.reduceToNat, Int.reduceLT, Int.reduceLE, Int.reduceNeg, reduceIte, pvC_fgt, pvC_ids, pvC_ren, pvC_len, I, S, tv, nv, tyT, RawV.tv, R1.row, rowsGet, rowsLen, row4, Vk, Vn, Vs, Vl, dec]
    rfl
  | some q =>
    obtain ⟨t', b'⟩ := q
    rw [hr] at h HR
    have hb := readText_bound hr
    simp only [] at h
    by_cases hc : rightText t' = true
    · rw [if_pos hc] at h; cases h
    · rw [if_neg hc] at h; cases h
      have HT := rightText_ok a0 a1 m t' (by omega)
      rw [show rightText t' = false by simpa using hc] at HT
      refine ⟨call_of hmix tf___val_decoder__text rfl rfl rfl ?_, by decide⟩
      simp only [vcA, Nat.reduceLT, Int.reduceEq, Int.reduceAdd, Int.reduceSub, Nat.reduceBEq, Nat.reduceEqDiff, reduceCtorEq, Nat.reduceAdd, Nat.reduceSub, Nat.reduceMul, Nat.reduceLeDiff, Int.reduceToNat, Int.reduceLT, Int.reduceLE, Int.reduceNeg, reduceIte, pvC_fgt, pvC_ids, pvC_ren, pvC_len, I, S, tv, nv, tyT, RawV.tv, R1.row, rowsGet, rowsLen, row4, Vk, Vn, Vs, Vl, dec]
      (with_reducible apply v_call); (· simp only [vcA, Nat.reduceLT, Int.reduceEq, Int.reduceAdd, Int.reduceSub, Nat.reduceBEq, Nat.reduceEqDiff, reduceCtorEq, Nat.reduceAdd, Nat.reduceSub, Nat.reduceMul, Nat.reduceLeDiff, Int.reduceToNat, Int.reduceLT, Int.reduceLE, Int.reduceNeg, reduceIte, pvC_fgt, pvC_ids, pvC_ren, pvC_len, I, S, tv, nv, tyT, RawV.tv, R1.row, rowsGet, rowsLen, row4, Vk, Vn, Vs, Vl, readTV]; with_reducible rfl); (· exact HR); (· first | rfl | (simp only [moOk, nbeq, nble, List.length_nil, beq_self_eq_true, Bool.true_and, Bool.and_true, Bool.and_eq_true, decide_eq_true_eq]; omega)); (· simp only [vcA, Nat.reduceLT, Int.reduceEq, Int.reduceAdd, Int.reduceSub, Nat.reduceBEq, Nat.reduceEqDiff, reduceCtorEq, Nat.reduceAdd, Nat.reduceSub, Nat.reduceMul, Nat.reduceLeDiff, Int.reduceToNat, Int.reduceLT, Int.reduceLE, Int.reduceNeg, reduceIte, pvC_fgt, pvC_ids, pvC_ren, pvC_len, I, S, tv, nv, tyT, RawV.tv, R1.row, rowsGet, rowsLen, row4, Vk, Vn, Vs, Vl, readTV]; with_reducible rfl)
      simp only [vcA, Nat.reduceLT, Int.reduceEq, Int.reduceAdd, Int.reduceSub, Nat.reduceBEq, Nat.reduceEqDiff, reduceCtorEq, Nat.reduceAdd, Nat.reduceSub, Nat.reduceMul, Nat.reduceLeDiff, Int.reduceToNat, Int.reduceLT, Int.reduceLE, Int.reduceNeg, reduceIte, pvC_fgt, pvC_ids, pvC_ren, pvC_len, I, S, tv, nv, tyT, RawV.tv, R1.row, rowsGet, rowsLen, row4, Vk, Vn, Vs, Vl, dec]
      (with_reducible apply v_call); (· simp only [vcA, Nat.reduceLT, Int.reduceEq, Int.reduceAdd, Int.reduceSub, Nat.reduceBEq, Nat.reduceEqDiff, reduceCtorEq, Nat.reduceAdd, Nat.reduceSub, Nat.reduceMul, Nat.reduceLeDiff, Int.reduceToNat, Int.reduceLT, Int.reduceLE, Int.reduceNeg, reduceIte, pvC_fgt, pvC_ids, pvC_ren, pvC_len, I, S, tv, nv, tyT, RawV.tv, R1.row, rowsGet, rowsLen, row4, Vk, Vn, Vs, Vl]; with_reducible rfl); (· exact HT); (· first | rfl | (simp only [moOk, nbeq, nble, List.length_nil, beq_self_eq_true, Bool.true_and, Bool.and_true, Bool.and_eq_true, decide_eq_true_eq]; omega)); (· simp only [vcA, Nat.reduceLT, Int.reduceEq, Int.reduceAdd, Int.reduceSub, Nat.reduceBEq, Nat.reduceEqDiff, reduceCtorEq, Nat.reduceAdd, Nat.reduceSub, Nat.reduceMul, Nat.reduceLeDiff, Int.reduceToNat, Int.reduceLT, Int.reduceLE, Int.reduceNeg, reduceIte, pvC_fgt, pvC_ids, pvC_ren, pvC_len, I, S, tv, nv, tyT, RawV.tv, R1.row, rowsGet, rowsLen, row4, Vk, Vn, Vs, Vl]; with_reducible rfl)
      simp only [vcA, Nat.reduceLT, Int.reduceEq, Int.reduceAdd, Int.reduceSub, Nat.reduceBEq, Nat.reduceEqDiff, reduceCtorEq, Nat.reduceAdd, Nat.reduceSub, Nat.reduceMul, Nat.reduceLeDiff, Int.reduceToNat, Int.reduceLT, Int.reduceLE, Int.reduceNeg, reduceIte, pvC_fgt, pvC_ids, pvC_ren, pvC_len, I, S, tv, nv, tyT, RawV.tv, R1.row, rowsGet, rowsLen, row4, Vk, Vn, Vs, Vl, dec]
      rfl
/-- The rest of a value that is no list. -/
theorem value1_ok (a0 a1 : Addr) (m : Nat) (s : List UInt8) (a hi : Int) (hs : SmallS s) (ha : I64 a) {k b c : Int} {v : V} (hk : dNum s a 0 hi = .ok (k, b)) (h5 : k ≠ 5) (h : dRest s k b = .ok (v, c)) :
    SCalls Tryz.prog (gl a0 a1 m) 59 [.ptr 1000 0, I hi] [dec s a] (.tuple [nv v, I 0]) [dec s c] := by
  have HK := number_ok a0 a1 m s a 0 hi hs ha hk
  obtain ⟨hb, hkk⟩ := dNum_pos hs hk
  have hk0 := (dNum_inv hk).2.1
  refine call_of hmix tf___val_decoder__value rfl rfl rfl ?_
  unfold dec at HK ⊢
  simp only [vcA, Nat.reduceLT, Int.reduceEq, Int.reduceAdd, Int.reduceSub, Nat.reduceBEq, Nat.reduceEqDiff, reduceCtorEq, Nat.reduceAdd, Nat.reduceSub, Nat.reduceMul, Nat.reduceLeDiff, Int.reduceToNat, Int.reduceLT, Int.reduceLE, Int.reduceNeg, reduceIte, pvC_fgt, pvC_ids, pvC_ren, pvC_len, I, S, tv, nv, tyT, RawV.tv, R1.row, rowsGet, rowsLen, row4, Vk, Vn, Vs, Vl]
  (with_reducible apply v_call); (· simp only [vcA, Nat.reduceLT, Int.reduceEq, Int.reduceAdd, Int.reduceSub, Nat.reduceBEq, Nat.reduceEqDiff, reduceCtorEq, Nat.reduceAdd, Nat.reduceSub, Nat.reduceMul, Nat.reduceLeDiff, Int.reduceToNat, Int.reduceLT, Int.reduceLE, Int.reduceNeg, reduceIte, pvC_fgt, pvC_ids, pvC_ren, pvC_len, I, S, tv, nv, tyT, RawV.tv, R1.row, rowsGet, rowsLen, row4, Vk, Vn, Vs, Vl]; with_reducible rfl); (· exact HK); (· first | rfl | (simp only [moOk, nbeq, nble, List.length_nil, beq_self_eq_true, Bool.true_and, Bool.and_true, Bool.and_eq_true, decide_eq_true_eq]; omega)); (· simp only [vcA, Nat.reduceLT, Int.reduceEq, Int.reduceAdd, Int.reduceSub, Nat.reduceBEq, Nat.reduceEqDiff, reduceCtorEq, Nat.reduceAdd, Nat.reduceSub, Nat.reduceMul, Nat.reduceLeDiff, Int.reduceToNat, Int.reduceLT, Int.reduceLE, Int.reduceNeg, reduceIte, pvC_fgt, pvC_ids, pvC_ren, pvC_len, I, S, tv, nv, tyT, RawV.tv, R1.row, rowsGet, rowsLen, row4, Vk, Vn, Vs, Vl]; with_reducible rfl)
  unfold dRest at h
  by_cases e1 : k = 1
  · subst e1
    rw [if_pos rfl] at h
    cases hn : dNum s b (-1000000000000000) 1000000000000000 with
    | error e => rw [hn] at h; cases h
    | ok q =>
      obtain ⟨n, c'⟩ := q
      rw [hn] at h; cases h
      have HN := number_ok a0 a1 m s b _ _ hs hb hn
      unfold dec at HN
      simp only [vcA, Nat.reduceLT, Int.reduceEq, Int.reduceAdd, Int.reduceSub, Nat.reduceBEq, Nat.reduceEqDiff, reduceCtorEq, Nat.reduceAdd, Nat.reduceSub, Nat.reduceMul, Nat.reduceLeDiff, Int.reduceToNat, Int.reduceLT, Int.reduceLE, Int.reduceNeg, reduceIte, pvC_fgt, pvC_ids, pvC_ren, pvC_len, I, S, tv, nv, tyT, RawV.tv, R1.row, rowsGet, rowsLen, row4, Vk, Vn, Vs, Vl]
      (with_reducible apply v_call); (· simp only [vcA, Nat.reduceLT, Int.reduceEq, Int.reduceAdd, Int.reduceSub, Nat.reduceBEq, Nat.reduceEqDiff, reduceCtorEq, Nat.reduceAdd, Nat.reduceSub, Nat.reduceMul, Nat.reduceLeDiff, Int.reduceToNat, Int.reduceLT, Int.reduceLE, Int.reduceNeg, reduceIte, pvC_fgt, pvC_ids, pvC_ren, pvC_len, I, S, tv, nv, tyT, RawV.tv, R1.row, rowsGet, rowsLen, row4, Vk, Vn, Vs, Vl]; with_reducible rfl); (· exact HN); (· first | rfl | (simp only [moOk, nbeq, nble, List.length_nil, beq_self_eq_true, Bool.true_and, Bool.and_true, Bool.and_eq_true, decide_eq_true_eq]; omega)); (· simp only [vcA, Nat.reduceLT, Int.reduceEq, Int.reduceAdd, Int.reduceSub, Nat.reduceBEq, Nat.reduceEqDiff, reduceCtorEq, Nat.reduceAdd, Nat.reduceSub, Nat.reduceMul, Nat.reduceLeDiff, Int.reduceToNat, Int.reduceLT, Int.reduceLE, Int.reduceNeg, reduceIte, pvC_fgt, pvC_ids, pvC_ren, pvC_len, I, S, tv, nv, tyT, RawV.tv, R1.row, rowsGet, rowsLen, row4, Vk, Vn, Vs, Vl]; with_reducible rfl)
      simp only [vcA, Nat.reduceLT, Int.reduceEq, Int.reduceAdd, Int.reduceSub, Nat.reduceBEq, Nat.reduceEqDiff, reduceCtorEq, Nat.reduceAdd, Nat.reduceSub, Nat.reduceMul, Nat.reduceLeDiff, Int.reduceToNat, Int.reduceLT, Int.reduceLE, Int.reduceNeg, reduceIte, pvC_fgt, pvC_ids, pvC_ren, pvC_len, I, S, tv, nv, tyT, RawV.tv, R1.row, rowsGet, rowsLen, row4, Vk, Vn, Vs, Vl]
      rfl
  rw [if_neg e1] at h
  by_cases e2 : k = 2
  · subst e2
    rw [if_pos rfl] at h
    cases hn : dText s b with
    | error e => rw [hn] at h; cases h
    | ok q =>
      obtain ⟨n, c'⟩ := q
      rw [hn] at h; cases h
      have HN := dtext_ok a0 a1 m s b hs hb hn
      unfold dec at HN
      simp only [vcA, Nat.reduceLT, Int.reduceEq, Int.reduceAdd, Int.reduceSub, Nat.reduceBEq, Nat.reduceEqDiff, reduceCtorEq, Nat.reduceAdd, Nat.reduceSub, Nat.reduceMul, Nat.reduceLeDiff, Int.reduceToNat, Int.reduceLT, Int.reduceLE, Int.reduceNeg, reduceIte, pvC_fgt, pvC_ids, pvC_ren, pvC_len, I, S, tv, nv, tyT, RawV.tv, R1.row, rowsGet, rowsLen, row4, Vk, Vn, Vs, Vl]
      (with_reducible apply v_call); (· simp only [vcA, Nat.reduceLT, Int.reduceEq, Int.reduceAdd, Int.reduceSub, Nat.reduceBEq, Nat.reduceEqDiff, reduceCtorEq, Nat.reduceAdd, Nat.reduceSub, Nat.reduceMul, Nat.reduceLeDiff, Int.reduceToNat, Int.reduceLT, Int.reduceLE, Int.reduceNeg, reduceIte, pvC_fgt, pvC_ids, pvC_ren, pvC_len, I, S, tv, nv, tyT, RawV.tv, R1.row, rowsGet, rowsLen, row4, Vk, Vn, Vs, Vl]; with_reducible rfl); (· exact HN); (· first | rfl | (simp only [moOk, nbeq, nble, List.length_nil, beq_self_eq_true, Bool.true_and, Bool.and_true, Bool.and_eq_true, decide_eq_true_eq]; omega)); (· simp only [vcA, Nat.reduceLT, Int.reduceEq, Int.reduceAdd, Int.reduceSub, Nat.reduceBEq, Nat.reduceEqDiff, reduceCtorEq, Nat.reduceAdd, Nat.reduceSub, Nat.reduceMul, Nat.reduceLeDiff, Int.reduceToNat, Int.reduceLT, Int.reduceLE, Int.reduceNeg, reduceIte, pvC_fgt, pvC_ids, pvC_ren, pvC_len, I, S, tv, nv, tyT, RawV.tv, R1.row, rowsGet, rowsLen, row4, Vk, Vn, Vs, Vl]; with_reducible rfl)
      simp only [vcA, Nat.reduceLT, Int.reduceEq, Int.reduceAdd, Int.reduceSub, Nat.reduceBEq, Nat.reduceEqDiff, reduceCtorEq, Nat.reduceAdd, Nat.reduceSub, Nat.reduceMul, Nat.reduceLeDiff, Int.reduceToNat, Int.reduceLT, Int.reduceLE, Int.reduceNeg, reduceIte, pvC_fgt, pvC_ids, pvC_ren, pvC_len, I, S, tv, nv, tyT, RawV.tv, R1.row, rowsGet, rowsLen, row4, Vk, Vn, Vs, Vl]
  rw [if_neg e2] at h
  by_cases e3 : k = 3 ∨ k = 4
  · rw [if_pos e3] at h
    cases hn : dNum s b (-20) 100000 with
    | error e => rw [hn] at h; cases h
    | ok q =>
      obtain ⟨n, c'⟩ := q
      rw [hn] at h
      simp only [] at h
      by_cases hz : n = 0
      · rw [if_pos hz] at h; cases h
      rw [if_neg hz] at h; cases h
      have HN := number_ok a0 a1 m s b _ _ hs hb hn
      unfold dec at HN
      rcases e3 with rfl | rfl
      · simp only [vcA, Nat.reduceLT, Int.reduceEq, Int.reduceAdd, Int.reduceSub, Nat.reduceBEq, Nat.reduceEqDiff, reduceCtorEq, Nat.reduceAdd, Nat.reduceSub, Nat.reduceMul, Nat.reduceLeDiff, Int.reduceToNat, Int.reduceLT, Int.reduceLE, Int.reduceNeg, reduceIte, pvC_fgt, pvC_ids, pvC_ren, pvC_len, I, S, tv, nv, tyT, RawV.tv, R1.row, rowsGet, rowsLen, row4, Vk, Vn, Vs, Vl]
        (with_reducible apply v_call); (· simp only [vcA, Nat.reduceLT, Int.reduceEq, Int.reduceAdd, Int.reduceSub, Nat.reduceBEq, Nat.reduceEqDiff, reduceCtorEq, Nat.reduceAdd, Nat.reduceSub, Nat.reduceMul, Nat.reduceLeDiff, Int.reduceToNat, Int.reduceLT, Int.reduceLE, Int.reduceNeg, reduceIte, pvC_fgt, pvC_ids, pvC_ren, pvC_len, I, S, tv, nv, tyT, RawV.tv, R1.row, rowsGet, rowsLen, row4, Vk, Vn, Vs, Vl]; with_reducible rfl); (· exact HN); (· first | rfl | (simp only [moOk, nbeq, nble, List.length_nil, beq_self_eq_true, Bool.true_and, Bool.and_true, Bool.and_eq_true, decide_eq_true_eq]; omega)); (· simp only [vcA, Nat.reduceLT, Int.reduceEq, Int.reduceAdd, Int.reduceSub, Nat.reduceBEq, Nat.reduceEqDiff, reduceCtorEq, Nat.reduceAdd, Nat.reduceSub, Nat.reduceMul, Nat.reduceLeDiff, Int.reduceToNat, Int.reduceLT, Int.reduceLE, Int.reduceNeg, reduceIte, pvC_fgt, pvC_ids, pvC_ren, pvC_len, I, S, tv, nv, tyT, RawV.tv, R1.row, rowsGet, rowsLen, row4, Vk, Vn, Vs, Vl]; with_reducible rfl)
        simp only [vcA, Nat.reduceLT, Int.reduceEq, Int.reduceAdd, Int.reduceSub, Nat.reduceBEq, Nat.reduceEqDiff, reduceCtorEq, Nat.reduceAdd, Nat.reduceSub, Nat.reduceMul, Nat.reduceLeDiff, Int.reduceToNat, Int.reduceLT, Int.reduceLE, Int.reduceNeg, reduceIte, pvC_fgt, pvC_ids, pvC_ren, pvC_len, I, S, tv, nv, tyT, RawV.tv, R1.row, rowsGet, rowsLen, row4, Vk, Vn, Vs, Vl, hz]
        rfl
      · simp only [vcA, Nat.reduceLT, Int.reduceEq, Int.reduceAdd, Int.reduceSub, Nat.reduceBEq, Nat.reduceEqDiff, reduceCtorEq, Nat.reduceAdd, Nat.reduceSub, Nat.reduceMul, Nat.reduceLeDiff, Int.reduceToNat, Int.reduceLT, Int.reduceLE, Int.reduceNeg, reduceIte, pvC_fgt, pvC_ids, pvC_ren, pvC_len, I, S, tv, nv, tyT, RawV.tv, R1.row, rowsGet, rowsLen, row4, Vk, Vn, Vs, Vl]
        (with_reducible apply v_call); (· simp only [vcA, Nat.reduceLT, Int.reduceEq, Int.reduceAdd, Int.reduceSub, Nat.reduceBEq, Nat.reduceEqDiff, reduceCtorEq, Nat.reduceAdd, Nat.reduceSub, Nat.reduceMul, Nat.reduceLeDiff, Int.reduceToNat, Int.reduceLT, Int.reduceLE, Int.reduceNeg, reduceIte, pvC_fgt, pvC_ids, pvC_ren, pvC_len, I, S, tv, nv, tyT, RawV.tv, R1.row, rowsGet, rowsLen, row4, Vk, Vn, Vs, Vl]; with_reducible rfl); (· exact HN); (· first | rfl | (simp only [moOk, nbeq, nble, List.length_nil, beq_self_eq_true, Bool.true_and, Bool.and_true, Bool.and_eq_true, decide_eq_true_eq]; omega)); (· simp only [vcA, Nat.reduceLT, Int.reduceEq, Int.reduceAdd, Int.reduceSub, Nat.reduceBEq, Nat.reduceEqDiff, reduceCtorEq, Nat.reduceAdd, Nat.reduceSub, Nat.reduceMul, Nat.reduceLeDiff, Int.reduceToNat, Int.reduceLT, Int.reduceLE, Int.reduceNeg, reduceIte, pvC_fgt, pvC_ids, pvC_ren, pvC_len, I, S, tv, nv, tyT, RawV.tv, R1.row, rowsGet, rowsLen, row4, Vk, Vn, Vs, Vl]; with_reducible rfl)
        simp only [vcA, Nat.reduceLT, Int.reduceEq, Int.reduceAdd, Int.reduceSub, Nat.reduceBEq, Nat.reduceEqDiff, reduceCtorEq, Nat.reduceAdd, Nat.reduceSub, Nat.reduceMul, Nat.reduceLeDiff, Int.reduceToNat, Int.reduceLT, Int.reduceLE, Int.reduceNeg, reduceIte, pvC_fgt, pvC_ids, pvC_ren, pvC_len, I, S, tv, nv, tyT, RawV.tv, R1.row, rowsGet, rowsLen, row4, Vk, Vn, Vs, Vl, hz]
        rfl
  rw [if_neg e3] at h; cases h
  have e3' : ¬ k = 3 := fun h => e3 (.inl h)
  have e4' : ¬ k = 4 := fun h => e3 (.inr h)
  simp only [vcA, Nat.reduceLT, Int.reduceEq, Int.reduceAdd, Int.reduceSub, Nat.reduceBEq, Nat.reduceEqDiff, reduceCtorEq, Nat.reduceAdd, Nat.reduceSub, Nat.reduceMul, Nat.reduceLeDiff, Int.reduceToNat, Int.reduceLT, Int.reduceLE, Int.reduceNeg, reduceIte, pvC_fgt, pvC_ids, pvC_ren, pvC_len, I, S, tv, nv, tyT, RawV.tv, R1.row, rowsGet, rowsLen, row4, Vk, Vn, Vs, Vl, e1, e2, e3', e4', h5]
  rfl
theorem value_err0 (a0 a1 : Addr) (m : Nat) (s : List UInt8) (a hi : Int) (hs : SmallS s) (ha : I64 a) {e : Int} (hk : dNum s a 0 hi = .error e) :
    SCalls Tryz.prog (gl a0 a1 m) 59 [.ptr 1000 0, I hi] [dec s a] (.tuple [nv V.nil, I e]) [dec s a] ∧ e ≠ 0 := by
  have HK := number_err a0 a1 m s a 0 hi hs ha hk
  refine ⟨call_of hmix tf___val_decoder__value rfl rfl rfl ?_, HK.2⟩
  unfold dec at HK ⊢
  simp only [vcA, Nat.reduceLT, Int.reduceEq, Int.reduceAdd, Int.reduceSub, Nat.reduceBEq, Nat.reduceEqDiff, reduceCtorEq, Nat.reduceAdd, Nat.reduceSub, Nat.reduceMul, Nat.reduceLeDiff, Int.reduceToNat, Int.reduceLT, Int.reduceLE, Int.reduceNeg, reduceIte, pvC_fgt, pvC_ids, pvC_ren, pvC_len, I, S, tv, nv, tyT, RawV.tv, R1.row, rowsGet, rowsLen, row4, Vk, Vn, Vs, Vl]
  (with_reducible apply v_call); (· simp only [vcA, Nat.reduceLT, Int.reduceEq, Int.reduceAdd, Int.reduceSub, Nat.reduceBEq, Nat.reduceEqDiff, reduceCtorEq, Nat.reduceAdd, Nat.reduceSub, Nat.reduceMul, Nat.reduceLeDiff, Int.reduceToNat, Int.reduceLT, Int.reduceLE, Int.reduceNeg, reduceIte, pvC_fgt, pvC_ids, pvC_ren, pvC_len, I, S, tv, nv, tyT, RawV.tv, R1.row, rowsGet, rowsLen, row4, Vk, Vn, Vs, Vl]; with_reducible rfl); (· exact HK.1); (· first | rfl | (simp only [moOk, nbeq, nble, List.length_nil, beq_self_eq_true, Bool.true_and, Bool.and_true, Bool.and_eq_true, decide_eq_true_eq]; omega)); (· simp only [vcA, Nat.reduceLT, Int.reduceEq, Int.reduceAdd, Int.reduceSub, Nat.reduceBEq, Nat.reduceEqDiff, reduceCtorEq, Nat.reduceAdd, Nat.reduceSub, Nat.reduceMul, Nat.reduceLeDiff, Int.reduceToNat, Int.reduceLT, Int.reduceLE, Int.reduceNeg, reduceIte, pvC_fgt, pvC_ids, pvC_ren, pvC_len, I, S, tv, nv, tyT, RawV.tv, R1.row, rowsGet, rowsLen, row4, Vk, Vn, Vs, Vl]; with_reducible rfl)
  simp only [vcA, Nat.reduceLT, Int.reduceEq, Int.reduceAdd, Int.reduceSub, Nat.reduceBEq, Nat.reduceEqDiff, reduceCtorEq, Nat.reduceAdd, Nat.reduceSub, Nat.reduceMul, Nat.reduceLeDiff, Int.reduceToNat, Int.reduceLT, Int.reduceLE, Int.reduceNeg, reduceIte, pvC_fgt, pvC_ids, pvC_ren, pvC_len, I, S, tv, nv, tyT, RawV.tv, R1.row, rowsGet, rowsLen, row4, Vk, Vn, Vs, Vl, HK.2]
  rfl
theorem value1_err (a0 a1 : Addr) (m : Nat) (s : List UInt8) (a hi : Int) (hs : SmallS s) (ha : I64 a) {k b e : Int} (hk : dNum s a 0 hi = .ok (k, b)) (h5 : k ≠ 5) (h : dRest s k b = .error e) :
    (∃ c, SCalls Tryz.prog (gl a0 a1 m) 59 [.ptr 1000 0, I hi] [dec s a] (.tuple [nv V.nil, I e]) [dec s c]) ∧ e ≠ 0 := by
  have HK := number_ok a0 a1 m s a 0 hi hs ha hk
  obtain ⟨hb, hkk⟩ := dNum_pos hs hk
  unfold dRest at h
  by_cases e1 : k = 1
  · subst e1
    rw [if_pos rfl] at h
    cases hn : dNum s b (-1000000000000000) 1000000000000000 with
    | ok q => rw [hn] at h; cases h
    | error e =>
      rw [hn] at h; cases h
      have HN := number_err a0 a1 m s b _ _ hs hb hn
      refine ⟨⟨b, call_of hmix tf___val_decoder__value rfl rfl rfl ?_⟩, HN.2⟩
      unfold dec at HK HN ⊢
      simp only [vcA, Nat.reduceLT, Int.reduceEq, Int.reduceAdd, Int.reduceSub, Nat.reduceBEq, Nat.reduceEqDiff, reduceCtorEq, Nat.reduceAdd, Nat.reduceSub, Nat.reduceMul, Nat.reduceLeDiff, Int.reduceToNat, Int.reduceLT, Int.reduceLE, Int.reduceNeg, reduceIte, pvC_fgt, pvC_ids, pvC_ren, pvC_len, I, S, tv, nv, tyT, RawV.tv, R1.row, rowsGet, rowsLen, row4, Vk, Vn, Vs, Vl]
      (with_reducible apply v_call); (· simp only [vcA, Nat.reduceLT, Int.reduceEq, Int.reduceAdd, Int.reduceSub, Nat.reduceBEq, Nat.reduceEqDiff, reduceCtorEq, Nat.reduceAdd, Nat.reduceSub, Nat.reduceMul, Nat.reduceLeDiff, Int.reduceToNat, Int.reduceLT, Int.reduceLE, Int.reduceNeg, reduceIte, pvC_fgt, pvC_ids, pvC_ren, pvC_len, I, S, tv, nv, tyT, RawV.tv, R1.row, rowsGet, rowsLen, row4, Vk, Vn, Vs, Vl]; with_reducible rfl); (· exact HK); (· first | rfl | (simp only [moOk, nbeq, nble, List.length_nil, beq_self_eq_true, Bool.true_and, Bool.and_true, Bool.and_eq_true, decide_eq_true_eq]; omega)); (· simp only [vcA, Nat.reduceLT, Int.reduceEq, Int.reduceAdd, Int.reduceSub, Nat.reduceBEq, Nat.reduceEqDiff, reduceCtorEq, Nat.reduceAdd, Nat.reduceSub, Nat.reduceMul, Nat.reduceLeDiff, Int.reduceToNat, Int.reduceLT, Int.reduceLE, Int.reduceNeg, reduceIte, pvC_fgt, pvC_ids, pvC_ren, pvC_len, I, S, tv, nv, tyT, RawV.tv, R1.row, rowsGet, rowsLen, row4, Vk, Vn, Vs, Vl]; with_reducible rfl)
      simp only [vcA, Nat.reduceLT, Int.reduceEq, Int.reduceAdd, Int.reduceSub, Nat.reduceBEq, Nat.reduceEqDiff, reduceCtorEq, Nat.reduceAdd, Nat.reduceSub, Nat.reduceMul, Nat.reduceLeDiff, Int.reduceToNat, Int.reduceLT, Int.reduceLE, Int.reduceNeg, reduceIte, pvC_fgt, pvC_ids, pvC_ren, pvC_len, I, S, tv, nv, tyT, RawV.tv, R1.row, rowsGet, rowsLen, row4, Vk, Vn, Vs, Vl]
      (with_reducible apply v_call); (· simp only [vcA, Nat.reduceLT, Int.reduceEq, Int.reduceAdd, Int.reduceSub, Nat.reduceBEq, Nat.reduceEqDiff, reduceCtorEq, Nat.reduceAdd, Nat.reduceSub, Nat.reduceMul, Nat.reduceLeDiff, Int.reduceToNat, Int.reduceLT, Int.reduceLE, Int.reduceNeg, reduceIte, pvC_fgt, pvC_ids, pvC_ren, pvC_len, I, S, tv, nv, tyT, RawV.tv, R1.row, rowsGet, rowsLen, row4, Vk, Vn, Vs, Vl]; with_reducible rfl); (· exact HN.1); (· first | rfl | (simp only [moOk, nbeq, nble, List.length_nil, beq_self_eq_true, Bool.true_and, Bool.and_true, Bool.and_eq_true, decide_eq_true_eq]; omega)); (· simp only [vcA, Nat.reduceLT, Int.reduceEq, Int.reduceAdd, Int.reduceSub, Nat.reduceBEq, Nat.reduceEqDiff, reduceCtorEq, Nat.reduceAdd, Nat.reduceSub, Nat.reduceMul, Nat.reduceLeDiff, Int.reduceToNat, Int.reduceLT, Int.reduceLE, Int.reduceNeg, reduceIte, pvC_fgt, pvC_ids, pvC_ren, pvC_len, I, S, tv, nv, tyT, RawV.tv, R1.row, rowsGet, rowsLen, row4, Vk, Vn, Vs, Vl]; with_reducible rfl)
      simp only [vcA, Nat.reduceLT, Int.reduceEq, Int.reduceAdd, Int.reduceSub, Nat.reduceBEq, Nat.reduceEqDiff, reduceCtorEq, Nat.reduceAdd, Nat.reduceSub, Nat.reduceMul, Nat.reduceLeDiff, Int.reduceToNat, Int.reduceLT, Int.reduceLE, Int.reduceNeg, reduceIte, pvC_fgt, pvC_ids, pvC_ren, pvC_len, I, S, tv, nv, tyT, RawV.tv, R1.row, rowsGet, rowsLen, row4, Vk, Vn, Vs, Vl, HN.2]
      rfl
  rw [if_neg e1] at h
  by_cases e2 : k = 2
  · subst e2
    rw [if_pos rfl] at h
    cases hn : dText s b with
    | ok q => rw [hn] at h; cases h
    | error e =>
      rw [hn] at h; cases h
      have HN := dtext_err a0 a1 m s b hs hb hn
      refine ⟨⟨b, call_of hmix tf___val_decoder__value rfl rfl rfl ?_⟩, HN.2⟩
      unfold dec at HK HN ⊢
      simp only [vcA, Nat.reduceLT, Int.reduceEq, Int.reduceAdd, Int.reduceSub, Nat.reduceBEq, Nat.reduceEqDiff, reduceCtorEq, Nat.reduceAdd, Nat.reduceSub, Nat.reduceMul, Nat.reduceLeDiff, Int.reduceToNat, Int.reduceLT, Int.reduceLE, Int.reduceNeg, reduceIte, pvC_fgt, pvC_ids, pvC_ren, pvC_len, I, S, tv, nv, tyT, RawV.tv, R1.row, rowsGet, rowsLen, row4, Vk, Vn, Vs, Vl]
      (with_reducible apply v_call); (· simp only [vcA, Nat.reduceLT, Int.reduceEq, Int.reduceAdd, Int.reduceSub, Nat.reduceBEq, Nat.reduceEqDiff, reduceCtorEq, Nat.reduceAdd, Nat.reduceSub, Nat.reduceMul, Nat.reduceLeDiff, Int.reduceToNat, Int.reduceLT, Int.reduceLE, Int.reduceNeg, reduceIte, pvC_fgt, pvC_ids, pvC_ren, pvC_len, I, S, tv, nv, tyT, RawV.tv, R1.row, rowsGet, rowsLen, row4, Vk, Vn, Vs, Vl]; with_reducible rfl); (· exact HK); (· first | rfl | (simp only [moOk, nbeq, nble, List.length_nil, beq_self_eq_true, Bool.true_and, Bool.and_true, Bool.and_eq_true, decide_eq_true_eq]; omega)); (· simp only [vcA, Nat.reduceLT, Int.reduceEq, Int.reduceAdd, Int.reduceSub, Nat.reduceBEq, Nat.reduceEqDiff, reduceCtorEq, Nat.reduceAdd, Nat.reduceSub, Nat.reduceMul, Nat.reduceLeDiff, Int.reduceToNat, Int.reduceLT, Int.reduceLE, Int.reduceNeg, reduceIte, pvC_fgt, pvC_ids, pvC_ren, pvC_len, I, S, tv, nv, tyT, RawV.tv, R1.row, rowsGet, rowsLen, row4, Vk, Vn, Vs, Vl]; with_reducible rfl)
      simp only [vcA, Nat.reduceLT, Int.reduceEq, Int.reduceAdd, Int.reduceSub, Nat.reduceBEq, Nat.reduceEqDiff, reduceCtorEq, Nat.reduceAdd, Nat.reduceSub, Nat.reduceMul, Nat.reduceLeDiff, Int.reduceToNat, Int.reduceLT, Int.reduceLE, Int.reduceNeg, reduceIte, pvC_fgt, pvC_ids, pvC_ren, pvC_len, I, S, tv, nv, tyT, RawV.tv, R1.row, rowsGet, rowsLen, row4, Vk, Vn, Vs, Vl]
      (with_reducible apply v_call); (· simp only [vcA, Nat.reduceLT, Int.reduceEq, Int.reduceAdd, Int.reduceSub, Nat.reduceBEq, Nat.reduceEqDiff, reduceCtorEq, Nat.reduceAdd, Nat.reduceSub, Nat.reduceMul, Nat.reduceLeDiff, Int.reduceToNat, Int.reduceLT, Int.reduceLE, Int.reduceNeg, reduceIte, pvC_fgt, pvC_ids, pvC_ren, pvC_len, I, S, tv, nv, tyT, RawV.tv, R1.row, rowsGet, rowsLen, row4, Vk, Vn, Vs, Vl]; with_reducible rfl); (· exact HN.1); (· first | rfl | (simp only [moOk, nbeq, nble, List.length_nil, beq_self_eq_true, Bool.true_and, Bool.and_true, Bool.and_eq_true, decide_eq_true_eq]; omega)); (· simp only [vcA, Nat.reduceLT, Int.reduceEq, Int.reduceAdd, Int.reduceSub, Nat.reduceBEq, Nat.reduceEqDiff, reduceCtorEq, Nat.reduceAdd, Nat.reduceSub, Nat.reduceMul, Nat.reduceLeDiff, Int.reduceToNat, Int.reduceLT, Int.reduceLE, Int.reduceNeg, reduceIte, pvC_fgt, pvC_ids, pvC_ren, pvC_len, I, S, tv, nv, tyT, RawV.tv, R1.row, rowsGet, rowsLen, row4, Vk, Vn, Vs, Vl]; with_reducible rfl)
      simp only [vcA, Nat.reduceLT, Int.reduceEq, Int.reduceAdd, Int.reduceSub, Nat.reduceBEq, Nat.reduceEqDiff, reduceCtorEq, Nat.reduceAdd, Nat.reduceSub, Nat.reduceMul, Nat.reduceLeDiff, Int.reduceToNat, Int.reduceLT, Int.reduceLE, Int.reduceNeg, reduceIte, pvC_fgt, pvC_ids, pvC_ren, pvC_len, I, S, tv, nv, tyT, RawV.tv, R1.row, rowsGet, rowsLen, row4, Vk, Vn, Vs, Vl, HN.2]
      rfl
  rw [if_neg e2] at h
  by_cases e3 : k = 3 ∨ k = 4
  · rw [if_pos e3] at h
    cases hn : dNum s b (-20) 100000 with
    | error e =>
      rw [hn] at h; cases h
      have HN := number_err a0 a1 m s b _ _ hs hb hn
      refine ⟨⟨b, call_of hmix tf___val_decoder__value rfl rfl rfl ?_⟩, HN.2⟩
      unfold dec at HK HN ⊢
      rcases e3 with rfl | rfl
      · simp only [vcA, Nat.reduceLT, Int.reduceEq, Int.reduceAdd, Int.reduceSub, Nat.reduceBEq, Nat.reduceEqDiff, reduceCtorEq, Nat.reduceAdd, Nat.reduceSub, Nat.reduceMul, Nat.reduceLeDiff, Int.reduceToNat, Int.reduceLT, Int.reduceLE, Int.reduceNeg, reduceIte, pvC_fgt, pvC_ids, pvC_ren, pvC_len, I, S, tv, nv, tyT, RawV.tv, R1.row, rowsGet, rowsLen, row4, Vk, Vn, Vs, Vl]
        (with_reducible apply v_call); (· simp only [vcA, Nat.reduceLT, Int.reduceEq, Int.reduceAdd, Int.reduceSub, Nat.reduceBEq, Nat.reduceEqDiff, reduceCtorEq, Nat.reduceAdd, Nat.reduceSub, Nat.reduceMul, Nat.reduceLeDiff, Int.reduceToNat, Int.reduceLT, Int.reduceLE, Int.reduceNeg, reduceIte, pvC_fgt, pvC_ids, pvC_ren, pvC_len, I, S, tv, nv, tyT, RawV.tv, R1.row, rowsGet, rowsLen, row4, Vk, Vn, Vs, Vl]; with_reducible rfl); (· exact HK); (· first | rfl | (simp only [moOk, nbeq, nble, List.length_nil, beq_self_eq_true, Bool.true_and, Bool.and_true, Bool.and_eq_true, decide_eq_true_eq]; omega)); (· simp only [vcA, Nat.reduceLT, Int.reduceEq, Int.reduceAdd, Int.reduceSub, Nat.reduceBEq, Nat.reduceEqDiff, reduceCtorEq, Nat.reduceAdd, Nat.reduceSub, Nat.reduceMul, Nat.reduceLeDiff, Int.reduceToNat, Int.reduceLT, Int.reduceLE, Int.reduceNeg, reduceIte, pvC_fgt, pvC_ids, pvC_ren, pvC_len, I, S, tv, nv, tyT, RawV.tv, R1.row, rowsGet, rowsLen, row4, Vk, Vn, Vs, Vl]; with_reducible rfl)
        simp only [vcA, Nat.reduceLT, Int.reduceEq, Int.reduceAdd, Int.reduceSub, Nat.reduceBEq, Nat.reduceEqDiff, reduceCtorEq, Nat.reduceAdd, Nat.reduceSub, Nat.reduceMul, Nat.reduceLeDiff, Int.reduceToNat, Int.reduceLT, Int.reduceLE, Int.reduceNeg, reduceIte, pvC_fgt, pvC_ids, pvC_ren, pvC_len, I, S, tv, nv, tyT, RawV.tv, R1.row, rowsGet, rowsLen, row4, Vk, Vn, Vs, Vl]
        (with_reducible apply v_call); (· simp only [vcA, Nat.reduceLT, Int.reduceEq, Int.reduceAdd, Int.reduceSub, Nat.reduceBEq, Nat.reduceEqDiff, reduceCtorEq, Nat.reduceAdd, Nat.reduceSub, Nat.reduceMul, Nat.reduceLeDiff, Int.reduceToNat, Int.reduceLT, Int.reduceLE, Int.reduceNeg, reduceIte, pvC_fgt, pvC_ids, pvC_ren, pvC_len, I, S, tv, nv, tyT, RawV.tv, R1.row, rowsGet, rowsLen, row4, Vk, Vn, Vs, Vl]; with_reducible rfl); (· exact HN.1); (· first | rfl | (simp only [moOk, nbeq, nble, List.length_nil, beq_self_eq_true, Bool.true_and, Bool.and_true, Bool.and_eq_true, decide_eq_true_eq]; omega)); (· simp only [vcA, Nat.reduceLT, Int.reduceEq, Int.reduceAdd, Int.reduceSub, Nat.reduceBEq, Nat.reduceEqDiff, reduceCtorEq, Nat.reduceAdd, Nat.reduceSub, Nat.reduceMul, Nat.reduceLeDiff, Int.reduceToNat, Int.reduceLT, Int.reduceLE, Int.reduceNeg, reduceIte, pvC_fgt, pvC_ids, pvC_ren, pvC_len, I, S, tv, nv, tyT, RawV.tv, R1.row, rowsGet, rowsLen, row4, Vk, Vn, Vs, Vl]; with_reducible rfl)
        simp only [vcA, Nat.reduceLT, Int.reduceEq, Int.reduceAdd, Int.reduceSub, Nat.reduceBEq, Nat.reduceEqDiff, reduceCtorEq, Nat.reduceAdd, Nat.reduceSub, Nat.reduceMul, Nat.reduceLeDiff, Int.reduceToNat, Int.reduceLT, Int.reduceLE, Int.reduceNeg, reduceIte, pvC_fgt, pvC_ids, pvC_ren, pvC_len, I, S, tv, nv, tyT, RawV.tv, R1.row, rowsGet, rowsLen, row4, Vk, Vn, Vs, Vl, HN.2]
        rfl
      · simp only [vcA, Nat.reduceLT, Int.reduceEq, Int.reduceAdd, Int.reduceSub, Nat.reduceBEq, Nat.reduceEqDiff, reduceCtorEq, Nat.reduceAdd, Nat.reduceSub, Nat.reduceMul, Nat.reduceLeDiff, Int.reduceToNat, Int.reduceLT, Int.reduceLE, Int.reduceNeg, reduceIte, pvC_fgt, pvC_ids, pvC_ren, pvC_len, I, S, tv, nv, tyT, RawV.tv, R1.row, rowsGet, rowsLen, row4, Vk, Vn, Vs, Vl]
        (with_reducible apply v_call); (· simp only [vcA, Nat.reduceLT, Int.reduceEq, Int.reduceAdd, Int.reduceSub, Nat.reduceBEq, Nat.reduceEqDiff, reduceCtorEq, Nat.reduceAdd, Nat.reduceSub, Nat.reduceMul, Nat.reduceLeDiff, Int.reduceToNat, Int.reduceLT, Int.reduceLE, Int.reduceNeg, reduceIte, pvC_fgt, pvC_ids, pvC_ren, pvC_len, I, S, tv, nv, tyT, RawV.tv, R1.row, rowsGet, rowsLen, row4, Vk, Vn, Vs, Vl]; with_reducible rfl); (· exact HK); (· first | rfl | (simp only [moOk, nbeq, nble, List.length_nil, beq_self_eq_true, Bool.true_and, Bool.and_true, Bool.and_eq_true, decide_eq_true_eq]; omega)); (· simp only [vcA, Nat.reduceLT, Int.reduceEq, Int.reduceAdd, Int.reduceSub, Nat.reduceBEq, Nat.reduceEqDiff, reduceCtorEq, Nat.reduceAdd, Nat.reduceSub, Nat.reduceMul, Nat.reduceLeDiff, Int.reduceToNat, Int.reduceLT, Int.reduceLE, Int.reduceNeg, reduceIte, pvC_fgt, pvC_ids, pvC_ren, pvC_len, I, S, tv, nv, tyT, RawV.tv, R1.row, rowsGet, rowsLen, row4, Vk, Vn, Vs, Vl]; with_reducible rfl)
        simp only [vcA, Nat.reduceLT, Int.reduceEq, Int.reduceAdd, Int.reduceSub, Nat.reduceBEq, Nat.reduceEqDiff, reduceCtorEq, Nat.reduceAdd, Nat.reduceSub, Nat.reduceMul, Nat.reduceLeDiff, Int.reduceToNat, Int.reduceLT, Int.reduceLE, Int.reduceNeg, reduceIte, pvC_fgt, pvC_ids, pvC_ren, pvC_len, I, S, tv, nv, tyT, RawV.tv, R1.row, rowsGet, rowsLen, row4, Vk, Vn, Vs, Vl]
        (with_reducible apply v_call); (· simp only [vcA, Nat.reduceLT, Int.reduceEq, Int.reduceAdd, Int.reduceSub, Nat.reduceBEq, Nat.reduceEqDiff, reduceCtorEq, Nat.reduceAdd, Nat.reduceSub, Nat.reduceMul, Nat.reduceLeDiff, Int.reduceToNat, Int.reduceLT, Int.reduceLE, Int.reduceNeg, reduceIte, pvC_fgt, pvC_ids, pvC_ren, pvC_len, I, S, tv, nv, tyT, RawV.tv, R1.row, rowsGet, rowsLen, row4, Vk, Vn, Vs, Vl]; with_reducible rfl); (· exact HN.1); (· first | rfl | (simp only [moOk, nbeq, nble, List.length_nil, beq_self_eq_true, Bool.true_and, Bool.and_true, Bool.and_eq_true, decide_eq_true_eq]; omega)); (· simp only [vcA, Nat.reduceLT, Int.reduceEq, Int.reduceAdd, Int.reduceSub, Nat.reduceBEq, Nat.reduceEqDiff, reduceCtorEq, Nat.reduceAdd, Nat.reduceSub, Nat.reduceMul, Nat.reduceLeDiff, Int.reduceToNat, Int.reduceLT, Int.reduceLE, Int.reduceNeg, reduceIte, pvC_fgt, pvC_ids, pvC_ren, pvC_len, I, S, tv, nv, tyT, RawV.tv, R1.row, rowsGet, rowsLen, row4, Vk, Vn, Vs, Vl]; with_reducible rfl)
        simp only [vcA, Nat.reduceLT, Int.reduceEq, Int.reduceAdd, Int.reduceSub, Nat.reduceBEq, Nat.reduceEqDiff, reduceCtorEq, Nat.reduceAdd, Nat.reduceSub, Nat.reduceMul, Nat.reduceLeDiff, Int.reduceToNat, Int.reduceLT, Int.reduceLE, Int.reduceNeg, reduceIte, pvC_fgt, pvC_ids, pvC_ren, pvC_len, I, S, tv, nv, tyT, RawV.tv, R1.row, rowsGet, rowsLen, row4, Vk, Vn, Vs, Vl, HN.2]
        rfl
    | ok q =>
      obtain ⟨n, c'⟩ := q
      rw [hn] at h
      simp only [] at h
      by_cases hz : n = 0
      · rw [if_pos hz] at h; cases h
        have HN := number_ok a0 a1 m s b _ _ hs hb hn
        refine ⟨⟨c', call_of hmix tf___val_decoder__value rfl rfl rfl ?_⟩, by decide⟩
        unfold dec at HK HN ⊢
        rcases e3 with rfl | rfl
        · simp only [vcA, Nat.reduceLT, Int.reduceEq, Int.reduceAdd, Int.reduceSub, Nat.reduceBEq, Nat.reduceEqDiff, reduceCtorEq, Nat.reduceAdd, Nat.reduceSub, Nat.reduceMul, Nat.reduceLeDiff, Int.reduceToNat, Int.reduceLT, Int.reduceLE, Int.reduceNeg, reduceIte, pvC_fgt, pvC_ids, pvC_ren, pvC_len, I, S, tv, nv, tyT, RawV.tv, R1.row, rowsGet, rowsLen, row4, Vk, Vn, Vs, Vl]
          (with_reducible apply v_call); (· simp only [vcA, Nat.reduceLT, Int.reduceEq, Int.reduceAdd, Int.reduceSub, Nat.reduceBEq, Nat.reduceEqDiff, reduceCtorEq, Nat.reduceAdd, Nat.reduceSub, Nat.reduceMul, Nat.reduceLeDiff, Int.reduceToNat, Int.reduceLT, Int.reduceLE, Int.reduceNeg, reduceIte, pvC_fgt, pvC_ids, pvC_ren, pvC_len, I, S, tv, nv, tyT, RawV.tv, R1.row, rowsGet, rowsLen, row4, Vk, Vn, Vs, Vl]; with_reducible rfl); (· exact HK); (· first | rfl | (simp only [moOk, nbeq, nble, List.length_nil, beq_self_eq_true, Bool.true_and, Bool.and_true, Bool.and_eq_true, decide_eq_true_eq]; omega)); (· simp only [vcA, Nat.reduceLT, Int.reduceEq, Int.reduceAdd, Int.reduceSub, Nat.reduceBEq, Nat.reduceEqDiff, reduceCtorEq, Nat.reduceAdd, Nat.reduceSub, Nat.reduceMul, Nat.reduceLeDiff, Int.reduceToNat, Int.reduceLT, Int.reduceLE, Int.reduceNeg, reduceIte, pvC_fgt, pvC_ids, pvC_ren, pvC_len, I, S, tv, nv, tyT, RawV.tv, R1.row, rowsGet, rowsLen, row4, Vk, Vn, Vs, Vl]; with_reducible rfl)
          simp only [vcA, Nat.reduceLT, Int.reduceEq, Int.reduceAdd, Int.reduceSub, Nat.reduceBEq, Nat.reduceEqDiff, reduceCtorEq, Nat.reduceAdd, Nat.reduceSub, Nat.reduceMul, Nat.reduceLeDiff, Int.reduceToNat, Int.reduceLT, Int.reduceLE, Int.reduceNeg, reduceIte, pvC_fgt, pvC_ids, pvC_ren, pvC_len, I, S, tv, nv, tyT, RawV.tv, R1.row, rowsGet, rowsLen, row4, Vk, Vn, Vs, Vl]
          (with_reducible apply v_call); (· simp only [vcA, Nat.reduceLT, Int.reduceEq, Int.reduceAdd, Int.reduceSub, Nat.reduceBEq, Nat.reduceEqDiff, reduceCtorEq, Nat.reduceAdd, Nat.reduceSub, Nat.reduceMul, Nat.reduceLeDiff, Int.reduceToNat, Int.reduceLT, Int.reduceLE, Int.reduceNeg, reduceIte, pvC_fgt, pvC_ids, pvC_ren, pvC_len, I, S, tv, nv, tyT, RawV.tv, R1.row, rowsGet, rowsLen, row4, Vk, Vn, Vs, Vl]; with_reducible rfl); (· exact HN); (· first | rfl | (simp only [moOk, nbeq, nble, List.length_nil, beq_self_eq_true, Bool.true_and, Bool.and_true, Bool.and_eq_true, decide_eq_true_eq]; omega)); (· simp only [vcA, Nat.reduceLT, Int.reduceEq, Int.reduceAdd, Int.reduceSub, Nat.reduceBEq, Nat.reduceEqDiff, reduceCtorEq, Nat.reduceAdd, Nat.reduceSub, Nat.reduceMul, Nat.reduceLeDiff, Int.reduceToNat, Int.reduceLT, Int.reduceLE, Int.reduceNeg, reduceIte, pvC_fgt, pvC_ids, pvC_ren, pvC_len, I, S, tv, nv, tyT, RawV.tv, R1.row, rowsGet, rowsLen, row4, Vk, Vn, Vs, Vl]; with_reducible rfl)
          simp only [vcA, Nat.reduceLT, Int.reduceEq, Int.reduceAdd, Int.reduceSub, Nat.reduceBEq, Nat.reduceEqDiff, reduceCtorEq, Nat.reduceAdd, Nat.reduceSub, Nat.reduceMul, Nat.reduceLeDiff, Int.reduceToNat, Int.reduceLT, Int.reduceLE, Int.reduceNeg, reduceIte, pvC_fgt, pvC_ids, pvC_ren, pvC_len, I, S, tv, nv, tyT, RawV.tv, R1.row, rowsGet, rowsLen, row4, Vk, Vn, Vs, Vl, hz]
          rfl
        · simp only [vcA, Nat.reduceLT, Int.reduceEq, Int.reduceAdd, Int.reduceSub, Nat.reduceBEq, Nat.reduceEqDiff, reduceCtorEq, Nat.reduceAdd, Nat.reduceSub, Nat.reduceMul, Nat.reduceLeDiff, Int.reduceToNat, Int.reduceLT, Int.reduceLE, Int.reduceNeg, reduceIte, pvC_fgt, pvC_ids, pvC_ren, pvC_len, I, S, tv, nv, tyT, RawV.tv, R1.row, rowsGet, rowsLen, row4, Vk, Vn, Vs, Vl]
          (with_reducible apply v_call); (· simp only [vcA, Nat.reduceLT, Int.reduceEq, Int.reduceAdd, Int.reduceSub, Nat.reduceBEq, Nat.reduceEqDiff, reduceCtorEq, Nat.reduceAdd, Nat.reduceSub, Nat.reduceMul, Nat.reduceLeDiff, Int.reduceToNat, Int.reduceLT, Int.reduceLE, Int.reduceNeg, reduceIte, pvC_fgt, pvC_ids, pvC_ren, pvC_len, I, S, tv, nv, tyT, RawV.tv, R1.row, rowsGet, rowsLen, row4, Vk, Vn, Vs, Vl]; with_reducible rfl); (· exact HK); (· first | rfl | (simp only [moOk, nbeq, nble, List.length_nil, beq_self_eq_true, Bool.true_and, Bool.and_true, Bool.and_eq_true, decide_eq_true_eq]; omega)); (· simp only [vcA, Nat.reduceLT, Int.reduceEq, Int.reduceAdd, Int.reduceSub, Nat.reduceBEq, Nat.reduceEqDiff, reduceCtorEq, Nat.reduceAdd, Nat.reduceSub, Nat.reduceMul, Nat.reduceLeDiff, Int.reduceToNat, Int.reduceLT, Int.reduceLE, Int.reduceNeg, reduceIte, pvC_fgt, pvC_ids, pvC_ren, pvC_len, I, S, tv, nv, tyT, RawV.tv, R1.row, rowsGet, rowsLen, row4, Vk, Vn, Vs, Vl]; with_reducible rfl)
          simp only [vcA, Nat.reduceLT, Int.reduceEq, Int.reduceAdd, Int.reduceSub, Nat.reduceBEq, Nat.reduceEqDiff, reduceCtorEq, Nat.reduceAdd, Nat.reduceSub, Nat.reduceMul, Nat.reduceLeDiff, Int.reduceToNat, Int.reduceLT, Int.reduceLE, Int.reduceNeg, reduceIte, pvC_fgt, pvC_ids, pvC_ren, pvC_len, I, S, tv, nv, tyT, RawV.tv, R1.row, rowsGet, rowsLen, row4, Vk, Vn, Vs, Vl]
          (with_reducible apply v_call); (· simp only [vcA, Nat.reduceLT, Int.reduceEq, Int.reduceAdd, Int.reduceSub, Nat.reduceBEq, Nat.reduceEqDiff, reduceCtorEq, Nat.reduceAdd, Nat.reduceSub, Nat.reduceMul, Nat.reduceLeDiff, Int.reduceToNat, Int.reduceLT, Int.reduceLE, Int.reduceNeg, reduceIte, pvC_fgt, pvC_ids, pvC_ren, pvC_len, I, S, tv, nv, tyT, RawV.tv, R1.row, rowsGet, rowsLen, row4, Vk, Vn, Vs, Vl]; with_reducible rfl); (· exact HN); (· first | rfl | (simp only [moOk, nbeq, nble, List.length_nil, beq_self_eq_true, Bool.true_and, Bool.and_true, Bool.and_eq_true, decide_eq_true_eq]; omega)); (· simp only [vcA, Nat.reduceLT, Int.reduceEq, Int.reduceAdd, Int.reduceSub, Nat.reduceBEq, Nat.reduceEqDiff, reduceCtorEq, Nat.reduceAdd, Nat.reduceSub, Nat.reduceMul, Nat.reduceLeDiff, Int.reduceToNat, Int.reduceLT, Int.reduceLE, Int.reduceNeg, reduceIte, pvC_fgt, pvC_ids, pvC_ren, pvC_len, I, S, tv, nv, tyT, RawV.tv, R1.row, rowsGet, rowsLen, row4, Vk, Vn, Vs, Vl]; with_reducible rfl)
          simp only [vcA, Nat.reduceLT, Int.reduceEq, Int.reduceAdd, Int.reduceSub, Nat.reduceBEq, Nat.reduceEqDiff, reduceCtorEq, Nat.reduceAdd, Nat.reduceSub, Nat.reduceMul, Nat.reduceLeDiff, Int.reduceToNat, Int.reduceLT, Int.reduceLE, Int.reduceNeg, reduceIte, pvC_fgt, pvC_ids, pvC_ren, pvC_len, I, S, tv, nv, tyT, RawV.tv, R1.row, rowsGet, rowsLen, row4, Vk, Vn, Vs, Vl, hz]
          rfl
      · rw [if_neg hz] at h; cases h
  rw [if_neg e3] at h; cases h
end Go.Proofs.YthjphllpkcnehaaGreatDoor
end

section
/- Reading texts in quotes: the program's way. No statement of the program is proved here. -/
namespace Go.Proofs.YthjphllpkcnehaaGreatDoor
open Go Go.RowKit Go.Mor Go.Sh Go.Sh.Cd1
set_option maxRecDepth 100000
set_option maxHeartbeats 4000000
theorem decodeGo_L {l : List UInt8} (h : l ≠ []) : Lib.decodeGo (str l) = Lib.decodeL l := by
  unfold Lib.decodeGo Lib.decodeL
  rw [if_neg (by rw [str_size']; exact fun h0 => h (List.eq_nil_of_length_eq_zero h0))]
  rfl
theorem decode_low {b : UInt8} {t : List UInt8} (h : (Lib.decodeL (b :: t)).1 < 128) : (Lib.decodeL (b :: t)).1 = b.toNat ∧ (Lib.decodeL (b :: t)).2 = 1 := by
  by_cases hb : b.toNat < 128
  · rw [Lib.decodeL_ascii b t hb]; exact ⟨rfl, rfl⟩
  · rw [Lib.decodeL_N] at h
    have := (rune_lo (b :: t).length ((b :: t).getD 0 0).toNat ((b :: t).getD 1 0).toNat ((b :: t).getD 2 0).toNat ((b :: t).getD 3 0).toNat).2 (by simp; omega)
    omega
theorem decodeL_le4 (l : List UInt8) : (Lib.decodeL l).2 ≤ 4 := by
  rw [Lib.decodeL_N]; unfold Lib.decodeN
  (repeat' split) <;> simp
def quoGo : Nat → List UInt8 → List UInt8 → Nat → List UInt8 × Nat
  | 0, _, _, _ => ([], 0)
  | f + 1, r, t, k =>
    if r = [] ∨ 60 < t.length then ([], 0)
    else if (Lib.decodeL r).1 = 34 then (if rightText t then (t, k + 1) else ([], 0))
    else if (Lib.decodeL r).1 = 92 then (match r.drop 1 with
      | [] => ([], 0)
      | c :: r' => if c.toNat = 34 ∨ c.toNat = 92 then quoGo f r' (t ++ [c]) (k + 2) else ([], 0))
    else quoGo f (r.drop (Lib.decodeL r).2) (t ++ r.take (Lib.decodeL r).2) (k + (Lib.decodeL r).2)
def quoV (l : List UInt8) : List UInt8 × Nat := quoGo l.length (l.drop 1) [] 1
theorem quoGo_nil (f : Nat) (t : List UInt8) (k : Nat) : quoGo f [] t k = ([], 0) := by cases f <;> simp [quoGo]
theorem quoted_ok (a0 a1 : Addr) (m : Nat) (l : List UInt8) (hl : l.length < 1125899906842624) (h1 : 1 ≤ l.length) : SCalls Tryz.prog (gl a0 a1 m) 106 [S (str l)] [] (.tuple [S (str (quoV l).1), I ((quoV l).2 : Int)]) [] := by
  refine call_of0 hmix tf_val_quoted rfl ?_
  have hm : maxLen = 9223372036854775807 := rfl
  simp only [vcA, Nat.reduceLT, Int.reduceEq, Int.reduceAdd, Int.reduceSub, Nat.reduceBEq, Nat.reduceEqDiff, reduceCtorEq, Nat.reduceAdd, Nat.reduceSub, Nat.reduceMul, Nat.reduceLeDiff, Int.reduceToNat, Int.reduceLT, Int.reduceLE, Int.reduceNeg, reduceIte, pvC_fgt, pvC_ids, pvC_ren, pvC_len, I, S, tv, nv, tyT, RawV.tv, R1.row, rowsGet, rowsLen, row4, Vk, Vn, Vs, Vl]
  refine v_loop (σ := { q : Nat × List UInt8 × Nat // q.1 ≤ l.length ∧ 1 ≤ q.1 ∧ q.2.1.length ≤ 70 ∧ l.length ≤ q.2.2 + q.1 ∧ quoV l = quoGo q.2.2 (l.drop q.1) q.2.1 q.1 })
    (fun q => ⟨[(0, S (str l)), (4, .own 3000 1 (byR q.1.2.1)), (5, I (q.1.1 : Int))], [], [(3000, (5, 1, q.1.2.1.length))], []⟩)
    (fun q => l.length - q.1.1) ⟨(1, [], l.length), h1, Nat.le_refl _, by simp, by simp, rfl⟩ ?_ ?_
  · refine ES.Lw.trans ?_ (adT_lw (k := 4) (d := 3000) (e := 5) (W := 1) (.inr (by decide)) rfl)
    exact lw_eq rfl
  rintro ⟨⟨k, t, f⟩, hk, hk1, ht, hf, hd⟩
  simp only at hk hk1 ht hf hd
  by_cases hlt : k < l.length
  · have d1 : (k : Int) < (l.length : Int) := by omega
    obtain ⟨f', rfl⟩ : ∃ f', f = f' + 1 := ⟨f - 1, by omega⟩
    have hne : l.drop k ≠ [] := by rw [Ne, List.drop_eq_nil_iff]; omega
    have hle := Lib.decodeL_le (l.drop k) hne
    have hw := Lib.decodeL_width (l.drop k)
    rw [quoGo] at hd
    have tk : List.take (l.length - k) (l.drop k) = l.drop k := List.take_of_length_le (by simp)
    have HD := decodeRune_ok a0 a1 m (str (l.drop k))
    rw [decodeGo_L hne] at HD
    have h4 := decodeL_le4 (l.drop k)
    have hlow : (Lib.decodeL (l.drop k)).1 < 128 → (Lib.decodeL (l.drop k)).2 = 1 := by
      obtain ⟨b, r, hbr⟩ : ∃ b r, l.drop k = b :: r := List.exists_cons_of_ne_nil hne
      rw [hbr]; exact fun h => (decode_low h).2
    rw [List.length_drop] at hle
    by_cases h60 : 60 < t.length
    · rw [if_pos (.inr h60)] at hd
      have d2 : ¬ (t.length : Int) ≤ 60 := by omega
      simp only [vcA, Nat.reduceLT, Int.reduceEq, Int.reduceAdd, Int.reduceSub, Nat.reduceBEq, Nat.reduceEqDiff, reduceCtorEq, Nat.reduceAdd, Nat.reduceSub, Nat.reduceMul, Nat.reduceLeDiff, Int.reduceToNat, Int.reduceLT, Int.reduceLE, Int.reduceNeg, reduceIte, pvC_fgt, pvC_ids, pvC_ren, pvC_len, I, S, tv, nv, tyT, RawV.tv, R1.row, rowsGet, rowsLen, row4, Vk, Vn, Vs, Vl, byP, byApp, byLen, bySeq, strMk, d1, d2]
      rw [hd]; rfl
    have d2 : (t.length : Int) ≤ 60 := by omega
    rw [if_neg (by simp only [hne, h60, or_self, not_false_eq_true])] at hd
    have HT := rightText_ok a0 a1 m t (by omega)
    have n0 : (0 : Int) ≤ (k : Int) := by omega
    simp only [vcA, Nat.reduceLT, Int.reduceEq, Int.reduceAdd, Int.reduceSub, Nat.reduceBEq, Nat.reduceEqDiff, reduceCtorEq, Nat.reduceAdd, Nat.reduceSub, Nat.reduceMul, Nat.reduceLeDiff, Int.reduceToNat, Int.reduceLT, Int.reduceLE, Int.reduceNeg, reduceIte, pvC_fgt, pvC_ids, pvC_ren, pvC_len, I, S, tv, nv, tyT, RawV.tv, R1.row, rowsGet, rowsLen, row4, Vk, Vn, Vs, Vl, byP, byApp, byLen, bySeq, strMk, d1, d2, hk, tk]
    (with_reducible apply v_call); (· simp only [vcA, Nat.reduceLT, Int.reduceEq, Int.reduceAdd, Int.reduceSub, Nat.reduceBEq, Nat.reduceEqDiff, reduceCtorEq, Nat.reduceAdd, Nat.reduceSub, Nat.reduceMul, Nat.reduceLeDiff, Int.reduceToNat, Int.reduceLT, Int.reduceLE, Int.reduceNeg, reduceIte, pvC_fgt, pvC_ids, pvC_ren, pvC_len, I, S, tv, nv, tyT, RawV.tv, R1.row, rowsGet, rowsLen, row4, Vk, Vn, Vs, Vl, byP, byApp, byLen, bySeq, strMk]; with_reducible rfl); (· exact HD); (· first | rfl | (simp only [moOk, nbeq, nble, List.length_nil, beq_self_eq_true, Bool.true_and, Bool.and_true, Bool.and_eq_true, decide_eq_true_eq]; omega)); (· simp only [vcA, Nat.reduceLT, Int.reduceEq, Int.reduceAdd, Int.reduceSub, Nat.reduceBEq, Nat.reduceEqDiff, reduceCtorEq, Nat.reduceAdd, Nat.reduceSub, Nat.reduceMul, Nat.reduceLeDiff, Int.reduceToNat, Int.reduceLT, Int.reduceLE, Int.reduceNeg, reduceIte, pvC_fgt, pvC_ids, pvC_ren, pvC_len, I, S, tv, nv, tyT, RawV.tv, R1.row, rowsGet, rowsLen, row4, Vk, Vn, Vs, Vl, byP, byApp, byLen, bySeq, strMk]; with_reducible rfl)
    generalize (Lib.decodeL (l.drop k)).1 = R at hd hlow
    generalize (Lib.decodeL (l.drop k)).2 = Z at hd hlow hle hw h4
    have w1 : IntKind.i64.wrap ((k : Int) + 1) = ((k + 1 : Nat) : Int) := by rw [wrap64 (by omega) (by omega)]; omega
    by_cases r34 : R = 34
    · rw [if_pos r34] at hd
      have d3 : (R : Int) = 34 := by omega
      simp only [vcA, Nat.reduceLT, Int.reduceEq, Int.reduceAdd, Int.reduceSub, Nat.reduceBEq, Nat.reduceEqDiff, reduceCtorEq, Nat.reduceAdd, Nat.reduceSub, Nat.reduceMul, Nat.reduceLeDiff, Int.reduceToNat, Int.reduceLT, Int.reduceLE, Int.reduceNeg, reduceIte, pvC_fgt, pvC_ids, pvC_ren, pvC_len, I, S, tv, nv, tyT, RawV.tv, R1.row, rowsGet, rowsLen, row4, Vk, Vn, Vs, Vl, byP, byApp, byLen, bySeq, strMk, d3]
      (with_reducible apply v_call); (· simp only [vcA, Nat.reduceLT, Int.reduceEq, Int.reduceAdd, Int.reduceSub, Nat.reduceBEq, Nat.reduceEqDiff, reduceCtorEq, Nat.reduceAdd, Nat.reduceSub, Nat.reduceMul, Nat.reduceLeDiff, Int.reduceToNat, Int.reduceLT, Int.reduceLE, Int.reduceNeg, reduceIte, pvC_fgt, pvC_ids, pvC_ren, pvC_len, I, S, tv, nv, tyT, RawV.tv, R1.row, rowsGet, rowsLen, row4, Vk, Vn, Vs, Vl, byP, byApp, byLen, bySeq, strMk]; with_reducible rfl); (· exact HT); (· first | rfl | (simp only [moOk, nbeq, nble, List.length_nil, beq_self_eq_true, Bool.true_and, Bool.and_true, Bool.and_eq_true, decide_eq_true_eq]; omega)); (· simp only [vcA, Nat.reduceLT, Int.reduceEq, Int.reduceAdd, Int.reduceSub, Nat.reduceBEq, Nat.reduceEqDiff, reduceCtorEq, Nat.reduceAdd, Nat.reduceSub, Nat.reduceMul, Nat.reduceLeDiff, Int.reduceToNat, Int.reduceLT, Int.reduceLE, Int.reduceNeg, reduceIte, pvC_fgt, pvC_ids, pvC_ren, pvC_len, I, S, tv, nv, tyT, RawV.tv, R1.row, rowsGet, rowsLen, row4, Vk, Vn, Vs, Vl, byP, byApp, byLen, bySeq, strMk]; with_reducible rfl)
      cases hr : rightText t
      · rw [hr] at hd
        simp only [vcA, Nat.reduceLT, Int.reduceEq, Int.reduceAdd, Int.reduceSub, Nat.reduceBEq, Nat.reduceEqDiff, reduceCtorEq, Nat.reduceAdd, Nat.reduceSub, Nat.reduceMul, Nat.reduceLeDiff, Int.reduceToNat, Int.reduceLT, Int.reduceLE, Int.reduceNeg, reduceIte, pvC_fgt, pvC_ids, pvC_ren, pvC_len, I, S, tv, nv, tyT, RawV.tv, R1.row, rowsGet, rowsLen, row4, Vk, Vn, Vs, Vl, byP, byApp, byLen, bySeq, strMk]
        rw [hd]; rfl
      · rw [hr] at hd
        simp only [vcA, Nat.reduceLT, Int.reduceEq, Int.reduceAdd, Int.reduceSub, Nat.reduceBEq, Nat.reduceEqDiff, reduceCtorEq, Nat.reduceAdd, Nat.reduceSub, Nat.reduceMul, Nat.reduceLeDiff, Int.reduceToNat, Int.reduceLT, Int.reduceLE, Int.reduceNeg, reduceIte, pvC_fgt, pvC_ids, pvC_ren, pvC_len, I, S, tv, nv, tyT, RawV.tv, R1.row, rowsGet, rowsLen, row4, Vk, Vn, Vs, Vl, byP, byApp, byLen, bySeq, strMk, w1]
        rw [hd]; rfl
    have d3 : ¬ (R : Int) = 34 := by omega
    rw [if_neg r34] at hd
    by_cases r92 : R = 92
    · rw [if_pos r92] at hd
      have d4 : (R : Int) = 92 := by omega
      obtain rfl : Z = 1 := hlow (by omega)
      rw [List.drop_drop] at hd
      by_cases hend : k + 1 = l.length
      · rw [List.drop_eq_nil_of_le (by omega)] at hd
        have d5 : ((k + 1 : Nat) : Int) = (l.length : Int) := by omega
        simp only [vcA, Nat.reduceLT, Int.reduceEq, Int.reduceAdd, Int.reduceSub, Nat.reduceBEq, Nat.reduceEqDiff, reduceCtorEq, Nat.reduceAdd, Nat.reduceSub, Nat.reduceMul, Nat.reduceLeDiff, Int.reduceToNat, Int.reduceLT, Int.reduceLE, Int.reduceNeg, reduceIte, pvC_fgt, pvC_ids, pvC_ren, pvC_len, I, S, tv, nv, tyT, RawV.tv, R1.row, rowsGet, rowsLen, row4, Vk, Vn, Vs, Vl, byP, byApp, byLen, bySeq, strMk, d4, w1, d5]
        rw [hd]; rfl
      have d5 : ¬ ((k + 1 : Nat) : Int) = (l.length : Int) := by omega
      obtain ⟨c, ec⟩ : ∃ c, l[k + 1]? = some c := ⟨_, List.getElem?_eq_getElem (by omega)⟩
      have hcons : l.drop (k + 1) = c :: l.drop (k + 2) := by
        rw [List.drop_eq_getElem_cons (by omega)]; congr 1
        rw [List.getElem?_eq_getElem (by omega)] at ec; exact Option.some.inj ec
      rw [hcons] at hd
      simp only [] at hd
      have w2 : IntKind.i64.wrap (((k + 1 : Nat) : Int) + ((1 : Nat) : Int)) = ((k + 2 : Nat) : Int) := by rw [wrap64 (by omega) (by omega)]; omega
      have tk2 : List.take (k + 2 - (k + 1)) (c :: l.drop (k + 2)) = [c] := by rw [show k + 2 - (k + 1) = 1 by omega]; rfl
      have g1 : k + 1 ≤ k + 2 := by omega
      have g2 : k + 2 ≤ l.length := by omega
      by_cases hc : c.toNat = 34 ∨ c.toNat = 92
      · rw [if_pos hc] at hd
        by_cases c34 : c.toNat = 34
        · have d6 : (c.toNat : Int) = 34 := by omega
          simp only [vcA, Nat.reduceLT, Int.reduceEq, Int.reduceAdd, Int.reduceSub, Nat.reduceBEq, Nat.reduceEqDiff, reduceCtorEq, Nat.reduceAdd, Nat.reduceSub, Nat.reduceMul, Nat.reduceLeDiff, Int.reduceToNat, Int.reduceLT, Int.reduceLE, Int.reduceNeg, reduceIte, pvC_fgt, pvC_ids, pvC_ren, pvC_len, I, S, tv, nv, tyT, RawV.tv, R1.row, rowsGet, rowsLen, row4, Vk, Vn, Vs, Vl, byP, byApp, byLen, bySeq, strMk, d4, w1, d5, ec, d6, w2, hcons, tk2, g1, g2]
          refine ⟨⟨by omega, by omega⟩, loopK_of ⟨(k + 2, t ++ [c], f'), g2, by show 1 ≤ k + 2; omega, by show (t ++ [c]).length ≤ 70; simp; omega, by show l.length ≤ f' + (k + 2); omega, hd⟩ (by show l.length - (k + 2) < l.length - k; omega) ?_⟩
          apply lw_of <;> simp [leL, lk, sv, Nat.beq, I, S, ES.kill, has, drp, nilT]
        · have d6 : ¬ (c.toNat : Int) = 34 := by omega
          have d7 : (c.toNat : Int) = 92 := by omega
          simp only [vcA, Nat.reduceLT, Int.reduceEq, Int.reduceAdd, Int.reduceSub, Nat.reduceBEq, Nat.reduceEqDiff, reduceCtorEq, Nat.reduceAdd, Nat.reduceSub, Nat.reduceMul, Nat.reduceLeDiff, Int.reduceToNat, Int.reduceLT, Int.reduceLE, Int.reduceNeg, reduceIte, pvC_fgt, pvC_ids, pvC_ren, pvC_len, I, S, tv, nv, tyT, RawV.tv, R1.row, rowsGet, rowsLen, row4, Vk, Vn, Vs, Vl, byP, byApp, byLen, bySeq, strMk, d4, w1, d5, ec, d6, d7, w2, hcons, tk2, g1, g2]
          refine ⟨⟨by omega, by omega⟩, loopK_of ⟨(k + 2, t ++ [c], f'), g2, by show 1 ≤ k + 2; omega, by show (t ++ [c]).length ≤ 70; simp; omega, by show l.length ≤ f' + (k + 2); omega, hd⟩ (by show l.length - (k + 2) < l.length - k; omega) ?_⟩
          apply lw_of <;> simp [leL, lk, sv, Nat.beq, I, S, ES.kill, has, drp, nilT]
      · rw [if_neg hc] at hd
        have d6 : ¬ (c.toNat : Int) = 34 := by omega
        have d7 : ¬ (c.toNat : Int) = 92 := by omega
        simp only [vcA, Nat.reduceLT, Int.reduceEq, Int.reduceAdd, Int.reduceSub, Nat.reduceBEq, Nat.reduceEqDiff, reduceCtorEq, Nat.reduceAdd, Nat.reduceSub, Nat.reduceMul, Nat.reduceLeDiff, Int.reduceToNat, Int.reduceLT, Int.reduceLE, Int.reduceNeg, reduceIte, pvC_fgt, pvC_ids, pvC_ren, pvC_len, I, S, tv, nv, tyT, RawV.tv, R1.row, rowsGet, rowsLen, row4, Vk, Vn, Vs, Vl, byP, byApp, byLen, bySeq, strMk, d4, w1, d5, ec, d6, d7]
        rw [hd]; rfl
    · rw [if_neg r92, List.drop_drop] at hd
      have d4 : ¬ (R : Int) = 92 := by omega
      have w2 : IntKind.i64.wrap ((k : Int) + (Z : Int)) = ((k + Z : Nat) : Int) := by rw [wrap64 (by omega) (by omega)]; omega
      have tk2 : List.take (k + Z - k) (l.drop k) = (l.drop k).take Z := by rw [show k + Z - k = Z by omega]
      have g1 : k ≤ k + Z := by omega
      have g2 : k + Z ≤ l.length := by omega
      have hlen : ((l.drop k).take Z).length = Z := by rw [List.length_take, List.length_drop]; omega
      generalize (l.drop k).take Z = u at *
      simp only [vcA, Nat.reduceLT, Int.reduceEq, Int.reduceAdd, Int.reduceSub, Nat.reduceBEq, Nat.reduceEqDiff, reduceCtorEq, Nat.reduceAdd, Nat.reduceSub, Nat.reduceMul, Nat.reduceLeDiff, Int.reduceToNat, Int.reduceLT, Int.reduceLE, Int.reduceNeg, reduceIte, pvC_fgt, pvC_ids, pvC_ren, pvC_len, I, S, tv, nv, tyT, RawV.tv, R1.row, rowsGet, rowsLen, row4, Vk, Vn, Vs, Vl, byP, byApp, byLen, bySeq, strMk, d3, d4, w2, tk2, g1, g2, hlen]
      refine ⟨⟨by omega, by omega⟩, loopK_of ⟨(k + Z, t ++ u, f'), g2, by show 1 ≤ k + Z; omega, by show (t ++ u).length ≤ 70; rw [List.length_append, hlen]; omega, by show l.length ≤ f' + (k + Z); omega, hd⟩ (by show l.length - (k + Z) < l.length - k; omega) ?_⟩
      apply lw_of <;> simp [leL, lk, sv, Nat.beq, I, S, ES.kill, has, drp, nilT, hlen]
  · have d1 : ¬ (k : Int) < (l.length : Int) := by omega
    rw [List.drop_eq_nil_of_le (by omega), quoGo_nil] at hd
    simp only [vcA, Nat.reduceLT, Int.reduceEq, Int.reduceAdd, Int.reduceSub, Nat.reduceBEq, Nat.reduceEqDiff, reduceCtorEq, Nat.reduceAdd, Nat.reduceSub, Nat.reduceMul, Nat.reduceLeDiff, Int.reduceToNat, Int.reduceLT, Int.reduceLE, Int.reduceNeg, reduceIte, pvC_fgt, pvC_ids, pvC_ren, pvC_len, I, S, tv, nv, tyT, RawV.tv, R1.row, rowsGet, rowsLen, row4, Vk, Vn, Vs, Vl, byP, byApp, byLen, bySeq, strMk, d1]
    rw [hd]; rfl
end Go.Proofs.YthjphllpkcnehaaGreatDoor
end

section
/- Reading values: parts. No statement of the program is proved here. -/
namespace Go.Proofs.YthjphllpkcnehaaGreatDoor
open Go Go.RowKit Go.Mor Go.Sh Go.Sh.Cd1
set_option maxRecDepth 100000
set_option maxHeartbeats 4000000
theorem numGo_le (neg : Bool) (lo hi : Int) : ∀ (l : List UInt8) (n best : Int) (size k : Nat), (numGo neg lo hi l n best size k).2 ≤ max size (k + l.length)
  | [], n, best, size, k => by simp [numGo]; omega
  | c :: r, n, best, size, k => by
    have h1 := numGo_le neg lo hi r (10 * n + (c.toNat - 48 : Int)) (if neg then -(10 * n + (c.toNat - 48 : Int)) else 10 * n + (c.toNat - 48 : Int)) (k + 1) (k + 1)
    have h2 := numGo_le neg lo hi r (10 * n + (c.toNat - 48 : Int)) best size (k + 1)
    rw [numGo]
    simp only [List.length_cons]
    by_cases q1 : c.toNat < 48 ∨ 57 < c.toNat
    · rw [if_pos q1]; show size ≤ _; omega
    rw [if_neg q1]
    by_cases q2 : 1000000000000000 < 10 * n + (c.toNat - 48 : Int) ∨ (neg = true ∧ 10 * n + (c.toNat - 48 : Int) = 0)
    · rw [if_pos q2]; show size ≤ _; omega
    rw [if_neg q2]
    generalize (if neg then -(10 * n + (c.toNat - 48 : Int)) else 10 * n + (c.toNat - 48 : Int)) = v at *
    by_cases q3 : lo ≤ v ∧ v ≤ hi
    · rw [if_pos q3]
      by_cases q4 : 10 * n + (c.toNat - 48 : Int) = 0
      · rw [if_pos q4]; show k + 1 ≤ _; omega
      · rw [if_neg q4]; omega
    · rw [if_neg q3]
      by_cases q4 : 10 * n + (c.toNat - 48 : Int) = 0
      · rw [if_pos q4]; show size ≤ _; omega
      · rw [if_neg q4]; omega
theorem first_pos {l : List UInt8} (h : firstR l ≠ 0) : 1 ≤ l.length := by
  cases l with
  | nil => exact absurd rfl h
  | cons b t => simp
theorem numV_le (lo hi : Int) (l : List UInt8) : (numV lo hi l).2 ≤ l.length := by
  unfold numV
  by_cases h : firstR l = 45
  · rw [if_pos h]
    have := numGo_le true lo hi (l.drop 1) 0 0 0 1
    have := first_pos (l := l) (by omega)
    rw [List.length_drop] at *; omega
  · rw [if_neg h]
    have := numGo_le false lo hi l 0 0 0 0
    omega
theorem quoGo_le : ∀ (f : Nat) (r t : List UInt8) (k : Nat), (quoGo f r t k).2 ≤ k + r.length
  | 0, r, t, k => by simp [quoGo]
  | f + 1, r, t, k => by
    rw [quoGo]
    by_cases q1 : r = [] ∨ 60 < t.length
    · rw [if_pos q1]; simp
    rw [if_neg q1]
    have hne : r ≠ [] := fun h => q1 (.inl h)
    have hle := Lib.decodeL_le r hne
    have hpos : 0 < r.length := List.length_pos_iff.2 hne
    by_cases q2 : (Lib.decodeL r).1 = 34
    · rw [if_pos q2]
      by_cases q3 : rightText t = true
      · rw [if_pos q3]; show k + 1 ≤ _; omega
      · rw [if_neg q3]; simp
    rw [if_neg q2]
    by_cases q3 : (Lib.decodeL r).1 = 92
    · rw [if_pos q3]
      cases hr : r.drop 1 with
      | nil => simp
      | cons c r' =>
        have hl : r.length = r'.length + 2 := by
          have := congrArg List.length hr
          rw [List.length_drop, List.length_cons] at this; omega
        simp only []
        by_cases q4 : c.toNat = 34 ∨ c.toNat = 92
        · rw [if_pos q4]
          have := quoGo_le f r' (t ++ [c]) (k + 2)
          omega
        · rw [if_neg q4]; simp
    rw [if_neg q3]
    have := quoGo_le f (r.drop (Lib.decodeL r).2) (t ++ r.take (Lib.decodeL r).2) (k + (Lib.decodeL r).2)
    rw [List.length_drop] at this
    omega
def refV (l : List UInt8) : Int × Nat := if (numV (-20) 100000 (l.drop 1)).1 = 0 then (0, 0) else ((numV (-20) 100000 (l.drop 1)).1, (numV (-20) 100000 (l.drop 1)).2 + 1)
theorem reference_ok (a0 a1 : Addr) (m : Nat) (l : List UInt8) (hl : l.length < 1125899906842624) (h1 : 1 ≤ l.length) : SCalls Tryz.prog (gl a0 a1 m) 107 [S (str l)] [] (.tuple [I (refV l).1, I ((refV l).2 : Int)]) [] := by
  refine call_of0 hmix tf_val_reference rfl ?_
  have HN := vnumber_ok a0 a1 m (l.drop 1) (-20) 100000 (by simp; omega)
  have hz := numV_le (-20) 100000 (l.drop 1)
  unfold refV
  rw [List.length_drop] at hz
  have tk : List.take (l.length - 1) (l.drop 1) = l.drop 1 := List.take_of_length_le (by simp)
  simp only [vcA, Nat.reduceLT, Int.reduceEq, Int.reduceAdd, Int.reduceSub, Nat.reduceBEq, Nat.reduceEqDiff, reduceCtorEq, Nat.reduceAdd, Nat.reduceSub, Nat.reduceMul, Nat.reduceLeDiff, Int.reduceToNat, Int.reduceLT, Int.reduceLE, Int.reduceNeg, reduceIte, pvC_fgt, pvC_ids, pvC_ren, pvC_len, I, S, tv, nv, tyT, RawV.tv, R1.row, rowsGet, rowsLen, row4, Vk, Vn, Vs, Vl, h1, tk]
  (with_reducible apply v_call); (· simp only [vcA, Nat.reduceLT, Int.reduceEq, Int.reduceAdd, Int.reduceSub, Nat.reduceBEq, Nat.reduceEqDiff, reduceCtorEq, Nat.reduceAdd, Nat.reduceSub, Nat.reduceMul, Nat.reduceLeDiff, Int.reduceToNat, Int.reduceLT, Int.reduceLE, Int.reduceNeg, reduceIte, pvC_fgt, pvC_ids, pvC_ren, pvC_len, I, S, tv, nv, tyT, RawV.tv, R1.row, rowsGet, rowsLen, row4, Vk, Vn, Vs, Vl]; with_reducible rfl); (· exact HN); (· first | rfl | (simp only [moOk, nbeq, nble, List.length_nil, beq_self_eq_true, Bool.true_and, Bool.and_true, Bool.and_eq_true, decide_eq_true_eq]; omega)); (· simp only [vcA, Nat.reduceLT, Int.reduceEq, Int.reduceAdd, Int.reduceSub, Nat.reduceBEq, Nat.reduceEqDiff, reduceCtorEq, Nat.reduceAdd, Nat.reduceSub, Nat.reduceMul, Nat.reduceLeDiff, Int.reduceToNat, Int.reduceLT, Int.reduceLE, Int.reduceNeg, reduceIte, pvC_fgt, pvC_ids, pvC_ren, pvC_len, I, S, tv, nv, tyT, RawV.tv, R1.row, rowsGet, rowsLen, row4, Vk, Vn, Vs, Vl]; with_reducible rfl)
  generalize numV (-20) 100000 (l.drop 1) = q at *
  have w1 : IntKind.i64.wrap ((q.2 : Int) + 1) = ((q.2 + 1 : Nat) : Int) := by rw [wrap64 (by omega) (by omega)]; omega
  by_cases h0 : q.1 = 0
  · rw [if_pos h0]
    simp only [vcA, Nat.reduceLT, Int.reduceEq, Int.reduceAdd, Int.reduceSub, Nat.reduceBEq, Nat.reduceEqDiff, reduceCtorEq, Nat.reduceAdd, Nat.reduceSub, Nat.reduceMul, Nat.reduceLeDiff, Int.reduceToNat, Int.reduceLT, Int.reduceLE, Int.reduceNeg, reduceIte, pvC_fgt, pvC_ids, pvC_ren, pvC_len, I, S, tv, nv, tyT, RawV.tv, R1.row, rowsGet, rowsLen, row4, Vk, Vn, Vs, Vl, h0]
    rfl
  · rw [if_neg h0]
    simp only [vcA, Nat.reduceLT, Int.reduceEq, Int.reduceAdd, Int.reduceSub, Nat.reduceBEq, Nat.reduceEqDiff, reduceCtorEq, Nat.reduceAdd, Nat.reduceSub, Nat.reduceMul, Nat.reduceLeDiff, Int.reduceToNat, Int.reduceLT, Int.reduceLE, Int.reduceNeg, reduceIte, pvC_fgt, pvC_ids, pvC_ren, pvC_len, I, S, tv, nv, tyT, RawV.tv, R1.row, rowsGet, rowsLen, row4, Vk, Vn, Vs, Vl, h0, w1]
def i32 (r : Int) : TV := .pv (.v (.int .i32 r))
def sgnS (r : Int) (l : List UInt8) : Int := if l ≠ [] ∧ firstR l = r then 1 else 0
theorem mkSign_ok (g : Sh.Glob) (r : Int) : SCalls Tryz.prog g 109 [i32 r] [] (.fn (.func 150) [] [.ptr 1000 0]) [.box [i32 r]] := by
  refine call_of hmix tf_val_sign rfl rfl rfl ?_
  simp only [vcA, Nat.reduceLT, Int.reduceEq, Int.reduceAdd, Int.reduceSub, Nat.reduceBEq, Nat.reduceEqDiff, reduceCtorEq, Nat.reduceAdd, Nat.reduceSub, Nat.reduceMul, Nat.reduceLeDiff, Int.reduceToNat, Int.reduceLT, Int.reduceLE, Int.reduceNeg, reduceIte, pvC_fgt, pvC_ids, pvC_ren, pvC_len, I, S, tv, nv, tyT, RawV.tv, R1.row, rowsGet, rowsLen, row4, Vk, Vn, Vs, Vl, i32]
theorem sign1_ok (a0 a1 : Addr) (m : Nat) (l : List UInt8) (r : Int) : SCalls Tryz.prog (gl a0 a1 m) 150 [S (str l), .ptr 1000 0] [.box [i32 r]] (.tuple [nv V.nil, I (sgnS r l)]) [.box [i32 r]] := by
  refine call_of hmix tf_val_sign_1 rfl rfl rfl ?_
  have HF := first_ok a0 a1 m l
  have e0 : (⟨#[]⟩ : ByteArray) = str [] := rfl
  unfold sgnS
  cases l with
  | nil =>
    simp only [vcA, Nat.reduceLT, Int.reduceEq, Int.reduceAdd, Int.reduceSub, Nat.reduceBEq, Nat.reduceEqDiff, reduceCtorEq, Nat.reduceAdd, Nat.reduceSub, Nat.reduceMul, Nat.reduceLeDiff, Int.reduceToNat, Int.reduceLT, Int.reduceLE, Int.reduceNeg, reduceIte, pvC_fgt, pvC_ids, pvC_ren, pvC_len, I, S, tv, nv, tyT, RawV.tv, R1.row, rowsGet, rowsLen, row4, Vk, Vn, Vs, Vl, e0, i32, V.nil]
  | cons b t =>
    have hn : ((b :: t) == ([] : List UInt8)) = false := rfl
    simp only [vcA, Nat.reduceLT, Int.reduceEq, Int.reduceAdd, Int.reduceSub, Nat.reduceBEq, Nat.reduceEqDiff, reduceCtorEq, Nat.reduceAdd, Nat.reduceSub, Nat.reduceMul, Nat.reduceLeDiff, Int.reduceToNat, Int.reduceLT, Int.reduceLE, Int.reduceNeg, reduceIte, pvC_fgt, pvC_ids, pvC_ren, pvC_len, I, S, tv, nv, tyT, RawV.tv, R1.row, rowsGet, rowsLen, row4, Vk, Vn, Vs, Vl, e0, hn, i32, V.nil]
    (with_reducible apply v_call); (· simp only [vcA, Nat.reduceLT, Int.reduceEq, Int.reduceAdd, Int.reduceSub, Nat.reduceBEq, Nat.reduceEqDiff, reduceCtorEq, Nat.reduceAdd, Nat.reduceSub, Nat.reduceMul, Nat.reduceLeDiff, Int.reduceToNat, Int.reduceLT, Int.reduceLE, Int.reduceNeg, reduceIte, pvC_fgt, pvC_ids, pvC_ren, pvC_len, I, S, tv, nv, tyT, RawV.tv, R1.row, rowsGet, rowsLen, row4, Vk, Vn, Vs, Vl]; with_reducible rfl); (· exact HF); (· first | rfl | (simp only [moOk, nbeq, nble, List.length_nil, beq_self_eq_true, Bool.true_and, Bool.and_true, Bool.and_eq_true, decide_eq_true_eq]; omega)); (· simp only [vcA, Nat.reduceLT, Int.reduceEq, Int.reduceAdd, Int.reduceSub, Nat.reduceBEq, Nat.reduceEqDiff, reduceCtorEq, Nat.reduceAdd, Nat.reduceSub, Nat.reduceMul, Nat.reduceLeDiff, Int.reduceToNat, Int.reduceLT, Int.reduceLE, Int.reduceNeg, reduceIte, pvC_fgt, pvC_ids, pvC_ren, pvC_len, I, S, tv, nv, tyT, RawV.tv, R1.row, rowsGet, rowsLen, row4, Vk, Vn, Vs, Vl]; with_reducible rfl)
    simp only [vcA, Nat.reduceLT, Int.reduceEq, Int.reduceAdd, Int.reduceSub, Nat.reduceBEq, Nat.reduceEqDiff, reduceCtorEq, Nat.reduceAdd, Nat.reduceSub, Nat.reduceMul, Nat.reduceLeDiff, Int.reduceToNat, Int.reduceLT, Int.reduceLE, Int.reduceNeg, reduceIte, pvC_fgt, pvC_ids, pvC_ren, pvC_len, I, S, tv, nv, tyT, RawV.tv, R1.row, rowsGet, rowsLen, row4, Vk, Vn, Vs, Vl]
    exact ⟨fun h => by rw [if_pos h]; rfl, fun h => by rw [if_neg h]; rfl⟩
/-- A value that is no list, or what a list begins with, and how many bytes it has. -/
def partV (l : List UInt8) : V × Nat :=
  if firstR l = 34 then (.mk 2 0 (quoV l).1 [], (quoV l).2)
  else if firstR l = 64 then (.mk 3 (refV l).1 [] [], (refV l).2)
  else if firstR l = 126 then (.mk 4 (refV l).1 [] [], (refV l).2)
  else if firstR l = 91 then (.mk 5 0 [] [], 1)
  else if (numV (-1000000000000000) 1000000000000000 l).2 = 0 then (V.nil, if l ≠ [] ∧ firstR l = 45 then 1 else 0)
  else (.mk 1 (numV (-1000000000000000) 1000000000000000 l).1 [] [], (numV (-1000000000000000) 1000000000000000 l).2)
theorem value_ok (a0 a1 : Addr) (m : Nat) (l : List UInt8) (hl : l.length < 1125899906842624) : SCalls Tryz.prog (gl a0 a1 m) 56 [S (str l)] [] (.tuple [nv (partV l).1, I ((partV l).2 : Int)]) [] := by
  have HF := first_ok a0 a1 m l
  refine call_of0 hmix tf_val_value rfl ?_
  unfold partV
  by_cases f34 : firstR l = 34
  · have HQ := quoted_ok a0 a1 m l hl (first_pos (by omega))
    rw [if_pos f34]
    simp only [vcA, Nat.reduceLT, Int.reduceEq, Int.reduceAdd, Int.reduceSub, Nat.reduceBEq, Nat.reduceEqDiff, reduceCtorEq, Nat.reduceAdd, Nat.reduceSub, Nat.reduceMul, Nat.reduceLeDiff, Int.reduceToNat, Int.reduceLT, Int.reduceLE, Int.reduceNeg, reduceIte, pvC_fgt, pvC_ids, pvC_ren, pvC_len, I, S, tv, nv, tyT, RawV.tv, R1.row, rowsGet, rowsLen, row4, Vk, Vn, Vs, Vl]
    (with_reducible apply v_call); (· simp only [vcA, Nat.reduceLT, Int.reduceEq, Int.reduceAdd, Int.reduceSub, Nat.reduceBEq, Nat.reduceEqDiff, reduceCtorEq, Nat.reduceAdd, Nat.reduceSub, Nat.reduceMul, Nat.reduceLeDiff, Int.reduceToNat, Int.reduceLT, Int.reduceLE, Int.reduceNeg, reduceIte, pvC_fgt, pvC_ids, pvC_ren, pvC_len, I, S, tv, nv, tyT, RawV.tv, R1.row, rowsGet, rowsLen, row4, Vk, Vn, Vs, Vl]; with_reducible rfl); (· exact HF); (· first | rfl | (simp only [moOk, nbeq, nble, List.length_nil, beq_self_eq_true, Bool.true_and, Bool.and_true, Bool.and_eq_true, decide_eq_true_eq]; omega)); (· simp only [vcA, Nat.reduceLT, Int.reduceEq, Int.reduceAdd, Int.reduceSub, Nat.reduceBEq, Nat.reduceEqDiff, reduceCtorEq, Nat.reduceAdd, Nat.reduceSub, Nat.reduceMul, Nat.reduceLeDiff, Int.reduceToNat, Int.reduceLT, Int.reduceLE, Int.reduceNeg, reduceIte, pvC_fgt, pvC_ids, pvC_ren, pvC_len, I, S, tv, nv, tyT, RawV.tv, R1.row, rowsGet, rowsLen, row4, Vk, Vn, Vs, Vl]; with_reducible rfl)
    simp only [vcA, Nat.reduceLT, Int.reduceEq, Int.reduceAdd, Int.reduceSub, Nat.reduceBEq, Nat.reduceEqDiff, reduceCtorEq, Nat.reduceAdd, Nat.reduceSub, Nat.reduceMul, Nat.reduceLeDiff, Int.reduceToNat, Int.reduceLT, Int.reduceLE, Int.reduceNeg, reduceIte, pvC_fgt, pvC_ids, pvC_ren, pvC_len, I, S, tv, nv, tyT, RawV.tv, R1.row, rowsGet, rowsLen, row4, Vk, Vn, Vs, Vl, f34]
    (with_reducible apply v_call); (· simp only [vcA, Nat.reduceLT, Int.reduceEq, Int.reduceAdd, Int.reduceSub, Nat.reduceBEq, Nat.reduceEqDiff, reduceCtorEq, Nat.reduceAdd, Nat.reduceSub, Nat.reduceMul, Nat.reduceLeDiff, Int.reduceToNat, Int.reduceLT, Int.reduceLE, Int.reduceNeg, reduceIte, pvC_fgt, pvC_ids, pvC_ren, pvC_len, I, S, tv, nv, tyT, RawV.tv, R1.row, rowsGet, rowsLen, row4, Vk, Vn, Vs, Vl]; with_reducible rfl); (· exact HQ); (· first | rfl | (simp only [moOk, nbeq, nble, List.length_nil, beq_self_eq_true, Bool.true_and, Bool.and_true, Bool.and_eq_true, decide_eq_true_eq]; omega)); (· simp only [vcA, Nat.reduceLT, Int.reduceEq, Int.reduceAdd, Int.reduceSub, Nat.reduceBEq, Nat.reduceEqDiff, reduceCtorEq, Nat.reduceAdd, Nat.reduceSub, Nat.reduceMul, Nat.reduceLeDiff, Int.reduceToNat, Int.reduceLT, Int.reduceLE, Int.reduceNeg, reduceIte, pvC_fgt, pvC_ids, pvC_ren, pvC_len, I, S, tv, nv, tyT, RawV.tv, R1.row, rowsGet, rowsLen, row4, Vk, Vn, Vs, Vl]; with_reducible rfl)
    simp only [vcA, Nat.reduceLT, Int.reduceEq, Int.reduceAdd, Int.reduceSub, Nat.reduceBEq, Nat.reduceEqDiff, reduceCtorEq, Nat.reduceAdd, Nat.reduceSub, Nat.reduceMul, Nat.reduceLeDiff, Int.reduceToNat, Int.reduceLT, Int.reduceLE, Int.reduceNeg, reduceIte, pvC_fgt, pvC_ids, pvC_ren, pvC_len, I, S, tv, nv, tyT, RawV.tv, R1.row, rowsGet, rowsLen, row4, Vk, Vn, Vs, Vl]
  rw [if_neg f34]
  by_cases f64 : firstR l = 64
  · have HQ := reference_ok a0 a1 m l hl (first_pos (by omega))
    rw [if_pos f64]
    simp only [vcA, Nat.reduceLT, Int.reduceEq, Int.reduceAdd, Int.reduceSub, Nat.reduceBEq, Nat.reduceEqDiff, reduceCtorEq, Nat.reduceAdd, Nat.reduceSub, Nat.reduceMul, Nat.reduceLeDiff, Int.reduceToNat, Int.reduceLT, Int.reduceLE, Int.reduceNeg, reduceIte, pvC_fgt, pvC_ids, pvC_ren, pvC_len, I, S, tv, nv, tyT, RawV.tv, R1.row, rowsGet, rowsLen, row4, Vk, Vn, Vs, Vl]
    (with_reducible apply v_call); (· simp only [vcA, Nat.reduceLT, Int.reduceEq, Int.reduceAdd, Int.reduceSub, Nat.reduceBEq, Nat.reduceEqDiff, reduceCtorEq, Nat.reduceAdd, Nat.reduceSub, Nat.reduceMul, Nat.reduceLeDiff, Int.reduceToNat, Int.reduceLT, Int.reduceLE, Int.reduceNeg, reduceIte, pvC_fgt, pvC_ids, pvC_ren, pvC_len, I, S, tv, nv, tyT, RawV.tv, R1.row, rowsGet, rowsLen, row4, Vk, Vn, Vs, Vl]; with_reducible rfl); (· exact HF); (· first | rfl | (simp only [moOk, nbeq, nble, List.length_nil, beq_self_eq_true, Bool.true_and, Bool.and_true, Bool.and_eq_true, decide_eq_true_eq]; omega)); (· simp only [vcA, Nat.reduceLT, Int.reduceEq, Int.reduceAdd, Int.reduceSub, Nat.reduceBEq, Nat.reduceEqDiff, reduceCtorEq, Nat.reduceAdd, Nat.reduceSub, Nat.reduceMul, Nat.reduceLeDiff, Int.reduceToNat, Int.reduceLT, Int.reduceLE, Int.reduceNeg, reduceIte, pvC_fgt, pvC_ids, pvC_ren, pvC_len, I, S, tv, nv, tyT, RawV.tv, R1.row, rowsGet, rowsLen, row4, Vk, Vn, Vs, Vl]; with_reducible rfl)
    simp only [vcA, Nat.reduceLT, Int.reduceEq, Int.reduceAdd, Int.reduceSub, Nat.reduceBEq, Nat.reduceEqDiff, reduceCtorEq, Nat.reduceAdd, Nat.reduceSub, Nat.reduceMul, Nat.reduceLeDiff, Int.reduceToNat, Int.reduceLT, Int.reduceLE, Int.reduceNeg, reduceIte, pvC_fgt, pvC_ids, pvC_ren, pvC_len, I, S, tv, nv, tyT, RawV.tv, R1.row, rowsGet, rowsLen, row4, Vk, Vn, Vs, Vl, f64]
    (with_reducible apply v_call); (· simp only [vcA, Nat.reduceLT, Int.reduceEq, Int.reduceAdd, Int.reduceSub, Nat.reduceBEq, Nat.reduceEqDiff, reduceCtorEq, Nat.reduceAdd, Nat.reduceSub, Nat.reduceMul, Nat.reduceLeDiff, Int.reduceToNat, Int.reduceLT, Int.reduceLE, Int.reduceNeg, reduceIte, pvC_fgt, pvC_ids, pvC_ren, pvC_len, I, S, tv, nv, tyT, RawV.tv, R1.row, rowsGet, rowsLen, row4, Vk, Vn, Vs, Vl]; with_reducible rfl); (· exact HQ); (· first | rfl | (simp only [moOk, nbeq, nble, List.length_nil, beq_self_eq_true, Bool.true_and, Bool.and_true, Bool.and_eq_true, decide_eq_true_eq]; omega)); (· simp only [vcA, Nat.reduceLT, Int.reduceEq, Int.reduceAdd, Int.reduceSub, Nat.reduceBEq, Nat.reduceEqDiff, reduceCtorEq, Nat.reduceAdd, Nat.reduceSub, Nat.reduceMul, Nat.reduceLeDiff, Int.reduceToNat, Int.reduceLT, Int.reduceLE, Int.reduceNeg, reduceIte, pvC_fgt, pvC_ids, pvC_ren, pvC_len, I, S, tv, nv, tyT, RawV.tv, R1.row, rowsGet, rowsLen, row4, Vk, Vn, Vs, Vl]; with_reducible rfl)
    simp only [vcA, Nat.reduceLT, Int.reduceEq, Int.reduceAdd, Int.reduceSub, Nat.reduceBEq, Nat.reduceEqDiff, reduceCtorEq, Nat.reduceAdd, Nat.reduceSub, Nat.reduceMul, Nat.reduceLeDiff, Int.reduceToNat, Int.reduceLT, Int.reduceLE, Int.reduceNeg, reduceIte, pvC_fgt, pvC_ids, pvC_ren, pvC_len, I, S, tv, nv, tyT, RawV.tv, R1.row, rowsGet, rowsLen, row4, Vk, Vn, Vs, Vl]
    rfl
  rw [if_neg f64]
  by_cases f126 : firstR l = 126
  · have HQ := reference_ok a0 a1 m l hl (first_pos (by omega))
    rw [if_pos f126]
    simp only [vcA, Nat.reduceLT, Int.reduceEq, Int.reduceAdd, Int.reduceSub, Nat.reduceBEq, Nat.reduceEqDiff, reduceCtorEq, Nat.reduceAdd, Nat.reduceSub, Nat.reduceMul, Nat.reduceLeDiff, Int.reduceToNat, Int.reduceLT, Int.reduceLE, Int.reduceNeg, reduceIte, pvC_fgt, pvC_ids, pvC_ren, pvC_len, I, S, tv, nv, tyT, RawV.tv, R1.row, rowsGet, rowsLen, row4, Vk, Vn, Vs, Vl]
    (with_reducible apply v_call); (· simp only [vcA, Nat.reduceLT, Int.reduceEq, Int.reduceAdd, Int.reduceSub, Nat.reduceBEq, Nat.reduceEqDiff, reduceCtorEq, Nat.reduceAdd, Nat.reduceSub, Nat.reduceMul, Nat.reduceLeDiff, Int.reduceToNat, Int.reduceLT, Int.reduceLE, Int.reduceNeg, reduceIte, pvC_fgt, pvC_ids, pvC_ren, pvC_len, I, S, tv, nv, tyT, RawV.tv, R1.row, rowsGet, rowsLen, row4, Vk, Vn, Vs, Vl]; with_reducible rfl); (· exact HF); (· first | rfl | (simp only [moOk, nbeq, nble, List.length_nil, beq_self_eq_true, Bool.true_and, Bool.and_true, Bool.and_eq_true, decide_eq_true_eq]; omega)); (· simp only [vcA, Nat.reduceLT, Int.reduceEq, Int.reduceAdd, Int.reduceSub, Nat.reduceBEq, Nat.reduceEqDiff, reduceCtorEq, Nat.reduceAdd, Nat.reduceSub, Nat.reduceMul, Nat.reduceLeDiff, Int.reduceToNat, Int.reduceLT, Int.reduceLE, Int.reduceNeg, reduceIte, pvC_fgt, pvC_ids, pvC_ren, pvC_len, I, S, tv, nv, tyT, RawV.tv, R1.row, rowsGet, rowsLen, row4, Vk, Vn, Vs, Vl]; with_reducible rfl)
    simp only [vcA, Nat.reduceLT, Int.reduceEq, Int.reduceAdd, Int.reduceSub, Nat.reduceBEq, Nat.reduceEqDiff, reduceCtorEq, Nat.reduceAdd, Nat.reduceSub, Nat.reduceMul, Nat.reduceLeDiff, Int.reduceToNat, Int.reduceLT, Int.reduceLE, Int.reduceNeg, reduceIte, pvC_fgt, pvC_ids, pvC_ren, pvC_len, I, S, tv, nv, tyT, RawV.tv, R1.row, rowsGet, rowsLen, row4, Vk, Vn, Vs, Vl, f126]
    (with_reducible apply v_call); (· simp only [vcA, Nat.reduceLT, Int.reduceEq, Int.reduceAdd, Int.reduceSub, Nat.reduceBEq, Nat.reduceEqDiff, reduceCtorEq, Nat.reduceAdd, Nat.reduceSub, Nat.reduceMul, Nat.reduceLeDiff, Int.reduceToNat, Int.reduceLT, Int.reduceLE, Int.reduceNeg, reduceIte, pvC_fgt, pvC_ids, pvC_ren, pvC_len, I, S, tv, nv, tyT, RawV.tv, R1.row, rowsGet, rowsLen, row4, Vk, Vn, Vs, Vl]; with_reducible rfl); (· exact HQ); (· first | rfl | (simp only [moOk, nbeq, nble, List.length_nil, beq_self_eq_true, Bool.true_and, Bool.and_true, Bool.and_eq_true, decide_eq_true_eq]; omega)); (· simp only [vcA, Nat.reduceLT, Int.reduceEq, Int.reduceAdd, Int.reduceSub, Nat.reduceBEq, Nat.reduceEqDiff, reduceCtorEq, Nat.reduceAdd, Nat.reduceSub, Nat.reduceMul, Nat.reduceLeDiff, Int.reduceToNat, Int.reduceLT, Int.reduceLE, Int.reduceNeg, reduceIte, pvC_fgt, pvC_ids, pvC_ren, pvC_len, I, S, tv, nv, tyT, RawV.tv, R1.row, rowsGet, rowsLen, row4, Vk, Vn, Vs, Vl]; with_reducible rfl)
    simp only [vcA, Nat.reduceLT, Int.reduceEq, Int.reduceAdd, Int.reduceSub, Nat.reduceBEq, Nat.reduceEqDiff, reduceCtorEq, Nat.reduceAdd, Nat.reduceSub, Nat.reduceMul, Nat.reduceLeDiff, Int.reduceToNat, Int.reduceLT, Int.reduceLE, Int.reduceNeg, reduceIte, pvC_fgt, pvC_ids, pvC_ren, pvC_len, I, S, tv, nv, tyT, RawV.tv, R1.row, rowsGet, rowsLen, row4, Vk, Vn, Vs, Vl]
    rfl
  rw [if_neg f126]
  by_cases f91 : firstR l = 91
  · rw [if_pos f91]
    simp only [vcA, Nat.reduceLT, Int.reduceEq, Int.reduceAdd, Int.reduceSub, Nat.reduceBEq, Nat.reduceEqDiff, reduceCtorEq, Nat.reduceAdd, Nat.reduceSub, Nat.reduceMul, Nat.reduceLeDiff, Int.reduceToNat, Int.reduceLT, Int.reduceLE, Int.reduceNeg, reduceIte, pvC_fgt, pvC_ids, pvC_ren, pvC_len, I, S, tv, nv, tyT, RawV.tv, R1.row, rowsGet, rowsLen, row4, Vk, Vn, Vs, Vl]
    (with_reducible apply v_call); (· simp only [vcA, Nat.reduceLT, Int.reduceEq, Int.reduceAdd, Int.reduceSub, Nat.reduceBEq, Nat.reduceEqDiff, reduceCtorEq, Nat.reduceAdd, Nat.reduceSub, Nat.reduceMul, Nat.reduceLeDiff, Int.reduceToNat, Int.reduceLT, Int.reduceLE, Int.reduceNeg, reduceIte, pvC_fgt, pvC_ids, pvC_ren, pvC_len, I, S, tv, nv, tyT, RawV.tv, R1.row, rowsGet, rowsLen, row4, Vk, Vn, Vs, Vl]; with_reducible rfl); (· exact HF); (· first | rfl | (simp only [moOk, nbeq, nble, List.length_nil, beq_self_eq_true, Bool.true_and, Bool.and_true, Bool.and_eq_true, decide_eq_true_eq]; omega)); (· simp only [vcA, Nat.reduceLT, Int.reduceEq, Int.reduceAdd, Int.reduceSub, Nat.reduceBEq, Nat.reduceEqDiff, reduceCtorEq, Nat.reduceAdd, Nat.reduceSub, Nat.reduceMul, Nat.reduceLeDiff, Int.reduceToNat, Int.reduceLT, Int.reduceLE, Int.reduceNeg, reduceIte, pvC_fgt, pvC_ids, pvC_ren, pvC_len, I, S, tv, nv, tyT, RawV.tv, R1.row, rowsGet, rowsLen, row4, Vk, Vn, Vs, Vl]; with_reducible rfl)
    simp only [vcA, Nat.reduceLT, Int.reduceEq, Int.reduceAdd, Int.reduceSub, Nat.reduceBEq, Nat.reduceEqDiff, reduceCtorEq, Nat.reduceAdd, Nat.reduceSub, Nat.reduceMul, Nat.reduceLeDiff, Int.reduceToNat, Int.reduceLT, Int.reduceLE, Int.reduceNeg, reduceIte, pvC_fgt, pvC_ids, pvC_ren, pvC_len, I, S, tv, nv, tyT, RawV.tv, R1.row, rowsGet, rowsLen, row4, Vk, Vn, Vs, Vl, f91]
    rfl
  rw [if_neg f91]
  have HN := vnumber_ok a0 a1 m l (-1000000000000000) 1000000000000000 (by omega)
  generalize numV (-1000000000000000) 1000000000000000 l = q at *
  by_cases h0 : q.2 = 0
  · have d0 : (q.2 : Int) = 0 := by omega
    have HM := mkSign_ok (gl a0 a1 m) 45
    have HS := sign1_ok a0 a1 m l 45
    rw [if_pos h0]
    unfold i32 at HM HS
    simp only [vcA, Nat.reduceLT, Int.reduceEq, Int.reduceAdd, Int.reduceSub, Nat.reduceBEq, Nat.reduceEqDiff, reduceCtorEq, Nat.reduceAdd, Nat.reduceSub, Nat.reduceMul, Nat.reduceLeDiff, Int.reduceToNat, Int.reduceLT, Int.reduceLE, Int.reduceNeg, reduceIte, pvC_fgt, pvC_ids, pvC_ren, pvC_len, I, S, tv, nv, tyT, RawV.tv, R1.row, rowsGet, rowsLen, row4, Vk, Vn, Vs, Vl]
    (with_reducible apply v_call); (· simp only [vcA, Nat.reduceLT, Int.reduceEq, Int.reduceAdd, Int.reduceSub, Nat.reduceBEq, Nat.reduceEqDiff, reduceCtorEq, Nat.reduceAdd, Nat.reduceSub, Nat.reduceMul, Nat.reduceLeDiff, Int.reduceToNat, Int.reduceLT, Int.reduceLE, Int.reduceNeg, reduceIte, pvC_fgt, pvC_ids, pvC_ren, pvC_len, I, S, tv, nv, tyT, RawV.tv, R1.row, rowsGet, rowsLen, row4, Vk, Vn, Vs, Vl]; with_reducible rfl); (· exact HF); (· first | rfl | (simp only [moOk, nbeq, nble, List.length_nil, beq_self_eq_true, Bool.true_and, Bool.and_true, Bool.and_eq_true, decide_eq_true_eq]; omega)); (· simp only [vcA, Nat.reduceLT, Int.reduceEq, Int.reduceAdd, Int.reduceSub, Nat.reduceBEq, Nat.reduceEqDiff, reduceCtorEq, Nat.reduceAdd, Nat.reduceSub, Nat.reduceMul, Nat.reduceLeDiff, Int.reduceToNat, Int.reduceLT, Int.reduceLE, Int.reduceNeg, reduceIte, pvC_fgt, pvC_ids, pvC_ren, pvC_len, I, S, tv, nv, tyT, RawV.tv, R1.row, rowsGet, rowsLen, row4, Vk, Vn, Vs, Vl]; with_reducible rfl)
    simp only [vcA, Nat.reduceLT, Int.reduceEq, Int.reduceAdd, Int.reduceSub, Nat.reduceBEq, Nat.reduceEqDiff, reduceCtorEq, Nat.reduceAdd, Nat.reduceSub, Nat.reduceMul, Nat.reduceLeDiff, Int.reduceToNat, Int.reduceLT, Int.reduceLE, Int.reduceNeg, reduceIte, pvC_fgt, pvC_ids, pvC_ren, pvC_len, I, S, tv, nv, tyT, RawV.tv, R1.row, rowsGet, rowsLen, row4, Vk, Vn, Vs, Vl, f34, f64, f126, f91]
    (with_reducible apply v_call); (· simp only [vcA, Nat.reduceLT, Int.reduceEq, Int.reduceAdd, Int.reduceSub, Nat.reduceBEq, Nat.reduceEqDiff, reduceCtorEq, Nat.reduceAdd, Nat.reduceSub, Nat.reduceMul, Nat.reduceLeDiff, Int.reduceToNat, Int.reduceLT, Int.reduceLE, Int.reduceNeg, reduceIte, pvC_fgt, pvC_ids, pvC_ren, pvC_len, I, S, tv, nv, tyT, RawV.tv, R1.row, rowsGet, rowsLen, row4, Vk, Vn, Vs, Vl]; with_reducible rfl); (· exact HN); (· first | rfl | (simp only [moOk, nbeq, nble, List.length_nil, beq_self_eq_true, Bool.true_and, Bool.and_true, Bool.and_eq_true, decide_eq_true_eq]; omega)); (· simp only [vcA, Nat.reduceLT, Int.reduceEq, Int.reduceAdd, Int.reduceSub, Nat.reduceBEq, Nat.reduceEqDiff, reduceCtorEq, Nat.reduceAdd, Nat.reduceSub, Nat.reduceMul, Nat.reduceLeDiff, Int.reduceToNat, Int.reduceLT, Int.reduceLE, Int.reduceNeg, reduceIte, pvC_fgt, pvC_ids, pvC_ren, pvC_len, I, S, tv, nv, tyT, RawV.tv, R1.row, rowsGet, rowsLen, row4, Vk, Vn, Vs, Vl]; with_reducible rfl)
    simp only [vcA, Nat.reduceLT, Int.reduceEq, Int.reduceAdd, Int.reduceSub, Nat.reduceBEq, Nat.reduceEqDiff, reduceCtorEq, Nat.reduceAdd, Nat.reduceSub, Nat.reduceMul, Nat.reduceLeDiff, Int.reduceToNat, Int.reduceLT, Int.reduceLE, Int.reduceNeg, reduceIte, pvC_fgt, pvC_ids, pvC_ren, pvC_len, I, S, tv, nv, tyT, RawV.tv, R1.row, rowsGet, rowsLen, row4, Vk, Vn, Vs, Vl, d0]
    (with_reducible apply v_call); (· simp only [vcA, Nat.reduceLT, Int.reduceEq, Int.reduceAdd, Int.reduceSub, Nat.reduceBEq, Nat.reduceEqDiff, reduceCtorEq, Nat.reduceAdd, Nat.reduceSub, Nat.reduceMul, Nat.reduceLeDiff, Int.reduceToNat, Int.reduceLT, Int.reduceLE, Int.reduceNeg, reduceIte, pvC_fgt, pvC_ids, pvC_ren, pvC_len, I, S, tv, nv, tyT, RawV.tv, R1.row, rowsGet, rowsLen, row4, Vk, Vn, Vs, Vl]; with_reducible rfl); (· exact HM); (· first | rfl | (simp only [moOk, nbeq, nble, List.length_nil, beq_self_eq_true, Bool.true_and, Bool.and_true, Bool.and_eq_true, decide_eq_true_eq]; omega)); (· simp only [vcA, Nat.reduceLT, Int.reduceEq, Int.reduceAdd, Int.reduceSub, Nat.reduceBEq, Nat.reduceEqDiff, reduceCtorEq, Nat.reduceAdd, Nat.reduceSub, Nat.reduceMul, Nat.reduceLeDiff, Int.reduceToNat, Int.reduceLT, Int.reduceLE, Int.reduceNeg, reduceIte, pvC_fgt, pvC_ids, pvC_ren, pvC_len, I, S, tv, nv, tyT, RawV.tv, R1.row, rowsGet, rowsLen, row4, Vk, Vn, Vs, Vl]; with_reducible rfl)
    simp only [vcA, Nat.reduceLT, Int.reduceEq, Int.reduceAdd, Int.reduceSub, Nat.reduceBEq, Nat.reduceEqDiff, reduceCtorEq, Nat.reduceAdd, Nat.reduceSub, Nat.reduceMul, Nat.reduceLeDiff, Int.reduceToNat, Int.reduceLT, Int.reduceLE, Int.reduceNeg, reduceIte, pvC_fgt, pvC_ids, pvC_ren, pvC_len, I, S, tv, nv, tyT, RawV.tv, R1.row, rowsGet, rowsLen, row4, Vk, Vn, Vs, Vl]
    unfold nv V.nil at HS
    have hsg : sgnS 45 l = ((if ¬ l = [] ∧ firstR l = 45 then 1 else 0 : Nat) : Int) := by unfold sgnS; split <;> rfl
    rw [hsg] at HS
    (with_reducible apply v_callv); (· simp only [vcA, Nat.reduceLT, Int.reduceEq, Int.reduceAdd, Int.reduceSub, Nat.reduceBEq, Nat.reduceEqDiff, reduceCtorEq, Nat.reduceAdd, Nat.reduceSub, Nat.reduceMul, Nat.reduceLeDiff, Int.reduceToNat, Int.reduceLT, Int.reduceLE, Int.reduceNeg, reduceIte, pvC_fgt, pvC_ids, pvC_ren, pvC_len, I, S, tv, nv, tyT, RawV.tv, R1.row, rowsGet, rowsLen, row4, Vk, Vn, Vs, Vl]; with_reducible rfl); (· exact HS); (· rfl); (· simp only [vcA, Nat.reduceLT, Int.reduceEq, Int.reduceAdd, Int.reduceSub, Nat.reduceBEq, Nat.reduceEqDiff, reduceCtorEq, Nat.reduceAdd, Nat.reduceSub, Nat.reduceMul, Nat.reduceLeDiff, Int.reduceToNat, Int.reduceLT, Int.reduceLE, Int.reduceNeg, reduceIte, pvC_fgt, pvC_ids, pvC_ren, pvC_len, I, S, tv, nv, tyT, RawV.tv, R1.row, rowsGet, rowsLen, row4, Vk, Vn, Vs, Vl]; with_reducible rfl)
    simp only [vcA, Nat.reduceLT, Int.reduceEq, Int.reduceAdd, Int.reduceSub, Nat.reduceBEq, Nat.reduceEqDiff, reduceCtorEq, Nat.reduceAdd, Nat.reduceSub, Nat.reduceMul, Nat.reduceLeDiff, Int.reduceToNat, Int.reduceLT, Int.reduceLE, Int.reduceNeg, reduceIte, pvC_fgt, pvC_ids, pvC_ren, pvC_len, I, S, tv, nv, tyT, RawV.tv, R1.row, rowsGet, rowsLen, row4, Vk, Vn, Vs, Vl]
    rfl
  · have d0 : ¬ (q.2 : Int) = 0 := by omega
    rw [if_neg h0]
    simp only [vcA, Nat.reduceLT, Int.reduceEq, Int.reduceAdd, Int.reduceSub, Nat.reduceBEq, Nat.reduceEqDiff, reduceCtorEq, Nat.reduceAdd, Nat.reduceSub, Nat.reduceMul, Nat.reduceLeDiff, Int.reduceToNat, Int.reduceLT, Int.reduceLE, Int.reduceNeg, reduceIte, pvC_fgt, pvC_ids, pvC_ren, pvC_len, I, S, tv, nv, tyT, RawV.tv, R1.row, rowsGet, rowsLen, row4, Vk, Vn, Vs, Vl]
    (with_reducible apply v_call); (· simp only [vcA, Nat.reduceLT, Int.reduceEq, Int.reduceAdd, Int.reduceSub, Nat.reduceBEq, Nat.reduceEqDiff, reduceCtorEq, Nat.reduceAdd, Nat.reduceSub, Nat.reduceMul, Nat.reduceLeDiff, Int.reduceToNat, Int.reduceLT, Int.reduceLE, Int.reduceNeg, reduceIte, pvC_fgt, pvC_ids, pvC_ren, pvC_len, I, S, tv, nv, tyT, RawV.tv, R1.row, rowsGet, rowsLen, row4, Vk, Vn, Vs, Vl]; with_reducible rfl); (· exact HF); (· first | rfl | (simp only [moOk, nbeq, nble, List.length_nil, beq_self_eq_true, Bool.true_and, Bool.and_true, Bool.and_eq_true, decide_eq_true_eq]; omega)); (· simp only [vcA, Nat.reduceLT, Int.reduceEq, Int.reduceAdd, Int.reduceSub, Nat.reduceBEq, Nat.reduceEqDiff, reduceCtorEq, Nat.reduceAdd, Nat.reduceSub, Nat.reduceMul, Nat.reduceLeDiff, Int.reduceToNat, Int.reduceLT, Int.reduceLE, Int.reduceNeg, reduceIte, pvC_fgt, pvC_ids, pvC_ren, pvC_len, I, S, tv, nv, tyT, RawV.tv, R1.row, rowsGet, rowsLen, row4, Vk, Vn, Vs, Vl]; with_reducible rfl)
    simp only [vcA, Nat.reduceLT, Int.reduceEq, Int.reduceAdd, Int.reduceSub, Nat.reduceBEq, Nat.reduceEqDiff, reduceCtorEq, Nat.reduceAdd, Nat.reduceSub, Nat.reduceMul, Nat.reduceLeDiff, Int.reduceToNat, Int.reduceLT, Int.reduceLE, Int.reduceNeg, reduceIte, pvC_fgt, pvC_ids, pvC_ren, pvC_len, I, S, tv, nv, tyT, RawV.tv, R1.row, rowsGet, rowsLen, row4, Vk, Vn, Vs, Vl, f34, f64, f126, f91]
    (with_reducible apply v_call); (· simp only [vcA, Nat.reduceLT, Int.reduceEq, Int.reduceAdd, Int.reduceSub, Nat.reduceBEq, Nat.reduceEqDiff, reduceCtorEq, Nat.reduceAdd, Nat.reduceSub, Nat.reduceMul, Nat.reduceLeDiff, Int.reduceToNat, Int.reduceLT, Int.reduceLE, Int.reduceNeg, reduceIte, pvC_fgt, pvC_ids, pvC_ren, pvC_len, I, S, tv, nv, tyT, RawV.tv, R1.row, rowsGet, rowsLen, row4, Vk, Vn, Vs, Vl]; with_reducible rfl); (· exact HN); (· first | rfl | (simp only [moOk, nbeq, nble, List.length_nil, beq_self_eq_true, Bool.true_and, Bool.and_true, Bool.and_eq_true, decide_eq_true_eq]; omega)); (· simp only [vcA, Nat.reduceLT, Int.reduceEq, Int.reduceAdd, Int.reduceSub, Nat.reduceBEq, Nat.reduceEqDiff, reduceCtorEq, Nat.reduceAdd, Nat.reduceSub, Nat.reduceMul, Nat.reduceLeDiff, Int.reduceToNat, Int.reduceLT, Int.reduceLE, Int.reduceNeg, reduceIte, pvC_fgt, pvC_ids, pvC_ren, pvC_len, I, S, tv, nv, tyT, RawV.tv, R1.row, rowsGet, rowsLen, row4, Vk, Vn, Vs, Vl]; with_reducible rfl)
    simp only [vcA, Nat.reduceLT, Int.reduceEq, Int.reduceAdd, Int.reduceSub, Nat.reduceBEq, Nat.reduceEqDiff, reduceCtorEq, Nat.reduceAdd, Nat.reduceSub, Nat.reduceMul, Nat.reduceLeDiff, Int.reduceToNat, Int.reduceLT, Int.reduceLE, Int.reduceNeg, reduceIte, pvC_fgt, pvC_ids, pvC_ren, pvC_len, I, S, tv, nv, tyT, RawV.tv, R1.row, rowsGet, rowsLen, row4, Vk, Vn, Vs, Vl, d0]
    rfl
theorem reader_ok (g : Sh.Glob) (l : List UInt8) (a : Int) : SCalls Tryz.prog g 55 [S (str l), I a] [] (.fn (.func 104) [] [.ptr 1000 0, .ptr 1001 0]) [.box [S (str l)], .box [I a]] := by
  refine call_of hmix tf_val_reader rfl rfl rfl ?_
  simp only [vcA, Nat.reduceLT, Int.reduceEq, Int.reduceAdd, Int.reduceSub, Nat.reduceBEq, Nat.reduceEqDiff, reduceCtorEq, Nat.reduceAdd, Nat.reduceSub, Nat.reduceMul, Nat.reduceLeDiff, Int.reduceToNat, Int.reduceLT, Int.reduceLE, Int.reduceNeg, reduceIte, pvC_fgt, pvC_ids, pvC_ren, pvC_len, I, S, tv, nv, tyT, RawV.tv, R1.row, rowsGet, rowsLen, row4, Vk, Vn, Vs, Vl]
theorem partV_le (l : List UInt8) : (partV l).2 ≤ l.length := by
  have href : 1 ≤ l.length → (refV l).2 ≤ l.length := by
    intro h1
    have := numV_le (-20) 100000 (l.drop 1)
    rw [List.length_drop] at this
    unfold refV
    split
    · simp
    · show _ + 1 ≤ _; omega
  unfold partV
  by_cases f34 : firstR l = 34
  · rw [if_pos f34]
    have h1 := first_pos (l := l) (by omega)
    have := quoGo_le l.length (l.drop 1) [] 1
    rw [List.length_drop] at this
    show (quoV l).2 ≤ _
    unfold quoV; omega
  rw [if_neg f34]
  by_cases f64 : firstR l = 64
  · rw [if_pos f64]; exact href (first_pos (by omega))
  rw [if_neg f64]
  by_cases f126 : firstR l = 126
  · rw [if_pos f126]; exact href (first_pos (by omega))
  rw [if_neg f126]
  by_cases f91 : firstR l = 91
  · rw [if_pos f91]; exact first_pos (by omega)
  rw [if_neg f91]
  have hn := numV_le (-1000000000000000) 1000000000000000 l
  by_cases h0 : (numV (-1000000000000000) 1000000000000000 l).2 = 0
  · rw [if_pos h0]
    show (if l ≠ [] ∧ firstR l = 45 then 1 else 0) ≤ l.length
    split
    · rename_i h; exact first_pos (by omega)
    · simp
  · rw [if_neg h0]; exact hn
/-- A part is taken: a value. -/
theorem takeV_ok (a0 a1 : Addr) (m : Nat) (l : List UInt8) (a : Nat) (hl : l.length < 1125899906842624) (ha : a ≤ l.length) :
    SCalls Tryz.prog (gl a0 a1 m) 104 [.pv (.v (.func (.func 56) #[] #[])), .ptr 1000 0, .ptr 1001 0] [.box [S (str l)], .box [I (a : Int)]]
      (.tuple [nv (partV (l.drop a)).1, I ((a + (partV (l.drop a)).2 : Nat) : Int), .pv (.v (.bool (decide (0 < ((partV (l.drop a)).2 : Int)))))]) [.box [S (str l)], .box [I ((a + (partV (l.drop a)).2 : Nat) : Int)]] := by
  have HV := value_ok a0 a1 m (l.drop a) (by rw [List.length_drop]; omega)
  have hle := partV_le (l.drop a)
  rw [List.length_drop] at hle
  generalize partV (l.drop a) = q at *
  have tk : List.take (l.length - a) (l.drop a) = l.drop a := List.take_of_length_le (by simp)
  have w1 : IntKind.i64.wrap ((a : Int) + (q.2 : Int)) = ((a + q.2 : Nat) : Int) := by rw [wrap64 (by omega) (by omega)]; omega
  refine call_of hmix tf_val_reader_1 rfl rfl rfl ?_
  simp only [vcA, Nat.reduceLT, Int.reduceEq, Int.reduceAdd, Int.reduceSub, Nat.reduceBEq, Nat.reduceEqDiff, reduceCtorEq, Nat.reduceAdd, Nat.reduceSub, Nat.reduceMul, Nat.reduceLeDiff, Int.reduceToNat, Int.reduceLT, Int.reduceLE, Int.reduceNeg, reduceIte, pvC_fgt, pvC_ids, pvC_ren, pvC_len, I, S, tv, nv, tyT, RawV.tv, R1.row, rowsGet, rowsLen, row4, Vk, Vn, Vs, Vl, ha, tk]
  (with_reducible apply v_callv); (· simp only [vcA, Nat.reduceLT, Int.reduceEq, Int.reduceAdd, Int.reduceSub, Nat.reduceBEq, Nat.reduceEqDiff, reduceCtorEq, Nat.reduceAdd, Nat.reduceSub, Nat.reduceMul, Nat.reduceLeDiff, Int.reduceToNat, Int.reduceLT, Int.reduceLE, Int.reduceNeg, reduceIte, pvC_fgt, pvC_ids, pvC_ren, pvC_len, I, S, tv, nv, tyT, RawV.tv, R1.row, rowsGet, rowsLen, row4, Vk, Vn, Vs, Vl]; with_reducible rfl); (· exact HV); (· rfl); (· simp only [vcA, Nat.reduceLT, Int.reduceEq, Int.reduceAdd, Int.reduceSub, Nat.reduceBEq, Nat.reduceEqDiff, reduceCtorEq, Nat.reduceAdd, Nat.reduceSub, Nat.reduceMul, Nat.reduceLeDiff, Int.reduceToNat, Int.reduceLT, Int.reduceLE, Int.reduceNeg, reduceIte, pvC_fgt, pvC_ids, pvC_ren, pvC_len, I, S, tv, nv, tyT, RawV.tv, R1.row, rowsGet, rowsLen, row4, Vk, Vn, Vs, Vl]; with_reducible rfl)
  simp only [vcA, Nat.reduceLT, Int.reduceEq, Int.reduceAdd, Int.reduceSub, Nat.reduceBEq, Nat.reduceEqDiff, reduceCtorEq, Nat.reduceAdd, Nat.reduceSub, Nat.reduceMul, Nat.reduceLeDiff, Int.reduceToNat, Int.reduceLT, Int.reduceLE, Int.reduceNeg, reduceIte, pvC_fgt, pvC_ids, pvC_ren, pvC_len, I, S, tv, nv, tyT, RawV.tv, R1.row, rowsGet, rowsLen, row4, Vk, Vn, Vs, Vl, w1]
theorem takeS_ok (a0 a1 : Addr) (m : Nat) (l : List UInt8) (a : Nat) (r : Int) (hl : l.length < 1125899906842624) (ha : a ≤ l.length) :
    SCalls Tryz.prog (gl a0 a1 m) 104 [.fn (.func 150) [] [.ptr 1000 0], .ptr 1001 0, .ptr 1002 0] [.box [i32 r], .box [S (str l)], .box [I (a : Int)]]
      (.tuple [nv V.nil, I ((a : Int) + sgnS r (l.drop a)), .pv (.v (.bool (decide (0 < sgnS r (l.drop a)))))]) [.box [i32 r], .box [S (str l)], .box [I ((a : Int) + sgnS r (l.drop a))]] := by
  have HV := sign1_ok a0 a1 m (l.drop a) r
  have hle : 0 ≤ sgnS r (l.drop a) ∧ sgnS r (l.drop a) ≤ 1 := by unfold sgnS; split <;> decide
  generalize sgnS r (l.drop a) = q at *
  have tk : List.take (l.length - a) (l.drop a) = l.drop a := List.take_of_length_le (by simp)
  have w1 : IntKind.i64.wrap ((a : Int) + q) = (a : Int) + q := wrap64 (by omega) (by omega)
  refine call_of hmix tf_val_reader_1 rfl rfl rfl ?_
  simp only [vcA, Nat.reduceLT, Int.reduceEq, Int.reduceAdd, Int.reduceSub, Nat.reduceBEq, Nat.reduceEqDiff, reduceCtorEq, Nat.reduceAdd, Nat.reduceSub, Nat.reduceMul, Nat.reduceLeDiff, Int.reduceToNat, Int.reduceLT, Int.reduceLE, Int.reduceNeg, reduceIte, pvC_fgt, pvC_ids, pvC_ren, pvC_len, I, S, tv, nv, tyT, RawV.tv, R1.row, rowsGet, rowsLen, row4, Vk, Vn, Vs, Vl, ha, tk, i32]
  (with_reducible apply v_callv); (· simp only [vcA, Nat.reduceLT, Int.reduceEq, Int.reduceAdd, Int.reduceSub, Nat.reduceBEq, Nat.reduceEqDiff, reduceCtorEq, Nat.reduceAdd, Nat.reduceSub, Nat.reduceMul, Nat.reduceLeDiff, Int.reduceToNat, Int.reduceLT, Int.reduceLE, Int.reduceNeg, reduceIte, pvC_fgt, pvC_ids, pvC_ren, pvC_len, I, S, tv, nv, tyT, RawV.tv, R1.row, rowsGet, rowsLen, row4, Vk, Vn, Vs, Vl, i32, V.nil]; with_reducible rfl); (· exact HV); (· rfl); (· simp only [vcA, Nat.reduceLT, Int.reduceEq, Int.reduceAdd, Int.reduceSub, Nat.reduceBEq, Nat.reduceEqDiff, reduceCtorEq, Nat.reduceAdd, Nat.reduceSub, Nat.reduceMul, Nat.reduceLeDiff, Int.reduceToNat, Int.reduceLT, Int.reduceLE, Int.reduceNeg, reduceIte, pvC_fgt, pvC_ids, pvC_ren, pvC_len, I, S, tv, nv, tyT, RawV.tv, R1.row, rowsGet, rowsLen, row4, Vk, Vn, Vs, Vl, i32, V.nil]; with_reducible rfl)
  simp only [vcA, Nat.reduceLT, Int.reduceEq, Int.reduceAdd, Int.reduceSub, Nat.reduceBEq, Nat.reduceEqDiff, reduceCtorEq, Nat.reduceAdd, Nat.reduceSub, Nat.reduceMul, Nat.reduceLeDiff, Int.reduceToNat, Int.reduceLT, Int.reduceLE, Int.reduceNeg, reduceIte, pvC_fgt, pvC_ids, pvC_ren, pvC_len, I, S, tv, nv, tyT, RawV.tv, R1.row, rowsGet, rowsLen, row4, Vk, Vn, Vs, Vl, w1, V.nil, i32]
end Go.Proofs.YthjphllpkcnehaaGreatDoor
end

section
/- Numbers that are written are read back. No statement of the program is proved here. -/
namespace Go.Proofs.YthjphllpkcnehaaGreatDoor
open Go Go.Mor
/-- What stands behind a number: no digit. -/
def NoDigit (l : List UInt8) : Prop := ∀ c r, l = c :: r → c.toNat < 48 ∨ 57 < c.toNat
theorem numGo_end (neg : Bool) (lo hi : Int) {l : List UInt8} (h : NoDigit l) (n best : Int) (size k : Nat) : numGo neg lo hi l n best size k = (best, size) := by
  cases l with
  | nil => rfl
  | cons c r => rw [numGo, if_pos (h c r rfl)]
def sv_ (neg : Bool) (n : Int) : Int := if neg then -n else n
/-- One digit is read, behind which there is more than 0. -/
theorem numGo_step (neg : Bool) (lo hi : Int) (d : Nat) (hd : d < 10) (r : List UInt8) (n best : Int) (size k : Nat) (h0 : 0 ≤ n) (hx0 : 0 < 10 * n + d) (hx1 : 10 * n + d ≤ 1000000000000000) :
    ∃ b s, numGo neg lo hi (UInt8.ofNat (48 + d) :: r) n best size k = numGo neg lo hi r (10 * n + d) b s (k + 1) ∧ (lo ≤ sv_ neg (10 * n + d) → sv_ neg (10 * n + d) ≤ hi → b = sv_ neg (10 * n + d) ∧ s = k + 1) := by
  have hc : (UInt8.ofNat (48 + d)).toNat = 48 + d := by rw [UInt8.toNat_ofNat']; omega
  have hx : 10 * n + ((UInt8.ofNat (48 + d)).toNat - 48 : Int) = 10 * n + d := by rw [hc]; omega
  rw [numGo, hx, if_neg (by rw [hc]; omega), if_neg (by omega)]
  have hv : (if neg then -(10 * n + (d : Int)) else 10 * n + d) = sv_ neg (10 * n + d) := rfl
  rw [hv]
  by_cases q : lo ≤ sv_ neg (10 * n + d) ∧ sv_ neg (10 * n + d) ≤ hi
  · rw [if_pos q, if_neg (by omega)]
    exact ⟨_, _, rfl, fun _ _ => ⟨rfl, rfl⟩⟩
  · rw [if_neg q, if_neg (by omega)]
    exact ⟨_, _, rfl, fun h1 h2 => absurd ⟨h1, h2⟩ q⟩
theorem numGo_digits (neg : Bool) (lo hi : Int) : ∀ (m : Nat), 0 < m → m ≤ 1000000000000000 → ∀ (r : List UInt8) (best : Int) (size k : Nat),
    ∃ b s, numGo neg lo hi (Lib.decDigits m ++ r) 0 best size k = numGo neg lo hi r m b s (k + (Lib.decDigits m).length) ∧ (lo ≤ sv_ neg m → sv_ neg m ≤ hi → b = sv_ neg m ∧ s = k + (Lib.decDigits m).length) := by
  intro m
  induction m using Nat.strongRecOn with
  | _ m ih =>
    intro h0 h1 r best size k
    by_cases hm : m < 10
    · rw [Lib.decDigits_one hm]
      obtain ⟨b, s, e, hb⟩ := numGo_step neg lo hi m hm r 0 best size k (by omega) (by omega) (by omega)
      refine ⟨b, s, ?_, ?_⟩
      · simpa using e
      · simpa using hb
    · have e0 : Lib.decDigits m = Lib.decDigits (m / 10) ++ [UInt8.ofNat (48 + m % 10)] := by rw [Lib.decDigits, dif_neg hm]
      obtain ⟨b1, s1, e1, _⟩ := ih (m / 10) (by omega) (by omega) (by omega) (UInt8.ofNat (48 + m % 10) :: r) best size k
      have hmm : 10 * ((m / 10 : Nat) : Int) + ((m % 10 : Nat) : Int) = (m : Int) := by omega
      obtain ⟨b, s, e2, hb⟩ := numGo_step neg lo hi (m % 10) (by omega) r ((m / 10 : Nat) : Int) b1 s1 (k + (Lib.decDigits (m / 10)).length) (by omega) (by rw [hmm]; omega) (by rw [hmm]; omega)
      rw [hmm] at e2 hb
      have hlen : k + (Lib.decDigits m).length = k + (Lib.decDigits (m / 10)).length + 1 := by rw [e0]; simp; omega
      refine ⟨b, s, ?_, ?_⟩
      · rw [hlen, ← e2, ← e1, e0]; simp
      · rw [hlen]; exact hb
theorem decDigits_head (m : Nat) : ∃ c r, Lib.decDigits m = c :: r ∧ 48 ≤ c.toNat ∧ c.toNat ≤ 57 := by
  induction m using Nat.strongRecOn with
  | _ m ih =>
    by_cases hm : m < 10
    · refine ⟨UInt8.ofNat (48 + m), [], Lib.decDigits_one hm, ?_⟩
      rw [UInt8.toNat_ofNat']; omega
    · obtain ⟨c, r, h1, h2⟩ := ih (m / 10) (by omega)
      exact ⟨c, r ++ [UInt8.ofNat (48 + m % 10)], by rw [Lib.decDigits, dif_neg hm, h1]; rfl, h2⟩
theorem firstR_low {b : UInt8} {t : List UInt8} (h : b.toNat < 128) : firstR (b :: t) = b.toNat := by
  unfold firstR
  rw [if_neg (by simp), decodeGo_L (by simp), Lib.decodeL_ascii b t h]
/-- A number that is written is read back. -/
theorem numV_itoa {lo hi n : Int} (h1 : lo ≤ n) (h2 : n ≤ hi) (ha : -1000000000000000 ≤ n) (hb : n ≤ 1000000000000000) {r : List UInt8} (hr : NoDigit r) : numV lo hi (Lib.itoa n ++ r) = (n, (Lib.itoa n).length) := by
  unfold Lib.itoa
  by_cases hn : n < 0
  · rw [if_pos hn]
    unfold numV
    rw [List.cons_append, if_pos (by rw [firstR_low (by decide)]; rfl)]
    obtain ⟨b, s, e, hbs⟩ := numGo_digits true lo hi n.natAbs (by omega) (by omega) r 0 0 1
    have hv : sv_ true (n.natAbs : Int) = n := by show -(n.natAbs : Int) = n; omega
    rw [hv] at hbs
    obtain ⟨eb, es⟩ := hbs h1 h2
    rw [show (45 :: (Lib.decDigits n.natAbs ++ r)).drop 1 = Lib.decDigits n.natAbs ++ r from rfl, e, numGo_end _ _ _ hr, eb, es, List.length_cons, Nat.add_comm]
  · rw [if_neg hn]
    obtain ⟨c, t, hc, hc1, hc2⟩ := decDigits_head n.toNat
    unfold numV
    rw [if_neg (by rw [hc, List.cons_append, firstR_low (by omega)]; omega)]
    by_cases hz : n = 0
    · subst hz
      rw [show (0 : Int).toNat = 0 from rfl, Lib.decDigits_one (by decide), List.singleton_append, numGo]
      simp [UInt8.toNat_ofNat']
      omega
    · obtain ⟨b, s, e, hbs⟩ := numGo_digits false lo hi n.toNat (by omega) (by omega) r 0 0 0
      have hv : sv_ false (n.toNat : Int) = n := by show (n.toNat : Int) = n; omega
      rw [hv] at hbs
      obtain ⟨eb, es⟩ := hbs h1 h2
      rw [e, numGo_end _ _ _ hr, eb, es, Nat.zero_add]
end Go.Proofs.YthjphllpkcnehaaGreatDoor
end

section
/- Texts that are written in quotes are read back. No statement of the program is proved here. -/
namespace Go.Proofs.YthjphllpkcnehaaGreatDoor
open Go Go.Mor
set_option maxHeartbeats 4000000
theorem signN_same {n n' b0 b1 b2 b3 c1 c2 c3 w : Nat} (h : signN n b0 b1 b2 b3 = w) (hw : w ≠ 0) (hn : w ≤ n') (h1 : 2 ≤ w → c1 = b1) (h2 : 3 ≤ w → c2 = b2) (h3 : 4 ≤ w → c3 = b3) : signN n' b0 c1 c2 c3 = w := by
  have key : w = 1 ∨ w = 2 ∨ w = 3 ∨ w = 4 := by unfold signN at h; (repeat' split at h) <;> omega
  rcases key with rfl | rfl | rfl | rfl
  · unfold signN at h ⊢; (repeat' split at h) <;> (repeat' split) <;> omega
  · rw [h1 (by decide)]; unfold signN at h ⊢; (repeat' split at h) <;> (repeat' split) <;> omega
  · rw [h1 (by decide), h2 (by decide)]; unfold signN at h ⊢; (repeat' split at h) <;> (repeat' split) <;> omega
  · rw [h1 (by decide), h2 (by decide), h3 (by decide)]; unfold signN at h ⊢; (repeat' split at h) <;> (repeat' split) <;> omega
theorem signN_hi {n b0 b1 b2 b3 w : Nat} (h : signN n b0 b1 b2 b3 = w) (hw : 2 ≤ w) : 128 ≤ b0 ∧ 128 ≤ b1 ∧ (3 ≤ w → 128 ≤ b2) ∧ (4 ≤ w → 128 ≤ b3) ∧ w ≤ n ∧ w ≤ 4 := by
  unfold signN at h
  (repeat' split at h) <;> refine ⟨?_, ?_, ?_, ?_, ?_, ?_⟩ <;> omega
/-- A text's bytes in quotes. -/
def qs (s : List UInt8) : List UInt8 := s.flatMap fun b => if b.toNat = 34 ∨ b.toNat = 92 then [92, b] else [b]
theorem qs_hi : ∀ {s : List UInt8}, (∀ b ∈ s, 128 ≤ b.toNat) → qs s = s
  | [], _ => rfl
  | b :: s, h => by
    have hb := h b (by simp)
    have ih := qs_hi (s := s) (fun c hc => h c (by simp [hc]))
    unfold qs at ih ⊢
    rw [List.flatMap_cons, if_neg (by omega), ih]; rfl
theorem qs_app (a c : List UInt8) : qs (a ++ c) = qs a ++ qs c := by simp [qs]
theorem signL_width {l : List UInt8} (h : signL l ≠ 0) : (Lib.decodeL l).2 = signL l ∧ l ≠ [] := by
  cases l with
  | nil => exact absurd rfl h
  | cons b t =>
    rw [signL_decode] at h ⊢
    split at h
    · exact absurd rfl h
    · rename_i hc; rw [if_neg hc]; exact ⟨rfl, by simp⟩
theorem getD_lt {l : List UInt8} {i : Nat} (h : i < l.length) : l.getD i 0 = l[i] := by simp [List.getD_eq_getElem?_getD, List.getElem?_eq_getElem h]
/-- A sign that is longer than a byte: its bytes, and what it is whatever stands behind it. -/
theorem long_sign {s : List UInt8} {w : Nat} (h : signL s = w) (hw : 2 ≤ w) (X : List UInt8) : w ≤ s.length ∧ (∀ b ∈ s.take w, 128 ≤ b.toNat) ∧ signL (s.take w ++ X) = w := by
  have hne : s ≠ [] := by rintro rfl; simp [signL] at h; omega
  unfold signL at h
  rw [if_neg hne] at h
  obtain ⟨q0, q1, q2, q3, q4, q5⟩ := signN_hi h hw
  refine ⟨q4, fun b hb => ?_, ?_⟩
  · obtain ⟨i, hi⟩ := List.getElem?_of_mem hb
    have hi1 : i < (s.take w).length := (List.getElem?_eq_some_iff.1 hi).1
    rw [List.length_take] at hi1
    rw [List.getElem?_take_of_lt (by omega)] at hi
    have hg : s.getD i 0 = b := by rw [List.getD_eq_getElem?_getD, hi]; rfl
    rw [← hg]
    have h4 : i = 0 ∨ i = 1 ∨ i = 2 ∨ i = 3 := by omega
    rcases h4 with rfl | rfl | rfl | rfl
    · exact q0
    · exact q1
    · exact q2 (by omega)
    · exact q3 (by omega)
  · have hlen : (s.take w ++ X).length = w + X.length := by rw [List.length_append, List.length_take]; omega
    have hne' : s.take w ++ X ≠ [] := by intro h0; have := congrArg List.length h0; rw [hlen] at this; simp at this; omega
    have hg : ∀ i, i < w → (s.take w ++ X).getD i 0 = s.getD i 0 := by
      intro i hi
      rw [List.getD_eq_getElem?_getD, List.getD_eq_getElem?_getD, List.getElem?_append_left (by rw [List.length_take]; omega), List.getElem?_take_of_lt hi]
    unfold signL
    rw [if_neg hne', hg 0 (by omega)]
    exact signN_same h (by omega) (by rw [hlen]; omega) (fun h2 => by rw [hg 1 (by omega)]) (fun h2 => by rw [hg 2 (by omega)]) (fun h2 => by rw [hg 3 (by omega)])
theorem decode_hi {b : UInt8} {t : List UInt8} (h : 128 ≤ b.toNat) : 128 ≤ (Lib.decodeL (b :: t)).1 := by
  rw [Lib.decodeL_N]
  exact (rune_lo _ _ _ _ _).2 (by simpa using h)
theorem quoGo_qs (post : List UInt8) : ∀ (N : Nat) (s t : List UInt8) (k f : Nat), s.length ≤ N → isText s = true → t.length + s.length ≤ 60 → rightText (t ++ s) = true → (qs s).length < f →
    quoGo f (qs s ++ 34 :: post) t k = (t ++ s, k + (qs s).length + 1) := by
  intro N
  induction N with
  | zero =>
    intro s t k f hN hT h60 hR hf
    have : s = [] := List.eq_nil_of_length_eq_zero (by omega)
    subst this
    obtain ⟨f', rfl⟩ : ∃ f', f = f' + 1 := ⟨f - 1, by omega⟩
    rw [List.append_nil] at hR ⊢
    rw [show qs [] = [] from rfl, List.nil_append, quoGo, if_neg (by simp; simp at h60; omega), Lib.decodeL_ascii 34 post (by decide)]
    simp [hR]
  | succ N ih =>
    intro s t k f hN hT h60 hR hf
    obtain ⟨f', rfl⟩ : ∃ f', f = f' + 1 := ⟨f - 1, by omega⟩
    cases s with
    | nil => exact ih [] t k (f' + 1) (by simp) hT h60 hR hf
    | cons b r0 =>
      rw [isText_cons] at hT
      simp only [Bool.and_eq_true, Bool.not_eq_true', beq_eq_false_iff_ne] at hT
      obtain ⟨⟨⟨t1, t2⟩, t3⟩, t4⟩ := hT
      rw [List.length_cons] at hN h60
      by_cases hb : b.toNat < 128
      · have hw : signL (b :: r0) = 1 := by
          unfold signL signN; rw [if_neg (by simp), if_pos (by simpa using hb)]
        rw [hw, List.drop_one, List.tail_cons] at t4
        have hR' : rightText (t ++ [b] ++ r0) = true := by rw [List.append_assoc]; exact hR
        by_cases he : b.toNat = 34 ∨ b.toNat = 92
        · have hq : qs (b :: r0) = 92 :: b :: qs r0 := by unfold qs; rw [List.flatMap_cons, if_pos he]; rfl
          rw [hq] at hf ⊢
          simp only [List.length_cons] at hf
          rw [List.cons_append, quoGo, if_neg (by simp; omega), Lib.decodeL_ascii 92 _ (by decide)]
          simp only [List.cons_append, List.drop_one, List.tail_cons]
          rw [if_neg (by decide), if_pos (by decide), if_pos he, ih r0 (t ++ [b]) (k + 2) f' (by omega) t4 (by simp; omega) hR' (by omega)]
          simp; omega
        · have hq : qs (b :: r0) = b :: qs r0 := by unfold qs; rw [List.flatMap_cons, if_neg he]; rfl
          rw [hq] at hf ⊢
          simp only [List.length_cons] at hf
          rw [List.cons_append, quoGo, if_neg (by simp; omega), Lib.decodeL_ascii b _ hb]
          simp only [List.drop_one, List.tail_cons, List.take_succ_cons, List.take_zero]
          rw [if_neg (fun h => he (.inl h)), if_neg (fun h => he (.inr h)), ih r0 (t ++ [b]) (k + 1) f' (by omega) t4 (by simp; omega) hR' (by omega)]
          simp; omega
      · generalize hW : signL (b :: r0) = w at *
        have hw2 : 2 ≤ w := by
          unfold signL signN at hW; rw [if_neg (by simp), if_neg (by simpa using hb)] at hW
          (repeat' split at hW) <;> omega
        obtain ⟨g1, g2, g3⟩ := long_sign hW hw2 (qs ((b :: r0).drop w) ++ 34 :: post)
        have hq : qs (b :: r0) = (b :: r0).take w ++ qs ((b :: r0).drop w) := by
          conv => lhs; rw [← List.take_append_drop w (b :: r0)]
          rw [qs_app, qs_hi g2]
        obtain ⟨d1, d2⟩ := signL_width (l := (b :: r0).take w ++ (qs ((b :: r0).drop w) ++ 34 :: post)) (by rw [g3]; omega)
        rw [g3] at d1
        have htl : ((b :: r0).take w).length = w := by rw [List.length_take]; omega
        rw [hq, List.length_append, htl] at hf ⊢
        rw [List.append_assoc, quoGo, if_neg (by simp only [d2, false_or]; omega), d1]
        have hrune : 128 ≤ (Lib.decodeL ((b :: r0).take w ++ (qs ((b :: r0).drop w) ++ 34 :: post))).1 := by
          obtain ⟨w', rfl⟩ : ∃ w', w = w' + 1 := ⟨w - 1, by omega⟩
          rw [List.take_succ_cons, List.cons_append]
          exact decode_hi (by omega)
        rw [if_neg (by omega), if_neg (by omega), List.drop_append_of_le_length (by omega), List.drop_eq_nil_of_le (by omega : ((b :: r0).take w).length ≤ w), List.nil_append,
          List.take_append_of_le_length (by omega), List.take_of_length_le (by omega : ((b :: r0).take w).length ≤ w)]
        have hR' : rightText (t ++ (b :: r0).take w ++ (b :: r0).drop w) = true := by rw [List.append_assoc, List.take_append_drop]; exact hR
        have hdl : ((b :: r0).drop w).length = r0.length + 1 - w := by rw [List.length_drop, List.length_cons]
        rw [ih ((b :: r0).drop w) (t ++ (b :: r0).take w) (k + w) f' (by omega) t4 (by rw [List.length_append, htl, hdl]; rw [List.length_cons] at g1; omega) hR' (by omega)]
        rw [List.append_assoc, List.take_append_drop]
        congr 1; omega
end Go.Proofs.YthjphllpkcnehaaGreatDoor
end

section
/- Values of bytes: lists, and Decode. No statement of the program is proved here. -/
namespace Go.Proofs.YthjphllpkcnehaaGreatDoor
open Go Go.RowKit Go.Mor Go.Sh Go.Sh.Cd1
set_option maxRecDepth 100000
set_option maxHeartbeats 2000000
theorem dVal1_at {s : List UInt8} {a b : Int} {v : V} (hs : SmallS s) (h : dVal1 s a = .ok (v, b)) : I64 b ∧ v.l = [] := by
  unfold dVal1 at h
  cases hk : dNum s a 0 4 with
  | error e => rw [hk] at h; cases h
  | ok q =>
    obtain ⟨k, c⟩ := q
    rw [hk] at h
    have hc := (dNum_pos hs hk).1
    simp only [dRest] at h
    by_cases e1 : k = 1
    · rw [if_pos e1] at h
      cases hn : dNum s c (-1000000000000000) 1000000000000000 with
      | error e => rw [hn] at h; cases h
      | ok q => obtain ⟨n, c'⟩ := q; rw [hn] at h; cases h; exact ⟨(dNum_pos hs hn).1, rfl⟩
    rw [if_neg e1] at h
    by_cases e2 : k = 2
    · rw [if_pos e2] at h
      cases hn : dText s c with
      | error e => rw [hn] at h; cases h
      | ok q =>
        obtain ⟨n, c'⟩ := q
        rw [hn] at h; cases h
        unfold dText at hn
        cases hr : readText s c with
        | none => rw [hr] at hn; cases hn
        | some q =>
          obtain ⟨t', b'⟩ := q
          rw [hr] at hn
          have hb := readText_bound hr
          simp only [] at hn
          by_cases hh : rightText t' = true
          · rw [if_pos hh] at hn; cases hn
            unfold SmallS at hs
            refine ⟨by unfold I64; omega, rfl⟩
          · rw [if_neg hh] at hn; cases hn
    rw [if_neg e2] at h
    by_cases e3 : k = 3 ∨ k = 4
    · rw [if_pos e3] at h
      cases hn : dNum s c (-20) 100000 with
      | error e => rw [hn] at h; cases h
      | ok q =>
        obtain ⟨n, c'⟩ := q
        rw [hn] at h
        simp only [] at h
        by_cases hz : n = 0
        · rw [if_pos hz] at h; cases h
        · rw [if_neg hz] at h; cases h; exact ⟨(dNum_pos hs hn).1, rfl⟩
    rw [if_neg e3] at h; cases h
    exact ⟨hc, rfl⟩
theorem val4_ok (a0 a1 : Addr) (m : Nat) (s : List UInt8) (a : Int) (hs : SmallS s) (ha : I64 a) {v : V} {b : Int} (h : dVal1 s a = .ok (v, b)) :
    SCalls Tryz.prog (gl a0 a1 m) 59 [.ptr 1000 0, I 4] [dec s a] (.tuple [nv v, I 0]) [dec s b] := by
  unfold dVal1 at h
  cases hk : dNum s a 0 4 with
  | error e => rw [hk] at h; cases h
  | ok q =>
    obtain ⟨k, c⟩ := q
    rw [hk] at h
    exact value1_ok a0 a1 m s a 4 hs ha hk (by have := (dNum_inv hk).2; omega) h
theorem val4_err (a0 a1 : Addr) (m : Nat) (s : List UInt8) (a : Int) (hs : SmallS s) (ha : I64 a) {e : Int} (h : dVal1 s a = .error e) :
    (∃ c, SCalls Tryz.prog (gl a0 a1 m) 59 [.ptr 1000 0, I 4] [dec s a] (.tuple [nv V.nil, I e]) [dec s c]) ∧ e ≠ 0 := by
  unfold dVal1 at h
  cases hk : dNum s a 0 4 with
  | error e =>
    rw [hk] at h; cases h
    have := value_err0 a0 a1 m s a 4 hs ha hk
    exact ⟨⟨a, this.1⟩, this.2⟩
  | ok q =>
    obtain ⟨k, c⟩ := q
    rw [hk] at h
    exact value1_err a0 a1 m s a 4 hs ha hk (by have := (dNum_inv hk).2; omega) h
theorem pwk_rowV (l : List V) (v : V) (hv : v.l = []) : PWk (.sl 4 (V.rows l ++ [[.v (.int .i64 v.k), .v (.int .i64 v.n), .v (.string (str v.s)), .v (.slice none 0 0)]])) (.sl 4 (V.rows (l ++ [v]))) := by
  rw [rowsApp, rowNil hv]
  refine pwk_last rfl (fun j c d h1 h2 => ?_)
  match j with
  | 0 => simp at h1 h2; subst h1; subst h2; exact .refl _
  | 1 => simp at h1 h2; subst h1; subst h2; exact .refl _
  | 2 => simp at h1 h2; subst h1; subst h2; exact .refl _
  | 3 => simp at h1 h2; subst h1; subst h2; exact pwk_nil 4
  | j + 4 => simp at h1
theorem items_ok (a0 a1 : Addr) (m : Nat) (s : List UInt8) (a : Int) (hs : SmallS s) (ha : I64 a) {l : List V} {c : Int} (h : dItems s a = .ok (l, c)) :
    SCalls Tryz.prog (gl a0 a1 m) 114 [.ptr 1000 0] [dec s a] (.tuple [.pv (.sl 4 (V.rows l)), I 0]) [dec s c] := by
  unfold dItems at h
  cases hk : dNum s a 0 12 with
  | error e => rw [hk] at h; cases h
  | ok q =>
    obtain ⟨n, b⟩ := q
    rw [hk] at h
    simp only [] at h
    have HK := number_ok a0 a1 m s a 0 12 hs ha hk
    have hb := (dNum_pos hs hk).1
    have hn := (dNum_inv hk).2
    obtain ⟨N, rfl⟩ : ∃ N : Nat, n = N := ⟨n.toNat, by omega⟩
    rw [Int.toNat_natCast] at h
    have hm : maxLen = 9223372036854775807 := rfl
    refine call_of hmix tf___val_decoder__items rfl rfl rfl ?_
    unfold dec at HK ⊢
    simp only [vcA, Nat.reduceLT, Int.reduceEq, Int.reduceAdd, Int.reduceSub, Nat.reduceBEq, Nat.reduceEqDiff, reduceCtorEq, Nat.reduceAdd, Nat.reduceSub, Nat.reduceMul, Nat.reduceLeDiff, Int.reduceToNat, Int.reduceLT, Int.reduceLE, Int.reduceNeg, reduceIte, pvC_fgt, pvC_ids, pvC_ren, pvC_len, I, S, tv, nv, tyT, RawV.tv, R1.row, rowsGet, rowsLen, row4, Vk, Vn, Vs, Vl]
    (with_reducible apply v_call); (· simp only [vcA, Nat.reduceLT, Int.reduceEq, Int.reduceAdd, Int.reduceSub, Nat.reduceBEq, Nat.reduceEqDiff, reduceCtorEq, Nat.reduceAdd, Nat.reduceSub, Nat.reduceMul, Nat.reduceLeDiff, Int.reduceToNat, Int.reduceLT, Int.reduceLE, Int.reduceNeg, reduceIte, pvC_fgt, pvC_ids, pvC_ren, pvC_len, I, S, tv, nv, tyT, RawV.tv, R1.row, rowsGet, rowsLen, row4, Vk, Vn, Vs, Vl]; with_reducible rfl); (· exact HK); (· first | rfl | (simp only [moOk, nbeq, nble, List.length_nil, beq_self_eq_true, Bool.true_and, Bool.and_true, Bool.and_eq_true, decide_eq_true_eq]; omega)); (· simp only [vcA, Nat.reduceLT, Int.reduceEq, Int.reduceAdd, Int.reduceSub, Nat.reduceBEq, Nat.reduceEqDiff, reduceCtorEq, Nat.reduceAdd, Nat.reduceSub, Nat.reduceMul, Nat.reduceLeDiff, Int.reduceToNat, Int.reduceLT, Int.reduceLE, Int.reduceNeg, reduceIte, pvC_fgt, pvC_ids, pvC_ren, pvC_len, I, S, tv, nv, tyT, RawV.tv, R1.row, rowsGet, rowsLen, row4, Vk, Vn, Vs, Vl]; with_reducible rfl)
    simp only [vcA, Nat.reduceLT, Int.reduceEq, Int.reduceAdd, Int.reduceSub, Nat.reduceBEq, Nat.reduceEqDiff, reduceCtorEq, Nat.reduceAdd, Nat.reduceSub, Nat.reduceMul, Nat.reduceLeDiff, Int.reduceToNat, Int.reduceLT, Int.reduceLE, Int.reduceNeg, reduceIte, pvC_fgt, pvC_ids, pvC_ren, pvC_len, I, S, tv, nv, tyT, RawV.tv, R1.row, rowsGet, rowsLen, row4, Vk, Vn, Vs, Vl]
    refine v_loop (σ := { q : Nat × Int × List V // q.1 ≤ N ∧ q.2.2.length = q.1 ∧ I64 q.2.1 ∧ dLoop s (N - q.1) q.2.1 q.2.2 = .ok (l, c) })
      (fun q => ⟨[(0, .ptr 1000 0), (6, .own 3000 4 (V.rows q.1.2.2)), (17, I (N : Int)), (18, I (q.1.1 : Int))], [(1000, [S (str s), I q.1.2.1])], [(3000, (42, 4, q.1.1))], []⟩)
      (fun q => N - q.1.1) ⟨(0, b, []), Nat.zero_le _, rfl, hb, h⟩ ?_ ?_
    · refine ES.Lw.trans ?_ (adT_lw (k := 6) (d := 3000) (e := 42) (W := 4) (.inr (by decide)) rfl)
      exact lw_eq rfl
    rintro ⟨⟨i, a', l'⟩, hi, hl, ha', hd⟩
    simp only at hi hl ha' hd
    simp only [vcA, Nat.reduceLT, Int.reduceEq, Int.reduceAdd, Int.reduceSub, Nat.reduceBEq, Nat.reduceEqDiff, reduceCtorEq, Nat.reduceAdd, Nat.reduceSub, Nat.reduceMul, Nat.reduceLeDiff, Int.reduceToNat, Int.reduceLT, Int.reduceLE, Int.reduceNeg, reduceIte, pvC_fgt, pvC_ids, pvC_ren, pvC_len, I, S, tv, nv, tyT, RawV.tv, R1.row, rowsGet, rowsLen, row4, Vk, Vn, Vs, Vl]
    refine ⟨fun hlt => ?_, fun hge => ?_⟩
    · obtain ⟨r, hr⟩ : ∃ r, N - i = r + 1 := ⟨N - i - 1, by omega⟩
      have hr' : N - (i + 1) = r := by omega
      rw [hr] at hd
      simp only [dLoop] at hd
      rw [← hr'] at hd
      cases hv : dVal1 s a' with
      | error e => rw [hv] at hd; cases hd
      | ok q =>
      obtain ⟨v, b'⟩ := q
      · have HV := val4_ok a0 a1 m s a' hs ha' hv
        obtain ⟨hb', hvl⟩ := dVal1_at hs hv
        unfold dec at HV
        (with_reducible apply v_call); (· simp only [vcA, Nat.reduceLT, Int.reduceEq, Int.reduceAdd, Int.reduceSub, Nat.reduceBEq, Nat.reduceEqDiff, reduceCtorEq, Nat.reduceAdd, Nat.reduceSub, Nat.reduceMul, Nat.reduceLeDiff, Int.reduceToNat, Int.reduceLT, Int.reduceLE, Int.reduceNeg, reduceIte, pvC_fgt, pvC_ids, pvC_ren, pvC_len, I, S, tv, nv, tyT, RawV.tv, R1.row, rowsGet, rowsLen, row4, Vk, Vn, Vs, Vl]; with_reducible rfl); (· exact HV); (· first | rfl | (simp only [moOk, nbeq, nble, List.length_nil, beq_self_eq_true, Bool.true_and, Bool.and_true, Bool.and_eq_true, decide_eq_true_eq]; omega)); (· simp only [vcA, Nat.reduceLT, Int.reduceEq, Int.reduceAdd, Int.reduceSub, Nat.reduceBEq, Nat.reduceEqDiff, reduceCtorEq, Nat.reduceAdd, Nat.reduceSub, Nat.reduceMul, Nat.reduceLeDiff, Int.reduceToNat, Int.reduceLT, Int.reduceLE, Int.reduceNeg, reduceIte, pvC_fgt, pvC_ids, pvC_ren, pvC_len, I, S, tv, nv, tyT, RawV.tv, R1.row, rowsGet, rowsLen, row4, Vk, Vn, Vs, Vl]; with_reducible rfl)
        simp only [vcA, Nat.reduceLT, Int.reduceEq, Int.reduceAdd, Int.reduceSub, Nat.reduceBEq, Nat.reduceEqDiff, reduceCtorEq, Nat.reduceAdd, Nat.reduceSub, Nat.reduceMul, Nat.reduceLeDiff, Int.reduceToNat, Int.reduceLT, Int.reduceLE, Int.reduceNeg, reduceIte, pvC_fgt, pvC_ids, pvC_ren, pvC_len, I, S, tv, nv, tyT, RawV.tv, R1.row, rowsGet, rowsLen, row4, Vk, Vn, Vs, Vl, hl]
        refine ⟨⟨by omega, by omega⟩, ?_⟩
        refine loopK_of ⟨(i + 1, b', l' ++ [v]), by show i + 1 ≤ N; omega, by simp [hl], hb', by rw [hv] at hd; exact hd⟩ (by show N - (i + 1) < N - i; omega) ?_
        have w1 : IntKind.i64.wrap ((i : Int) + 1) = (i : Int) + 1 := wrap64 (by omega) (by omega)
        refine ES.Lw.trans ?_ (reT_lw (k := 6) (y := .own 3000 4 (V.rows (l' ++ [v]))) rfl (wk_own (by simp [rowsLen]) (pwk_rowV l' v hvl)))
        apply lw_of <;> simp [leL, lk, sv, Nat.beq, I, S, ES.kill, has, drp, nilT, w1]
    · obtain rfl : i = N := by omega
      rw [Nat.sub_self] at hd
      cases hd
      rfl
/-- A loop that stops at a value that is none, at the place c. -/
def Stops (a0 a1 : Addr) (m : Nat) (s : List UInt8) (e c : Int) : Nat → Int → List V → Prop
  | 0, _, _ => False
  | n + 1, a, l => (∃ v b, dVal1 s a = .ok (v, b) ∧ Stops a0 a1 m s e c n b (l ++ [v])) ∨ SCalls Tryz.prog (gl a0 a1 m) 59 [.ptr 1000 0, I 4] [dec s a] (.tuple [nv V.nil, I e]) [dec s c]
theorem dLoop_err (a0 a1 : Addr) (m : Nat) (s : List UInt8) (hs : SmallS s) {e : Int} : ∀ (n : Nat) (a : Int) (l : List V), I64 a → dLoop s n a l = .error e → ∃ c, Stops a0 a1 m s e c n a l ∧ e ≠ 0
  | 0, a, l, _, h => by simp [dLoop] at h
  | n + 1, a, l, ha, h => by
    simp only [dLoop] at h
    cases hv : dVal1 s a with
    | error e' =>
      rw [hv] at h; cases h
      obtain ⟨⟨c, hc⟩, he⟩ := val4_err a0 a1 m s a hs ha hv
      exact ⟨c, .inr hc, he⟩
    | ok q =>
      obtain ⟨v, b⟩ := q
      rw [hv] at h
      obtain ⟨c, hc, he⟩ := dLoop_err a0 a1 m s hs n b (l ++ [v]) (dVal1_at hs hv).1 h
      exact ⟨c, .inl ⟨v, b, hv, hc⟩, he⟩
theorem items_err (a0 a1 : Addr) (m : Nat) (s : List UInt8) (a : Int) (hs : SmallS s) (ha : I64 a) {e : Int} (h : dItems s a = .error e) :
    (∃ c, SCalls Tryz.prog (gl a0 a1 m) 114 [.ptr 1000 0] [dec s a] (.tuple [nilT, I e]) [dec s c]) ∧ e ≠ 0 := by
  unfold dItems at h
  cases hk : dNum s a 0 12 with
  | error e =>
    rw [hk] at h; cases h
    have HK := number_err a0 a1 m s a 0 12 hs ha hk
    refine ⟨⟨a, call_of hmix tf___val_decoder__items rfl rfl rfl ?_⟩, HK.2⟩
    unfold dec at HK ⊢
    simp only [vcA, Nat.reduceLT, Int.reduceEq, Int.reduceAdd, Int.reduceSub, Nat.reduceBEq, Nat.reduceEqDiff, reduceCtorEq, Nat.reduceAdd, Nat.reduceSub, Nat.reduceMul, Nat.reduceLeDiff, Int.reduceToNat, Int.reduceLT, Int.reduceLE, Int.reduceNeg, reduceIte, pvC_fgt, pvC_ids, pvC_ren, pvC_len, I, S, tv, nv, tyT, RawV.tv, R1.row, rowsGet, rowsLen, row4, Vk, Vn, Vs, Vl]
    (with_reducible apply v_call); (· simp only [vcA, Nat.reduceLT, Int.reduceEq, Int.reduceAdd, Int.reduceSub, Nat.reduceBEq, Nat.reduceEqDiff, reduceCtorEq, Nat.reduceAdd, Nat.reduceSub, Nat.reduceMul, Nat.reduceLeDiff, Int.reduceToNat, Int.reduceLT, Int.reduceLE, Int.reduceNeg, reduceIte, pvC_fgt, pvC_ids, pvC_ren, pvC_len, I, S, tv, nv, tyT, RawV.tv, R1.row, rowsGet, rowsLen, row4, Vk, Vn, Vs, Vl]; with_reducible rfl); (· exact HK.1); (· first | rfl | (simp only [moOk, nbeq, nble, List.length_nil, beq_self_eq_true, Bool.true_and, Bool.and_true, Bool.and_eq_true, decide_eq_true_eq]; omega)); (· simp only [vcA, Nat.reduceLT, Int.reduceEq, Int.reduceAdd, Int.reduceSub, Nat.reduceBEq, Nat.reduceEqDiff, reduceCtorEq, Nat.reduceAdd, Nat.reduceSub, Nat.reduceMul, Nat.reduceLeDiff, Int.reduceToNat, Int.reduceLT, Int.reduceLE, Int.reduceNeg, reduceIte, pvC_fgt, pvC_ids, pvC_ren, pvC_len, I, S, tv, nv, tyT, RawV.tv, R1.row, rowsGet, rowsLen, row4, Vk, Vn, Vs, Vl]; with_reducible rfl)
    simp only [vcA, Nat.reduceLT, Int.reduceEq, Int.reduceAdd, Int.reduceSub, Nat.reduceBEq, Nat.reduceEqDiff, reduceCtorEq, Nat.reduceAdd, Nat.reduceSub, Nat.reduceMul, Nat.reduceLeDiff, Int.reduceToNat, Int.reduceLT, Int.reduceLE, Int.reduceNeg, reduceIte, pvC_fgt, pvC_ids, pvC_ren, pvC_len, I, S, tv, nv, tyT, RawV.tv, R1.row, rowsGet, rowsLen, row4, Vk, Vn, Vs, Vl, HK.2]
    rfl
  | ok q =>
    obtain ⟨n, b⟩ := q
    rw [hk] at h
    simp only [] at h
    have HK := number_ok a0 a1 m s a 0 12 hs ha hk
    have hb := (dNum_pos hs hk).1
    have hn := (dNum_inv hk).2
    obtain ⟨N, rfl⟩ : ∃ N : Nat, n = N := ⟨n.toNat, by omega⟩
    rw [Int.toNat_natCast] at h
    have hm : maxLen = 9223372036854775807 := rfl
    obtain ⟨c, HE, he⟩ := dLoop_err a0 a1 m s hs N b [] hb h
    refine ⟨⟨c, call_of hmix tf___val_decoder__items rfl rfl rfl ?_⟩, he⟩
    unfold dec at HK ⊢
    simp only [vcA, Nat.reduceLT, Int.reduceEq, Int.reduceAdd, Int.reduceSub, Nat.reduceBEq, Nat.reduceEqDiff, reduceCtorEq, Nat.reduceAdd, Nat.reduceSub, Nat.reduceMul, Nat.reduceLeDiff, Int.reduceToNat, Int.reduceLT, Int.reduceLE, Int.reduceNeg, reduceIte, pvC_fgt, pvC_ids, pvC_ren, pvC_len, I, S, tv, nv, tyT, RawV.tv, R1.row, rowsGet, rowsLen, row4, Vk, Vn, Vs, Vl]
    (with_reducible apply v_call); (· simp only [vcA, Nat.reduceLT, Int.reduceEq, Int.reduceAdd, Int.reduceSub, Nat.reduceBEq, Nat.reduceEqDiff, reduceCtorEq, Nat.reduceAdd, Nat.reduceSub, Nat.reduceMul, Nat.reduceLeDiff, Int.reduceToNat, Int.reduceLT, Int.reduceLE, Int.reduceNeg, reduceIte, pvC_fgt, pvC_ids, pvC_ren, pvC_len, I, S, tv, nv, tyT, RawV.tv, R1.row, rowsGet, rowsLen, row4, Vk, Vn, Vs, Vl]; with_reducible rfl); (· exact HK); (· first | rfl | (simp only [moOk, nbeq, nble, List.length_nil, beq_self_eq_true, Bool.true_and, Bool.and_true, Bool.and_eq_true, decide_eq_true_eq]; omega)); (· simp only [vcA, Nat.reduceLT, Int.reduceEq, Int.reduceAdd, Int.reduceSub, Nat.reduceBEq, Nat.reduceEqDiff, reduceCtorEq, Nat.reduceAdd, Nat.reduceSub, Nat.reduceMul, Nat.reduceLeDiff, Int.reduceToNat, Int.reduceLT, Int.reduceLE, Int.reduceNeg, reduceIte, pvC_fgt, pvC_ids, pvC_ren, pvC_len, I, S, tv, nv, tyT, RawV.tv, R1.row, rowsGet, rowsLen, row4, Vk, Vn, Vs, Vl]; with_reducible rfl)
    simp only [vcA, Nat.reduceLT, Int.reduceEq, Int.reduceAdd, Int.reduceSub, Nat.reduceBEq, Nat.reduceEqDiff, reduceCtorEq, Nat.reduceAdd, Nat.reduceSub, Nat.reduceMul, Nat.reduceLeDiff, Int.reduceToNat, Int.reduceLT, Int.reduceLE, Int.reduceNeg, reduceIte, pvC_fgt, pvC_ids, pvC_ren, pvC_len, I, S, tv, nv, tyT, RawV.tv, R1.row, rowsGet, rowsLen, row4, Vk, Vn, Vs, Vl]
    refine v_loop (σ := { q : Nat × Int × List V // q.1 ≤ N ∧ q.2.2.length = q.1 ∧ I64 q.2.1 ∧ Stops a0 a1 m s e c (N - q.1) q.2.1 q.2.2 })
      (fun q => ⟨[(0, .ptr 1000 0), (6, .own 3000 4 (V.rows q.1.2.2)), (17, I (N : Int)), (18, I (q.1.1 : Int))], [(1000, [S (str s), I q.1.2.1])], [(3000, (42, 4, q.1.1))], []⟩)
      (fun q => N - q.1.1) ⟨(0, b, []), Nat.zero_le _, rfl, hb, HE⟩ ?_ ?_
    · refine ES.Lw.trans ?_ (adT_lw (k := 6) (d := 3000) (e := 42) (W := 4) (.inr (by decide)) rfl)
      exact lw_eq rfl
    rintro ⟨⟨i, a', l'⟩, hi, hl, ha', hd⟩
    simp only at hi hl ha' hd
    simp only [vcA, Nat.reduceLT, Int.reduceEq, Int.reduceAdd, Int.reduceSub, Nat.reduceBEq, Nat.reduceEqDiff, reduceCtorEq, Nat.reduceAdd, Nat.reduceSub, Nat.reduceMul, Nat.reduceLeDiff, Int.reduceToNat, Int.reduceLT, Int.reduceLE, Int.reduceNeg, reduceIte, pvC_fgt, pvC_ids, pvC_ren, pvC_len, I, S, tv, nv, tyT, RawV.tv, R1.row, rowsGet, rowsLen, row4, Vk, Vn, Vs, Vl]
    refine ⟨fun hlt => ?_, fun hge => ?_⟩
    · obtain ⟨r, hr⟩ : ∃ r, N - i = r + 1 := ⟨N - i - 1, by omega⟩
      have hr' : N - (i + 1) = r := by omega
      rw [hr] at hd
      simp only [Stops] at hd
      rw [← hr'] at hd
      rcases hd with ⟨v, b', hv, hd⟩ | HV
      · have HV := val4_ok a0 a1 m s a' hs ha' hv
        obtain ⟨hb', hvl⟩ := dVal1_at hs hv
        unfold dec at HV
        (with_reducible apply v_call); (· simp only [vcA, Nat.reduceLT, Int.reduceEq, Int.reduceAdd, Int.reduceSub, Nat.reduceBEq, Nat.reduceEqDiff, reduceCtorEq, Nat.reduceAdd, Nat.reduceSub, Nat.reduceMul, Nat.reduceLeDiff, Int.reduceToNat, Int.reduceLT, Int.reduceLE, Int.reduceNeg, reduceIte, pvC_fgt, pvC_ids, pvC_ren, pvC_len, I, S, tv, nv, tyT, RawV.tv, R1.row, rowsGet, rowsLen, row4, Vk, Vn, Vs, Vl]; with_reducible rfl); (· exact HV); (· first | rfl | (simp only [moOk, nbeq, nble, List.length_nil, beq_self_eq_true, Bool.true_and, Bool.and_true, Bool.and_eq_true, decide_eq_true_eq]; omega)); (· simp only [vcA, Nat.reduceLT, Int.reduceEq, Int.reduceAdd, Int.reduceSub, Nat.reduceBEq, Nat.reduceEqDiff, reduceCtorEq, Nat.reduceAdd, Nat.reduceSub, Nat.reduceMul, Nat.reduceLeDiff, Int.reduceToNat, Int.reduceLT, Int.reduceLE, Int.reduceNeg, reduceIte, pvC_fgt, pvC_ids, pvC_ren, pvC_len, I, S, tv, nv, tyT, RawV.tv, R1.row, rowsGet, rowsLen, row4, Vk, Vn, Vs, Vl]; with_reducible rfl)
        simp only [vcA, Nat.reduceLT, Int.reduceEq, Int.reduceAdd, Int.reduceSub, Nat.reduceBEq, Nat.reduceEqDiff, reduceCtorEq, Nat.reduceAdd, Nat.reduceSub, Nat.reduceMul, Nat.reduceLeDiff, Int.reduceToNat, Int.reduceLT, Int.reduceLE, Int.reduceNeg, reduceIte, pvC_fgt, pvC_ids, pvC_ren, pvC_len, I, S, tv, nv, tyT, RawV.tv, R1.row, rowsGet, rowsLen, row4, Vk, Vn, Vs, Vl, hl]
        refine ⟨⟨by omega, by omega⟩, ?_⟩
        refine loopK_of ⟨(i + 1, b', l' ++ [v]), by show i + 1 ≤ N; omega, by simp [hl], hb', hd⟩ (by show N - (i + 1) < N - i; omega) ?_
        have w1 : IntKind.i64.wrap ((i : Int) + 1) = (i : Int) + 1 := wrap64 (by omega) (by omega)
        refine ES.Lw.trans ?_ (reT_lw (k := 6) (y := .own 3000 4 (V.rows (l' ++ [v]))) rfl (wk_own (by simp [rowsLen]) (pwk_rowV l' v hvl)))
        apply lw_of <;> simp [leL, lk, sv, Nat.beq, I, S, ES.kill, has, drp, nilT, w1]
      · unfold dec at HV
        (with_reducible apply v_call); (· simp only [vcA, Nat.reduceLT, Int.reduceEq, Int.reduceAdd, Int.reduceSub, Nat.reduceBEq, Nat.reduceEqDiff, reduceCtorEq, Nat.reduceAdd, Nat.reduceSub, Nat.reduceMul, Nat.reduceLeDiff, Int.reduceToNat, Int.reduceLT, Int.reduceLE, Int.reduceNeg, reduceIte, pvC_fgt, pvC_ids, pvC_ren, pvC_len, I, S, tv, nv, tyT, RawV.tv, R1.row, rowsGet, rowsLen, row4, Vk, Vn, Vs, Vl]; with_reducible rfl); (· exact HV); (· first | rfl | (simp only [moOk, nbeq, nble, List.length_nil, beq_self_eq_true, Bool.true_and, Bool.and_true, Bool.and_eq_true, decide_eq_true_eq]; omega)); (· simp only [vcA, Nat.reduceLT, Int.reduceEq, Int.reduceAdd, Int.reduceSub, Nat.reduceBEq, Nat.reduceEqDiff, reduceCtorEq, Nat.reduceAdd, Nat.reduceSub, Nat.reduceMul, Nat.reduceLeDiff, Int.reduceToNat, Int.reduceLT, Int.reduceLE, Int.reduceNeg, reduceIte, pvC_fgt, pvC_ids, pvC_ren, pvC_len, I, S, tv, nv, tyT, RawV.tv, R1.row, rowsGet, rowsLen, row4, Vk, Vn, Vs, Vl]; with_reducible rfl)
        simp only [vcA, Nat.reduceLT, Int.reduceEq, Int.reduceAdd, Int.reduceSub, Nat.reduceBEq, Nat.reduceEqDiff, reduceCtorEq, Nat.reduceAdd, Nat.reduceSub, Nat.reduceMul, Nat.reduceLeDiff, Int.reduceToNat, Int.reduceLT, Int.reduceLE, Int.reduceNeg, reduceIte, pvC_fgt, pvC_ids, pvC_ren, pvC_len, I, S, tv, nv, tyT, RawV.tv, R1.row, rowsGet, rowsLen, row4, Vk, Vn, Vs, Vl, he, nilT]
    · obtain rfl : i = N := by omega
      rw [Nat.sub_self] at hd
      exact hd.elim
end Go.Proofs.YthjphllpkcnehaaGreatDoor
end

section
/- Reading lists of values: the program's items. No statement of the program is proved here. -/
namespace Go.Proofs.YthjphllpkcnehaaGreatDoor
open Go Go.RowKit Go.Mor Go.Sh Go.Sh.Cd1
set_option maxRecDepth 100000
set_option maxHeartbeats 4000000
theorem partV_l (l : List UInt8) : (partV l).1.l = [] := by
  unfold partV; (repeat' split) <;> rfl
/-- Where a list's next value stands. -/
def nextA (l : List UInt8) (a : Nat) (acc : List V) : Option Nat := if acc = [] then some a else if sgnS 32 (l.drop a) = 1 then some (a + 1) else none
def itemsGo (l : List UInt8) : Nat → Nat → List V → Option (List V × Nat)
  | 0, _, _ => none
  | n + 1, a, acc => if sgnS 93 (l.drop a) = 1 then some (acc, a + 1) else match nextA l a acc with
    | none => none
    | some a' => if (partV (l.drop a')).2 = 0 ∨ (partV (l.drop a')).1.k = 5 ∨ acc.length = 12 then none
      else itemsGo l n (a' + (partV (l.drop a')).2) (acc ++ [(partV (l.drop a')).1])
theorem ritems_ok (a0 a1 : Addr) (m : Nat) (l : List UInt8) (a : Nat) (hl : l.length < 1125899906842624) (ha : a ≤ l.length) {r : List V} {p : Nat} (h : itemsGo l 13 a [] = some (r, p)) :
    SCalls Tryz.prog (gl a0 a1 m) 57 [.fn (.func 104) [] [.ptr 1000 0, .ptr 1001 0]] [.box [S (str l)], .box [I (a : Int)]] (.tuple [.pv (.sl 4 (V.rows r)), I (p : Int), .pv (.v (.bool true))]) [.box [S (str l)], .box [I (p : Int)]] := by
  have hm : maxLen = 9223372036854775807 := rfl
  refine call_of hmix tf_val_items rfl rfl rfl ?_
  simp only [vcA, Nat.reduceLT, Int.reduceEq, Int.reduceAdd, Int.reduceSub, Nat.reduceBEq, Nat.reduceEqDiff, reduceCtorEq, Nat.reduceAdd, Nat.reduceSub, Nat.reduceMul, Nat.reduceLeDiff, Int.reduceToNat, Int.reduceLT, Int.reduceLE, Int.reduceNeg, reduceIte, pvC_fgt, pvC_ids, pvC_ren, pvC_len, I, S, tv, nv, tyT, RawV.tv, R1.row, rowsGet, rowsLen, row4, Vk, Vn, Vs, Vl]
  refine v_loop (σ := { q : Nat × Nat × List V // q.2.1 ≤ l.length ∧ q.2.2.length + q.1 = 13 ∧ itemsGo l q.1 q.2.1 q.2.2 = some (r, p) })
    (fun q => ⟨[(0, .fn (.func 104) [] [.ptr 1000 0, .ptr 1001 0]), (5, .own 3000 4 (V.rows q.1.2.2))], [(1000, [S (str l)]), (1001, [I (q.1.2.1 : Int)])], [(3000, (42, 4, q.1.2.2.length))], []⟩)
    (fun q => q.1.1) ⟨(13, a, []), ha, rfl, h⟩ ?_ ?_
  · refine ES.Lw.trans ?_ (adT_lw (k := 5) (d := 3000) (e := 42) (W := 4) (.inr (by decide)) rfl)
    exact lw_eq rfl
  rintro ⟨⟨n, a, acc⟩, ha, hn, hd⟩
  simp only at ha hn hd
  cases n with
  | zero => simp [itemsGo] at hd
  | succ n =>
  rw [itemsGo] at hd
  have M93 := mkSign_ok (gl a0 a1 m) 93
  have M32 := mkSign_ok (gl a0 a1 m) 32
  have T93 := takeS_ok a0 a1 m l a 93 hl ha
  have T32 := takeS_ok a0 a1 m l a 32 hl ha
  have b93 : sgnS 93 (l.drop a) = 0 ∨ sgnS 93 (l.drop a) = 1 := by unfold sgnS; split <;> simp
  have b32 : sgnS 32 (l.drop a) = 0 ∨ sgnS 32 (l.drop a) = 1 := by unfold sgnS; split <;> simp
  simp only [vcA, Nat.reduceLT, Int.reduceEq, Int.reduceAdd, Int.reduceSub, Nat.reduceBEq, Nat.reduceEqDiff, reduceCtorEq, Nat.reduceAdd, Nat.reduceSub, Nat.reduceMul, Nat.reduceLeDiff, Int.reduceToNat, Int.reduceLT, Int.reduceLE, Int.reduceNeg, reduceIte, pvC_fgt, pvC_ids, pvC_ren, pvC_len, I, S, tv, nv, tyT, RawV.tv, R1.row, rowsGet, rowsLen, row4, Vk, Vn, Vs, Vl]
  (with_reducible apply v_call); (· simp only [vcA, Nat.reduceLT, Int.reduceEq, Int.reduceAdd, Int.reduceSub, Nat.reduceBEq, Nat.reduceEqDiff, reduceCtorEq, Nat.reduceAdd, Nat.reduceSub, Nat.reduceMul, Nat.reduceLeDiff, Int.reduceToNat, Int.reduceLT, Int.reduceLE, Int.reduceNeg, reduceIte, pvC_fgt, pvC_ids, pvC_ren, pvC_len, I, S, tv, nv, tyT, RawV.tv, R1.row, rowsGet, rowsLen, row4, Vk, Vn, Vs, Vl, i32]; with_reducible rfl); (· exact M93); (· first | rfl | (simp only [moOk, nbeq, nble, List.length_nil, beq_self_eq_true, Bool.true_and, Bool.and_true, Bool.and_eq_true, decide_eq_true_eq]; omega)); (· simp only [vcA, Nat.reduceLT, Int.reduceEq, Int.reduceAdd, Int.reduceSub, Nat.reduceBEq, Nat.reduceEqDiff, reduceCtorEq, Nat.reduceAdd, Nat.reduceSub, Nat.reduceMul, Nat.reduceLeDiff, Int.reduceToNat, Int.reduceLT, Int.reduceLE, Int.reduceNeg, reduceIte, pvC_fgt, pvC_ids, pvC_ren, pvC_len, I, S, tv, nv, tyT, RawV.tv, R1.row, rowsGet, rowsLen, row4, Vk, Vn, Vs, Vl, i32]; with_reducible rfl)
  by_cases h93 : sgnS 93 (l.drop a) = 1
  · rw [if_pos h93] at hd
    cases hd
    rw [h93] at T93
    (with_reducible apply v_callv); (· simp only [vcA, Nat.reduceLT, Int.reduceEq, Int.reduceAdd, Int.reduceSub, Nat.reduceBEq, Nat.reduceEqDiff, reduceCtorEq, Nat.reduceAdd, Nat.reduceSub, Nat.reduceMul, Nat.reduceLeDiff, Int.reduceToNat, Int.reduceLT, Int.reduceLE, Int.reduceNeg, reduceIte, pvC_fgt, pvC_ids, pvC_ren, pvC_len, I, S, tv, nv, tyT, RawV.tv, R1.row, rowsGet, rowsLen, row4, Vk, Vn, Vs, Vl, i32, V.nil]; with_reducible rfl); (· exact T93); (· rfl); (· simp only [vcA, Nat.reduceLT, Int.reduceEq, Int.reduceAdd, Int.reduceSub, Nat.reduceBEq, Nat.reduceEqDiff, reduceCtorEq, Nat.reduceAdd, Nat.reduceSub, Nat.reduceMul, Nat.reduceLeDiff, Int.reduceToNat, Int.reduceLT, Int.reduceLE, Int.reduceNeg, reduceIte, pvC_fgt, pvC_ids, pvC_ren, pvC_len, I, S, tv, nv, tyT, RawV.tv, R1.row, rowsGet, rowsLen, row4, Vk, Vn, Vs, Vl, i32, V.nil]; with_reducible rfl)
    simp only [vcA, Nat.reduceLT, Int.reduceEq, Int.reduceAdd, Int.reduceSub, Nat.reduceBEq, Nat.reduceEqDiff, reduceCtorEq, Nat.reduceAdd, Nat.reduceSub, Nat.reduceMul, Nat.reduceLeDiff, Int.reduceToNat, Int.reduceLT, Int.reduceLE, Int.reduceNeg, reduceIte, pvC_fgt, pvC_ids, pvC_ren, pvC_len, I, S, tv, nv, tyT, RawV.tv, R1.row, rowsGet, rowsLen, row4, Vk, Vn, Vs, Vl]
    rfl
  · have z93 : sgnS 93 (l.drop a) = 0 := by omega
    rw [if_neg h93] at hd
    rw [z93, Int.add_zero] at T93
    (with_reducible apply v_callv); (· simp only [vcA, Nat.reduceLT, Int.reduceEq, Int.reduceAdd, Int.reduceSub, Nat.reduceBEq, Nat.reduceEqDiff, reduceCtorEq, Nat.reduceAdd, Nat.reduceSub, Nat.reduceMul, Nat.reduceLeDiff, Int.reduceToNat, Int.reduceLT, Int.reduceLE, Int.reduceNeg, reduceIte, pvC_fgt, pvC_ids, pvC_ren, pvC_len, I, S, tv, nv, tyT, RawV.tv, R1.row, rowsGet, rowsLen, row4, Vk, Vn, Vs, Vl, i32, V.nil]; with_reducible rfl); (· exact T93); (· rfl); (· simp only [vcA, Nat.reduceLT, Int.reduceEq, Int.reduceAdd, Int.reduceSub, Nat.reduceBEq, Nat.reduceEqDiff, reduceCtorEq, Nat.reduceAdd, Nat.reduceSub, Nat.reduceMul, Nat.reduceLeDiff, Int.reduceToNat, Int.reduceLT, Int.reduceLE, Int.reduceNeg, reduceIte, pvC_fgt, pvC_ids, pvC_ren, pvC_len, I, S, tv, nv, tyT, RawV.tv, R1.row, rowsGet, rowsLen, row4, Vk, Vn, Vs, Vl, i32, V.nil]; with_reducible rfl)
    unfold nextA at hd
    by_cases hacc : acc = []
    · rw [if_pos hacc] at hd
      simp only [] at hd
      have hal : acc.length = 0 := by rw [hacc]; rfl
      have d0 : ¬ (0 : Int) < (acc.length : Int) := by omega
      simp only [vcA, Nat.reduceLT, Int.reduceEq, Int.reduceAdd, Int.reduceSub, Nat.reduceBEq, Nat.reduceEqDiff, reduceCtorEq, Nat.reduceAdd, Nat.reduceSub, Nat.reduceMul, Nat.reduceLeDiff, Int.reduceToNat, Int.reduceLT, Int.reduceLE, Int.reduceNeg, reduceIte, pvC_fgt, pvC_ids, pvC_ren, pvC_len, I, S, tv, nv, tyT, RawV.tv, R1.row, rowsGet, rowsLen, row4, Vk, Vn, Vs, Vl, d0]
      have HV := takeV_ok a0 a1 m l a hl ha
      have hvl := partV_l (l.drop (a))
      have hple := partV_le (l.drop (a))
      rw [List.length_drop] at hple
      generalize partV (l.drop (a)) = q at *
      by_cases hbad : q.2 = 0 ∨ q.1.k = 5 ∨ acc.length = 12
      · rw [if_pos hbad] at hd; cases hd
      rw [if_neg hbad] at hd
      have d1 : (0 : Int) < (q.2 : Int) := by omega
      have d2 : ¬ q.1.k = 5 := by omega
      have d3 : ¬ (acc.length : Int) = 12 := by omega
      (with_reducible apply v_callv); (· simp only [vcA, Nat.reduceLT, Int.reduceEq, Int.reduceAdd, Int.reduceSub, Nat.reduceBEq, Nat.reduceEqDiff, reduceCtorEq, Nat.reduceAdd, Nat.reduceSub, Nat.reduceMul, Nat.reduceLeDiff, Int.reduceToNat, Int.reduceLT, Int.reduceLE, Int.reduceNeg, reduceIte, pvC_fgt, pvC_ids, pvC_ren, pvC_len, I, S, tv, nv, tyT, RawV.tv, R1.row, rowsGet, rowsLen, row4, Vk, Vn, Vs, Vl]; with_reducible rfl); (· exact HV); (· rfl); (· simp only [vcA, Nat.reduceLT, Int.reduceEq, Int.reduceAdd, Int.reduceSub, Nat.reduceBEq, Nat.reduceEqDiff, reduceCtorEq, Nat.reduceAdd, Nat.reduceSub, Nat.reduceMul, Nat.reduceLeDiff, Int.reduceToNat, Int.reduceLT, Int.reduceLE, Int.reduceNeg, reduceIte, pvC_fgt, pvC_ids, pvC_ren, pvC_len, I, S, tv, nv, tyT, RawV.tv, R1.row, rowsGet, rowsLen, row4, Vk, Vn, Vs, Vl]; with_reducible rfl)
      simp only [vcA, Nat.reduceLT, Int.reduceEq, Int.reduceAdd, Int.reduceSub, Nat.reduceBEq, Nat.reduceEqDiff, reduceCtorEq, Nat.reduceAdd, Nat.reduceSub, Nat.reduceMul, Nat.reduceLeDiff, Int.reduceToNat, Int.reduceLT, Int.reduceLE, Int.reduceNeg, reduceIte, pvC_fgt, pvC_ids, pvC_ren, pvC_len, I, S, tv, nv, tyT, RawV.tv, R1.row, rowsGet, rowsLen, row4, Vk, Vn, Vs, Vl, d1, d2, d3]
      refine ⟨⟨by omega, by omega⟩, ?_⟩
      refine loopK_of ⟨(n, a + q.2, acc ++ [q.1]), by show a + q.2 ≤ l.length; omega, by show (acc ++ [q.1]).length + n = 13; simp; omega, hd⟩ (by show n < n + 1; omega) ?_
      refine ES.Lw.trans ?_ (reT_lw (k := 5) (y := .own 3000 4 (V.rows (acc ++ [q.1]))) rfl (wk_own (by simp [rowsLen]) (pwk_rowV acc q.1 hvl)))
      apply lw_of <;> simp [leL, lk, sv, Nat.beq, I, S, ES.kill, has, drp, nilT]
    · rw [if_neg hacc] at hd
      have hal : 0 < acc.length := List.length_pos_iff.2 hacc
      have d0 : (0 : Int) < (acc.length : Int) := by omega
      by_cases h32 : sgnS 32 (l.drop a) = 1
      · rw [if_pos h32] at hd
        simp only [] at hd
        have ha1 : a + 1 ≤ l.length := by
          have : l.drop a ≠ [] := by
            intro h0
            unfold sgnS at h32
            rw [if_neg (fun h => h.1 h0)] at h32; cases h32
          rw [Ne, List.drop_eq_nil_iff] at this; omega
        rw [h32, show (a : Int) + 1 = ((a + 1 : Nat) : Int) by omega] at T32
        simp only [vcA, Nat.reduceLT, Int.reduceEq, Int.reduceAdd, Int.reduceSub, Nat.reduceBEq, Nat.reduceEqDiff, reduceCtorEq, Nat.reduceAdd, Nat.reduceSub, Nat.reduceMul, Nat.reduceLeDiff, Int.reduceToNat, Int.reduceLT, Int.reduceLE, Int.reduceNeg, reduceIte, pvC_fgt, pvC_ids, pvC_ren, pvC_len, I, S, tv, nv, tyT, RawV.tv, R1.row, rowsGet, rowsLen, row4, Vk, Vn, Vs, Vl, d0]
        (with_reducible apply v_call); (· simp only [vcA, Nat.reduceLT, Int.reduceEq, Int.reduceAdd, Int.reduceSub, Nat.reduceBEq, Nat.reduceEqDiff, reduceCtorEq, Nat.reduceAdd, Nat.reduceSub, Nat.reduceMul, Nat.reduceLeDiff, Int.reduceToNat, Int.reduceLT, Int.reduceLE, Int.reduceNeg, reduceIte, pvC_fgt, pvC_ids, pvC_ren, pvC_len, I, S, tv, nv, tyT, RawV.tv, R1.row, rowsGet, rowsLen, row4, Vk, Vn, Vs, Vl, i32]; with_reducible rfl); (· exact M32); (· first | rfl | (simp only [moOk, nbeq, nble, List.length_nil, beq_self_eq_true, Bool.true_and, Bool.and_true, Bool.and_eq_true, decide_eq_true_eq]; omega)); (· simp only [vcA, Nat.reduceLT, Int.reduceEq, Int.reduceAdd, Int.reduceSub, Nat.reduceBEq, Nat.reduceEqDiff, reduceCtorEq, Nat.reduceAdd, Nat.reduceSub, Nat.reduceMul, Nat.reduceLeDiff, Int.reduceToNat, Int.reduceLT, Int.reduceLE, Int.reduceNeg, reduceIte, pvC_fgt, pvC_ids, pvC_ren, pvC_len, I, S, tv, nv, tyT, RawV.tv, R1.row, rowsGet, rowsLen, row4, Vk, Vn, Vs, Vl, i32]; with_reducible rfl)
        (with_reducible apply v_callv); (· simp only [vcA, Nat.reduceLT, Int.reduceEq, Int.reduceAdd, Int.reduceSub, Nat.reduceBEq, Nat.reduceEqDiff, reduceCtorEq, Nat.reduceAdd, Nat.reduceSub, Nat.reduceMul, Nat.reduceLeDiff, Int.reduceToNat, Int.reduceLT, Int.reduceLE, Int.reduceNeg, reduceIte, pvC_fgt, pvC_ids, pvC_ren, pvC_len, I, S, tv, nv, tyT, RawV.tv, R1.row, rowsGet, rowsLen, row4, Vk, Vn, Vs, Vl, i32, V.nil]; with_reducible rfl); (· exact T32); (· rfl); (· simp only [vcA, Nat.reduceLT, Int.reduceEq, Int.reduceAdd, Int.reduceSub, Nat.reduceBEq, Nat.reduceEqDiff, reduceCtorEq, Nat.reduceAdd, Nat.reduceSub, Nat.reduceMul, Nat.reduceLeDiff, Int.reduceToNat, Int.reduceLT, Int.reduceLE, Int.reduceNeg, reduceIte, pvC_fgt, pvC_ids, pvC_ren, pvC_len, I, S, tv, nv, tyT, RawV.tv, R1.row, rowsGet, rowsLen, row4, Vk, Vn, Vs, Vl, i32, V.nil]; with_reducible rfl)
        simp only [vcA, Nat.reduceLT, Int.reduceEq, Int.reduceAdd, Int.reduceSub, Nat.reduceBEq, Nat.reduceEqDiff, reduceCtorEq, Nat.reduceAdd, Nat.reduceSub, Nat.reduceMul, Nat.reduceLeDiff, Int.reduceToNat, Int.reduceLT, Int.reduceLE, Int.reduceNeg, reduceIte, pvC_fgt, pvC_ids, pvC_ren, pvC_len, I, S, tv, nv, tyT, RawV.tv, R1.row, rowsGet, rowsLen, row4, Vk, Vn, Vs, Vl]
        have HV := takeV_ok a0 a1 m l (a + 1) hl ha1
        have hvl := partV_l (l.drop (a + 1))
        have hple := partV_le (l.drop (a + 1))
        rw [List.length_drop] at hple
        generalize partV (l.drop (a + 1)) = q at *
        by_cases hbad : q.2 = 0 ∨ q.1.k = 5 ∨ acc.length = 12
        · rw [if_pos hbad] at hd; cases hd
        rw [if_neg hbad] at hd
        have d1 : (0 : Int) < (q.2 : Int) := by omega
        have d2 : ¬ q.1.k = 5 := by omega
        have d3 : ¬ (acc.length : Int) = 12 := by omega
        (with_reducible apply v_callv); (· simp only [vcA, Nat.reduceLT, Int.reduceEq, Int.reduceAdd, Int.reduceSub, Nat.reduceBEq, Nat.reduceEqDiff, reduceCtorEq, Nat.reduceAdd, Nat.reduceSub, Nat.reduceMul, Nat.reduceLeDiff, Int.reduceToNat, Int.reduceLT, Int.reduceLE, Int.reduceNeg, reduceIte, pvC_fgt, pvC_ids, pvC_ren, pvC_len, I, S, tv, nv, tyT, RawV.tv, R1.row, rowsGet, rowsLen, row4, Vk, Vn, Vs, Vl]; with_reducible rfl); (· exact HV); (· rfl); (· simp only [vcA, Nat.reduceLT, Int.reduceEq, Int.reduceAdd, Int.reduceSub, Nat.reduceBEq, Nat.reduceEqDiff, reduceCtorEq, Nat.reduceAdd, Nat.reduceSub, Nat.reduceMul, Nat.reduceLeDiff, Int.reduceToNat, Int.reduceLT, Int.reduceLE, Int.reduceNeg, reduceIte, pvC_fgt, pvC_ids, pvC_ren, pvC_len, I, S, tv, nv, tyT, RawV.tv, R1.row, rowsGet, rowsLen, row4, Vk, Vn, Vs, Vl]; with_reducible rfl)
        simp only [vcA, Nat.reduceLT, Int.reduceEq, Int.reduceAdd, Int.reduceSub, Nat.reduceBEq, Nat.reduceEqDiff, reduceCtorEq, Nat.reduceAdd, Nat.reduceSub, Nat.reduceMul, Nat.reduceLeDiff, Int.reduceToNat, Int.reduceLT, Int.reduceLE, Int.reduceNeg, reduceIte, pvC_fgt, pvC_ids, pvC_ren, pvC_len, I, S, tv, nv, tyT, RawV.tv, R1.row, rowsGet, rowsLen, row4, Vk, Vn, Vs, Vl, d1, d2, d3]
        refine ⟨⟨by omega, by omega⟩, ?_⟩
        refine loopK_of ⟨(n, a + 1 + q.2, acc ++ [q.1]), by show a + 1 + q.2 ≤ l.length; omega, by show (acc ++ [q.1]).length + n = 13; simp; omega, hd⟩ (by show n < n + 1; omega) ?_
        refine ES.Lw.trans ?_ (reT_lw (k := 5) (y := .own 3000 4 (V.rows (acc ++ [q.1]))) rfl (wk_own (by simp [rowsLen]) (pwk_rowV acc q.1 hvl)))
        apply lw_of <;> simp [leL, lk, sv, Nat.beq, I, S, ES.kill, has, drp, nilT]
      · rw [if_neg h32] at hd; cases hd
end Go.Proofs.YthjphllpkcnehaaGreatDoor
end

section
/- Decode, walked. No statement of the program is proved here. -/
namespace Go.Proofs.YthjphllpkcnehaaGreatDoor
open Go Go.RowKit Go.Mor Go.Sh Go.Sh.Cd1
set_option maxRecDepth 100000
set_option maxHeartbeats 2000000
theorem wk_tuple2 {a b c : TV} (h : Wk a b) : Wk (.tuple [a, c]) (.tuple [b, c]) := by
  intro w E r v hr
  cases hr with
  | tuple cs vs hl hv =>
    refine .tuple _ vs (by simpa using hl) (fun j d v hd hv' => ?_)
    match j with
    | 0 => simp at hd; subst hd; exact h w E r v (hv 0 _ v rfl hv')
    | 1 => simp at hd; subst hd; exact hv 1 _ v rfl hv'
    | j + 2 => simp at hd
theorem dRest_l {s : List UInt8} {k b c : Int} {v : V} (h : dRest s k b = .ok (v, c)) : v.l = [] := by
  unfold dRest at h
  by_cases e1 : k = 1
  · rw [if_pos e1] at h
    cases hn : dNum s b (-1000000000000000) 1000000000000000 with
    | error e => rw [hn] at h; cases h
    | ok q => rw [hn] at h; cases h; rfl
  rw [if_neg e1] at h
  by_cases e2 : k = 2
  · rw [if_pos e2] at h
    cases hn : dText s b with
    | error e => rw [hn] at h; cases h
    | ok q => rw [hn] at h; cases h; rfl
  rw [if_neg e2] at h
  by_cases e3 : k = 3 ∨ k = 4
  · rw [if_pos e3] at h
    cases hn : dNum s b (-20) 100000 with
    | error e => rw [hn] at h; cases h
    | ok q =>
      obtain ⟨n, c'⟩ := q
      rw [hn] at h
      simp only [] at h
      by_cases hz : n = 0
      · rw [if_pos hz] at h; cases h
      · rw [if_neg hz] at h; cases h; rfl
  rw [if_neg e3] at h; cases h; rfl
theorem val5_ok (a0 a1 : Addr) (m : Nat) (s : List UInt8) (a : Int) (hs : SmallS s) (ha : I64 a) {v : V} {c : Int} (h : dVal s a = .ok (v, c)) :
    SCalls Tryz.prog (gl a0 a1 m) 59 [.ptr 1000 0, I 5] [dec s a] (.tuple [tv v, I 0]) [dec s c] := by
  unfold dVal at h
  cases hk : dNum s a 0 5 with
  | error e => rw [hk] at h; cases h
  | ok q =>
    obtain ⟨k, b⟩ := q
    rw [hk] at h
    simp only [] at h
    by_cases h5 : k = 5
    · rw [if_pos h5] at h
      subst h5
      cases hi : dItems s b with
      | error e => rw [hi] at h; cases h
      | ok q =>
        obtain ⟨l, c'⟩ := q
        rw [hi] at h; cases h
        have HK := number_ok a0 a1 m s a 0 5 hs ha hk
        have HI := items_ok a0 a1 m s b hs (dNum_pos hs hk).1 hi
        refine call_of hmix tf___val_decoder__value rfl rfl rfl ?_
        unfold dec at HK HI ⊢
        simp only [vcA, Nat.reduceLT, Int.reduceEq, Int.reduceAdd, Int.reduceSub, Nat.reduceBEq, Nat.reduceEqDiff, reduceCtorEq, Nat.reduceAdd, Nat.reduceSub, Nat.reduceMul, Nat.reduceLeDiff, Int.reduceToNat, Int.reduceLT, Int.reduceLE, Int.reduceNeg, reduceIte, pvC_fgt, pvC_ids, pvC_ren, pvC_len, I, S, tv, nv, tyT, RawV.tv, R1.row, rowsGet, rowsLen, row4, Vk, Vn, Vs, Vl]
        (with_reducible apply v_call); (· simp only [vcA, Nat.reduceLT, Int.reduceEq, Int.reduceAdd, Int.reduceSub, Nat.reduceBEq, Nat.reduceEqDiff, reduceCtorEq, Nat.reduceAdd, Nat.reduceSub, Nat.reduceMul, Nat.reduceLeDiff, Int.reduceToNat, Int.reduceLT, Int.reduceLE, Int.reduceNeg, reduceIte, pvC_fgt, pvC_ids, pvC_ren, pvC_len, I, S, tv, nv, tyT, RawV.tv, R1.row, rowsGet, rowsLen, row4, Vk, Vn, Vs, Vl]; with_reducible rfl); (· exact HK); (· first | rfl | (simp only [moOk, nbeq, nble, List.length_nil, beq_self_eq_true, Bool.true_and, Bool.and_true, Bool.and_eq_true, decide_eq_true_eq]; omega)); (· simp only [vcA, Nat.reduceLT, Int.reduceEq, Int.reduceAdd, Int.reduceSub, Nat.reduceBEq, Nat.reduceEqDiff, reduceCtorEq, Nat.reduceAdd, Nat.reduceSub, Nat.reduceMul, Nat.reduceLeDiff, Int.reduceToNat, Int.reduceLT, Int.reduceLE, Int.reduceNeg, reduceIte, pvC_fgt, pvC_ids, pvC_ren, pvC_len, I, S, tv, nv, tyT, RawV.tv, R1.row, rowsGet, rowsLen, row4, Vk, Vn, Vs, Vl]; with_reducible rfl)
        simp only [vcA, Nat.reduceLT, Int.reduceEq, Int.reduceAdd, Int.reduceSub, Nat.reduceBEq, Nat.reduceEqDiff, reduceCtorEq, Nat.reduceAdd, Nat.reduceSub, Nat.reduceMul, Nat.reduceLeDiff, Int.reduceToNat, Int.reduceLT, Int.reduceLE, Int.reduceNeg, reduceIte, pvC_fgt, pvC_ids, pvC_ren, pvC_len, I, S, tv, nv, tyT, RawV.tv, R1.row, rowsGet, rowsLen, row4, Vk, Vn, Vs, Vl]
        (with_reducible apply v_call); (· simp only [vcA, Nat.reduceLT, Int.reduceEq, Int.reduceAdd, Int.reduceSub, Nat.reduceBEq, Nat.reduceEqDiff, reduceCtorEq, Nat.reduceAdd, Nat.reduceSub, Nat.reduceMul, Nat.reduceLeDiff, Int.reduceToNat, Int.reduceLT, Int.reduceLE, Int.reduceNeg, reduceIte, pvC_fgt, pvC_ids, pvC_ren, pvC_len, I, S, tv, nv, tyT, RawV.tv, R1.row, rowsGet, rowsLen, row4, Vk, Vn, Vs, Vl]; with_reducible rfl); (· exact HI); (· first | rfl | (simp only [moOk, nbeq, nble, List.length_nil, beq_self_eq_true, Bool.true_and, Bool.and_true, Bool.and_eq_true, decide_eq_true_eq]; omega)); (· simp only [vcA, Nat.reduceLT, Int.reduceEq, Int.reduceAdd, Int.reduceSub, Nat.reduceBEq, Nat.reduceEqDiff, reduceCtorEq, Nat.reduceAdd, Nat.reduceSub, Nat.reduceMul, Nat.reduceLeDiff, Int.reduceToNat, Int.reduceLT, Int.reduceLE, Int.reduceNeg, reduceIte, pvC_fgt, pvC_ids, pvC_ren, pvC_len, I, S, tv, nv, tyT, RawV.tv, R1.row, rowsGet, rowsLen, row4, Vk, Vn, Vs, Vl]; with_reducible rfl)
        simp only [vcA, Nat.reduceLT, Int.reduceEq, Int.reduceAdd, Int.reduceSub, Nat.reduceBEq, Nat.reduceEqDiff, reduceCtorEq, Nat.reduceAdd, Nat.reduceSub, Nat.reduceMul, Nat.reduceLeDiff, Int.reduceToNat, Int.reduceLT, Int.reduceLE, Int.reduceNeg, reduceIte, pvC_fgt, pvC_ids, pvC_ren, pvC_len, I, S, tv, nv, tyT, RawV.tv, R1.row, rowsGet, rowsLen, row4, Vk, Vn, Vs, Vl]
        rfl
    · rw [if_neg h5] at h
      exact (value1_ok a0 a1 m s a 5 hs ha hk h5 h).out (wk_tuple2 (nv_tv (dRest_l h)))
theorem val5_err (a0 a1 : Addr) (m : Nat) (s : List UInt8) (a : Int) (hs : SmallS s) (ha : I64 a) {e : Int} (h : dVal s a = .error e) :
    (∃ c, SCalls Tryz.prog (gl a0 a1 m) 59 [.ptr 1000 0, I 5] [dec s a] (.tuple [nv V.nil, I e]) [dec s c]) ∧ e ≠ 0 := by
  unfold dVal at h
  cases hk : dNum s a 0 5 with
  | error e =>
    rw [hk] at h; cases h
    have := value_err0 a0 a1 m s a 5 hs ha hk
    exact ⟨⟨a, this.1⟩, this.2⟩
  | ok q =>
    obtain ⟨k, b⟩ := q
    rw [hk] at h
    simp only [] at h
    by_cases h5 : k = 5
    · rw [if_pos h5] at h
      subst h5
      cases hi : dItems s b with
      | ok q => rw [hi] at h; cases h
      | error e =>
        rw [hi] at h; cases h
        have HK := number_ok a0 a1 m s a 0 5 hs ha hk
        obtain ⟨⟨c, HI⟩, he⟩ := items_err a0 a1 m s b hs (dNum_pos hs hk).1 hi
        refine ⟨⟨c, call_of hmix tf___val_decoder__value rfl rfl rfl ?_⟩, he⟩
        unfold dec at HK HI ⊢
        simp only [vcA, Nat.reduceLT, Int.reduceEq, Int.reduceAdd, Int.reduceSub, Nat.reduceBEq, Nat.reduceEqDiff, reduceCtorEq, Nat.reduceAdd, Nat.reduceSub, Nat.reduceMul, Nat.reduceLeDiff, Int.reduceToNat, Int.reduceLT, Int.reduceLE, Int.reduceNeg, reduceIte, pvC_fgt, pvC_ids, pvC_ren, pvC_len, I, S, tv, nv, tyT, RawV.tv, R1.row, rowsGet, rowsLen, row4, Vk, Vn, Vs, Vl]
        (with_reducible apply v_call); (· simp only [vcA, Nat.reduceLT, Int.reduceEq, Int.reduceAdd, Int.reduceSub, Nat.reduceBEq, Nat.reduceEqDiff, reduceCtorEq, Nat.reduceAdd, Nat.reduceSub, Nat.reduceMul, Nat.reduceLeDiff, Int.reduceToNat, Int.reduceLT, Int.reduceLE, Int.reduceNeg, reduceIte, pvC_fgt, pvC_ids, pvC_ren, pvC_len, I, S, tv, nv, tyT, RawV.tv, R1.row, rowsGet, rowsLen, row4, Vk, Vn, Vs, Vl]; with_reducible rfl); (· exact HK); (· first | rfl | (simp only [moOk, nbeq, nble, List.length_nil, beq_self_eq_true, Bool.true_and, Bool.and_true, Bool.and_eq_true, decide_eq_true_eq]; omega)); (· simp only [vcA, Nat.reduceLT, Int.reduceEq, Int.reduceAdd, Int.reduceSub, Nat.reduceBEq, Nat.reduceEqDiff, reduceCtorEq, Nat.reduceAdd, Nat.reduceSub, Nat.reduceMul, Nat.reduceLeDiff, Int.reduceToNat, Int.reduceLT, Int.reduceLE, Int.reduceNeg, reduceIte, pvC_fgt, pvC_ids, pvC_ren, pvC_len, I, S, tv, nv, tyT, RawV.tv, R1.row, rowsGet, rowsLen, row4, Vk, Vn, Vs, Vl]; with_reducible rfl)
        simp only [vcA, Nat.reduceLT, Int.reduceEq, Int.reduceAdd, Int.reduceSub, Nat.reduceBEq, Nat.reduceEqDiff, reduceCtorEq, Nat.reduceAdd, Nat.reduceSub, Nat.reduceMul, Nat.reduceLeDiff, Int.reduceToNat, Int.reduceLT, Int.reduceLE, Int.reduceNeg, reduceIte, pvC_fgt, pvC_ids, pvC_ren, pvC_len, I, S, tv, nv, tyT, RawV.tv, R1.row, rowsGet, rowsLen, row4, Vk, Vn, Vs, Vl]
        (with_reducible apply v_call); (· simp only [vcA, Nat.reduceLT, Int.reduceEq, Int.reduceAdd, Int.reduceSub, Nat.reduceBEq, Nat.reduceEqDiff, reduceCtorEq, Nat.reduceAdd, Nat.reduceSub, Nat.reduceMul, Nat.reduceLeDiff, Int.reduceToNat, Int.reduceLT, Int.reduceLE, Int.reduceNeg, reduceIte, pvC_fgt, pvC_ids, pvC_ren, pvC_len, I, S, tv, nv, tyT, RawV.tv, R1.row, rowsGet, rowsLen, row4, Vk, Vn, Vs, Vl, nilT]; with_reducible rfl); (· exact HI); (· first | rfl | (simp only [moOk, nbeq, nble, List.length_nil, beq_self_eq_true, Bool.true_and, Bool.and_true, Bool.and_eq_true, decide_eq_true_eq]; omega)); (· simp only [vcA, Nat.reduceLT, Int.reduceEq, Int.reduceAdd, Int.reduceSub, Nat.reduceBEq, Nat.reduceEqDiff, reduceCtorEq, Nat.reduceAdd, Nat.reduceSub, Nat.reduceMul, Nat.reduceLeDiff, Int.reduceToNat, Int.reduceLT, Int.reduceLE, Int.reduceNeg, reduceIte, pvC_fgt, pvC_ids, pvC_ren, pvC_len, I, S, tv, nv, tyT, RawV.tv, R1.row, rowsGet, rowsLen, row4, Vk, Vn, Vs, Vl, nilT]; with_reducible rfl)
        simp only [vcA, Nat.reduceLT, Int.reduceEq, Int.reduceAdd, Int.reduceSub, Nat.reduceBEq, Nat.reduceEqDiff, reduceCtorEq, Nat.reduceAdd, Nat.reduceSub, Nat.reduceMul, Nat.reduceLeDiff, Int.reduceToNat, Int.reduceLT, Int.reduceLE, Int.reduceNeg, reduceIte, pvC_fgt, pvC_ids, pvC_ren, pvC_len, I, S, tv, nv, tyT, RawV.tv, R1.row, rowsGet, rowsLen, row4, Vk, Vn, Vs, Vl, he]
        rfl
    · rw [if_neg h5] at h
      exact value1_err a0 a1 m s a 5 hs ha hk h5 h
theorem decode_ok (a0 a1 : Addr) (m : Nat) (s : List UInt8) (a : Int) (hs : SmallS s) (ha : 0 ≤ a) (hb : a ≤ s.length) {v : V} {c : Int} (h : dVal s a = .ok (v, c)) :
    SCalls Tryz.prog (gl a0 a1 m) 21 [S (str s), I a] [] (.tuple [tv v, I c, I 0]) [] := by
  have hs' : s.length < 1125899906842624 := hs
  have HV := val5_ok a0 a1 m s a hs (by unfold I64; omega) h
  refine call_of0 hmix tf_val_Decode rfl ?_
  have l1 : ¬ a < 0 := by omega
  have l2 : ¬ (s.length : Int) < a := by omega
  unfold dec at HV
  simp only [vcA, Nat.reduceLT, Int.reduceEq, Int.reduceAdd, Int.reduceSub, Nat.reduceBEq, Nat.reduceEqDiff, reduceCtorEq, Nat.reduceAdd, Nat.reduceSub, Nat.reduceMul, Nat.reduceLeDiff, Int.reduceToNat, Int.reduceLT, Int.reduceLE, Int.reduceNeg, reduceIte, pvC_fgt, pvC_ids, pvC_ren, pvC_len, I, S, tv, nv, tyT, RawV.tv, R1.row, rowsGet, rowsLen, row4, Vk, Vn, Vs, Vl, l1, l2]
  (with_reducible apply v_call); (· simp only [vcA, Nat.reduceLT, Int.reduceEq, Int.reduceAdd, Int.reduceSub, Nat.reduceBEq, Nat.reduceEqDiff, reduceCtorEq, Nat.reduceAdd, Nat.reduceSub, Nat.reduceMul, Nat.reduceLeDiff, Int.reduceToNat, Int.reduceLT, Int.reduceLE, Int.reduceNeg, reduceIte, pvC_fgt, pvC_ids, pvC_ren, pvC_len, I, S, tv, nv, tyT, RawV.tv, R1.row, rowsGet, rowsLen, row4, Vk, Vn, Vs, Vl]; with_reducible rfl); (· exact HV); (· first | rfl | (simp only [moOk, nbeq, nble, List.length_nil, beq_self_eq_true, Bool.true_and, Bool.and_true, Bool.and_eq_true, decide_eq_true_eq]; omega)); (· simp only [vcA, Nat.reduceLT, Int.reduceEq, Int.reduceAdd, Int.reduceSub, Nat.reduceBEq, Nat.reduceEqDiff, reduceCtorEq, Nat.reduceAdd, Nat.reduceSub, Nat.reduceMul, Nat.reduceLeDiff, Int.reduceToNat, Int.reduceLT, Int.reduceLE, Int.reduceNeg, reduceIte, pvC_fgt, pvC_ids, pvC_ren, pvC_len, I, S, tv, nv, tyT, RawV.tv, R1.row, rowsGet, rowsLen, row4, Vk, Vn, Vs, Vl]; with_reducible rfl)
  simp only [vcA, Nat.reduceLT, Int.reduceEq, Int.reduceAdd, Int.reduceSub, Nat.reduceBEq, Nat.reduceEqDiff, reduceCtorEq, Nat.reduceAdd, Nat.reduceSub, Nat.reduceMul, Nat.reduceLeDiff, Int.reduceToNat, Int.reduceLT, Int.reduceLE, Int.reduceNeg, reduceIte, pvC_fgt, pvC_ids, pvC_ren, pvC_len, I, S, tv, nv, tyT, RawV.tv, R1.row, rowsGet, rowsLen, row4, Vk, Vn, Vs, Vl]
theorem decode_err (a0 a1 : Addr) (m : Nat) (s : List UInt8) (a : Int) (hs : SmallS s) (ha : 0 ≤ a) (hb : a ≤ s.length) {e : Int} (h : dVal s a = .error e) :
    SCalls Tryz.prog (gl a0 a1 m) 21 [S (str s), I a] [] (.tuple [nv V.nil, I 0, I e]) [] := by
  have hs' : s.length < 1125899906842624 := hs
  obtain ⟨⟨c, HV⟩, he⟩ := val5_err a0 a1 m s a hs (by unfold I64; omega) h
  refine call_of0 hmix tf_val_Decode rfl ?_
  have l1 : ¬ a < 0 := by omega
  have l2 : ¬ (s.length : Int) < a := by omega
  unfold dec at HV
  simp only [vcA, Nat.reduceLT, Int.reduceEq, Int.reduceAdd, Int.reduceSub, Nat.reduceBEq, Nat.reduceEqDiff, reduceCtorEq, Nat.reduceAdd, Nat.reduceSub, Nat.reduceMul, Nat.reduceLeDiff, Int.reduceToNat, Int.reduceLT, Int.reduceLE, Int.reduceNeg, reduceIte, pvC_fgt, pvC_ids, pvC_ren, pvC_len, I, S, tv, nv, tyT, RawV.tv, R1.row, rowsGet, rowsLen, row4, Vk, Vn, Vs, Vl, l1, l2]
  (with_reducible apply v_call); (· simp only [vcA, Nat.reduceLT, Int.reduceEq, Int.reduceAdd, Int.reduceSub, Nat.reduceBEq, Nat.reduceEqDiff, reduceCtorEq, Nat.reduceAdd, Nat.reduceSub, Nat.reduceMul, Nat.reduceLeDiff, Int.reduceToNat, Int.reduceLT, Int.reduceLE, Int.reduceNeg, reduceIte, pvC_fgt, pvC_ids, pvC_ren, pvC_len, I, S, tv, nv, tyT, RawV.tv, R1.row, rowsGet, rowsLen, row4, Vk, Vn, Vs, Vl]; with_reducible rfl); (· exact HV); (· first | rfl | (simp only [moOk, nbeq, nble, List.length_nil, beq_self_eq_true, Bool.true_and, Bool.and_true, Bool.and_eq_true, decide_eq_true_eq]; omega)); (· simp only [vcA, Nat.reduceLT, Int.reduceEq, Int.reduceAdd, Int.reduceSub, Nat.reduceBEq, Nat.reduceEqDiff, reduceCtorEq, Nat.reduceAdd, Nat.reduceSub, Nat.reduceMul, Nat.reduceLeDiff, Int.reduceToNat, Int.reduceLT, Int.reduceLE, Int.reduceNeg, reduceIte, pvC_fgt, pvC_ids, pvC_ren, pvC_len, I, S, tv, nv, tyT, RawV.tv, R1.row, rowsGet, rowsLen, row4, Vk, Vn, Vs, Vl]; with_reducible rfl)
  simp only [vcA, Nat.reduceLT, Int.reduceEq, Int.reduceAdd, Int.reduceSub, Nat.reduceBEq, Nat.reduceEqDiff, reduceCtorEq, Nat.reduceAdd, Nat.reduceSub, Nat.reduceMul, Nat.reduceLeDiff, Int.reduceToNat, Int.reduceLT, Int.reduceLE, Int.reduceNeg, reduceIte, pvC_fgt, pvC_ids, pvC_ren, pvC_len, I, S, tv, nv, tyT, RawV.tv, R1.row, rowsGet, rowsLen, row4, Vk, Vn, Vs, Vl, he]
  rfl
end Go.Proofs.YthjphllpkcnehaaGreatDoor
end

section
/- Reading values: the program's Read, where there is a value. No statement of the program is proved here. -/
namespace Go.Proofs.YthjphllpkcnehaaGreatDoor
open Go Go.RowKit Go.Mor Go.Sh Go.Sh.Cd1
set_option maxRecDepth 100000
set_option maxHeartbeats 4000000
def readV (l : List UInt8) (a : Nat) : Option (V × Nat) :=
  if (partV (l.drop a)).2 = 0 then none
  else if (partV (l.drop a)).1.k = 5 then (match itemsGo l 13 (a + (partV (l.drop a)).2) [] with
    | some (r, p) => some (.mk 5 0 [] r, p)
    | none => none)
  else some ((partV (l.drop a)).1, a + (partV (l.drop a)).2)
theorem partV_5 {l : List UInt8} (h : (partV l).1.k = 5) : (partV l).1 = .mk 5 0 [] [] := by
  unfold partV at h ⊢
  by_cases f34 : firstR l = 34
  · rw [if_pos f34] at h; simp [V.k] at h
  rw [if_neg f34] at h ⊢
  by_cases f64 : firstR l = 64
  · rw [if_pos f64] at h; simp [V.k] at h
  rw [if_neg f64] at h ⊢
  by_cases f126 : firstR l = 126
  · rw [if_pos f126] at h; simp [V.k] at h
  rw [if_neg f126] at h ⊢
  by_cases f91 : firstR l = 91
  · rw [if_pos f91]
  rw [if_neg f91] at h
  by_cases h0 : (numV (-1000000000000000) 1000000000000000 l).2 = 0
  · rw [if_pos h0] at h; simp [V.k, V.nil] at h
  · rw [if_neg h0] at h; simp [V.k] at h
theorem wk_tuple3 {a b c d : TV} (h : Wk a b) : Wk (.tuple [a, c, d]) (.tuple [b, c, d]) := by
  intro w E r v hr
  cases hr with
  | tuple cs vs hl hv =>
    refine .tuple _ vs (by simpa using hl) (fun j x v hd hv' => ?_)
    match j with
    | 0 => simp at hd; subst hd; exact h w E r v (hv 0 _ v rfl hv')
    | 1 => simp at hd; subst hd; exact hv 1 _ v rfl hv'
    | 2 => simp at hd; subst hd; exact hv 2 _ v rfl hv'
    | j + 3 => simp at hd
theorem read_ok (a0 a1 : Addr) (m : Nat) (l : List UInt8) (a : Nat) (hl : l.length < 1125899906842624) (ha : a ≤ l.length) {v : V} {p : Nat} (h : readV l a = some (v, p)) :
    SCalls Tryz.prog (gl a0 a1 m) 18 [S (str l), I (a : Int)] [] (.tuple [tv v, I (p : Int), I 0]) [] := by
  have HR := reader_ok (gl a0 a1 m) l a
  have HT := takeV_ok a0 a1 m l a hl ha
  have hle := partV_le (l.drop a)
  have h5 := fun h => partV_5 (l := l.drop a) h
  have hnl := partV_l (l.drop a)
  rw [List.length_drop] at hle
  have l1 : ¬ (a : Int) < 0 := by omega
  have l2 : ¬ (l.length : Int) < (a : Int) := by omega
  unfold readV at h
  generalize partV (l.drop a) = q at *
  by_cases h0 : q.2 = 0
  · rw [if_pos h0] at h; cases h
  rw [if_neg h0] at h
  have d1 : (0 : Int) < (q.2 : Int) := by omega
  by_cases hk : q.1.k = 5
  · rw [if_pos hk] at h
    have hq := h5 hk
    cases hi : itemsGo l 13 (a + q.2) [] with
    | none => rw [hi] at h; cases h
    | some z =>
      obtain ⟨r, p'⟩ := z
      rw [hi] at h; cases h
      have HI := ritems_ok a0 a1 m l (a + q.2) hl (by omega) hi
      rw [hq] at HT
      refine call_of0 hmix tf_val_Read rfl ?_
      simp only [vcA, Nat.reduceLT, Int.reduceEq, Int.reduceAdd, Int.reduceSub, Nat.reduceBEq, Nat.reduceEqDiff, reduceCtorEq, Nat.reduceAdd, Nat.reduceSub, Nat.reduceMul, Nat.reduceLeDiff, Int.reduceToNat, Int.reduceLT, Int.reduceLE, Int.reduceNeg, reduceIte, pvC_fgt, pvC_ids, pvC_ren, pvC_len, I, S, tv, nv, tyT, RawV.tv, R1.row, rowsGet, rowsLen, row4, Vk, Vn, Vs, Vl, l1, l2]
      (with_reducible apply v_call); (· simp only [vcA, Nat.reduceLT, Int.reduceEq, Int.reduceAdd, Int.reduceSub, Nat.reduceBEq, Nat.reduceEqDiff, reduceCtorEq, Nat.reduceAdd, Nat.reduceSub, Nat.reduceMul, Nat.reduceLeDiff, Int.reduceToNat, Int.reduceLT, Int.reduceLE, Int.reduceNeg, reduceIte, pvC_fgt, pvC_ids, pvC_ren, pvC_len, I, S, tv, nv, tyT, RawV.tv, R1.row, rowsGet, rowsLen, row4, Vk, Vn, Vs, Vl]; with_reducible rfl); (· exact HR); (· first | rfl | (simp only [moOk, nbeq, nble, List.length_nil, beq_self_eq_true, Bool.true_and, Bool.and_true, Bool.and_eq_true, decide_eq_true_eq]; omega)); (· simp only [vcA, Nat.reduceLT, Int.reduceEq, Int.reduceAdd, Int.reduceSub, Nat.reduceBEq, Nat.reduceEqDiff, reduceCtorEq, Nat.reduceAdd, Nat.reduceSub, Nat.reduceMul, Nat.reduceLeDiff, Int.reduceToNat, Int.reduceLT, Int.reduceLE, Int.reduceNeg, reduceIte, pvC_fgt, pvC_ids, pvC_ren, pvC_len, I, S, tv, nv, tyT, RawV.tv, R1.row, rowsGet, rowsLen, row4, Vk, Vn, Vs, Vl]; with_reducible rfl)
      simp only [vcA, Nat.reduceLT, Int.reduceEq, Int.reduceAdd, Int.reduceSub, Nat.reduceBEq, Nat.reduceEqDiff, reduceCtorEq, Nat.reduceAdd, Nat.reduceSub, Nat.reduceMul, Nat.reduceLeDiff, Int.reduceToNat, Int.reduceLT, Int.reduceLE, Int.reduceNeg, reduceIte, pvC_fgt, pvC_ids, pvC_ren, pvC_len, I, S, tv, nv, tyT, RawV.tv, R1.row, rowsGet, rowsLen, row4, Vk, Vn, Vs, Vl]
      (with_reducible apply v_callv); (· simp only [vcA, Nat.reduceLT, Int.reduceEq, Int.reduceAdd, Int.reduceSub, Nat.reduceBEq, Nat.reduceEqDiff, reduceCtorEq, Nat.reduceAdd, Nat.reduceSub, Nat.reduceMul, Nat.reduceLeDiff, Int.reduceToNat, Int.reduceLT, Int.reduceLE, Int.reduceNeg, reduceIte, pvC_fgt, pvC_ids, pvC_ren, pvC_len, I, S, tv, nv, tyT, RawV.tv, R1.row, rowsGet, rowsLen, row4, Vk, Vn, Vs, Vl]; with_reducible rfl); (· exact HT); (· rfl); (· simp only [vcA, Nat.reduceLT, Int.reduceEq, Int.reduceAdd, Int.reduceSub, Nat.reduceBEq, Nat.reduceEqDiff, reduceCtorEq, Nat.reduceAdd, Nat.reduceSub, Nat.reduceMul, Nat.reduceLeDiff, Int.reduceToNat, Int.reduceLT, Int.reduceLE, Int.reduceNeg, reduceIte, pvC_fgt, pvC_ids, pvC_ren, pvC_len, I, S, tv, nv, tyT, RawV.tv, R1.row, rowsGet, rowsLen, row4, Vk, Vn, Vs, Vl]; with_reducible rfl)
      simp only [vcA, Nat.reduceLT, Int.reduceEq, Int.reduceAdd, Int.reduceSub, Nat.reduceBEq, Nat.reduceEqDiff, reduceCtorEq, Nat.reduceAdd, Nat.reduceSub, Nat.reduceMul, Nat.reduceLeDiff, Int.reduceToNat, Int.reduceLT, Int.reduceLE, Int.reduceNeg, reduceIte, pvC_fgt, pvC_ids, pvC_ren, pvC_len, I, S, tv, nv, tyT, RawV.tv, R1.row, rowsGet, rowsLen, row4, Vk, Vn, Vs, Vl, d1]
      (with_reducible apply v_call); (· simp only [vcA, Nat.reduceLT, Int.reduceEq, Int.reduceAdd, Int.reduceSub, Nat.reduceBEq, Nat.reduceEqDiff, reduceCtorEq, Nat.reduceAdd, Nat.reduceSub, Nat.reduceMul, Nat.reduceLeDiff, Int.reduceToNat, Int.reduceLT, Int.reduceLE, Int.reduceNeg, reduceIte, pvC_fgt, pvC_ids, pvC_ren, pvC_len, I, S, tv, nv, tyT, RawV.tv, R1.row, rowsGet, rowsLen, row4, Vk, Vn, Vs, Vl]; with_reducible rfl); (· exact HI); (· first | rfl | (simp only [moOk, nbeq, nble, List.length_nil, beq_self_eq_true, Bool.true_and, Bool.and_true, Bool.and_eq_true, decide_eq_true_eq]; omega)); (· simp only [vcA, Nat.reduceLT, Int.reduceEq, Int.reduceAdd, Int.reduceSub, Nat.reduceBEq, Nat.reduceEqDiff, reduceCtorEq, Nat.reduceAdd, Nat.reduceSub, Nat.reduceMul, Nat.reduceLeDiff, Int.reduceToNat, Int.reduceLT, Int.reduceLE, Int.reduceNeg, reduceIte, pvC_fgt, pvC_ids, pvC_ren, pvC_len, I, S, tv, nv, tyT, RawV.tv, R1.row, rowsGet, rowsLen, row4, Vk, Vn, Vs, Vl]; with_reducible rfl)
      simp only [vcA, Nat.reduceLT, Int.reduceEq, Int.reduceAdd, Int.reduceSub, Nat.reduceBEq, Nat.reduceEqDiff, reduceCtorEq, Nat.reduceAdd, Nat.reduceSub, Nat.reduceMul, Nat.reduceLeDiff, Int.reduceToNat, Int.reduceLT, Int.reduceLE, Int.reduceNeg, reduceIte, pvC_fgt, pvC_ids, pvC_ren, pvC_len, I, S, tv, nv, tyT, RawV.tv, R1.row, rowsGet, rowsLen, row4, Vk, Vn, Vs, Vl]
  · rw [if_neg hk] at h; cases h
    refine SCalls.out ?_ (wk_tuple3 (nv_tv hnl))
    refine call_of0 hmix tf_val_Read rfl ?_
    simp only [vcA, Nat.reduceLT, Int.reduceEq, Int.reduceAdd, Int.reduceSub, Nat.reduceBEq, Nat.reduceEqDiff, reduceCtorEq, Nat.reduceAdd, Nat.reduceSub, Nat.reduceMul, Nat.reduceLeDiff, Int.reduceToNat, Int.reduceLT, Int.reduceLE, Int.reduceNeg, reduceIte, pvC_fgt, pvC_ids, pvC_ren, pvC_len, I, S, tv, nv, tyT, RawV.tv, R1.row, rowsGet, rowsLen, row4, Vk, Vn, Vs, Vl, l1, l2]
    (with_reducible apply v_call); (· simp only [vcA, Nat.reduceLT, Int.reduceEq, Int.reduceAdd, Int.reduceSub, Nat.reduceBEq, Nat.reduceEqDiff, reduceCtorEq, Nat.reduceAdd, Nat.reduceSub, Nat.reduceMul, Nat.reduceLeDiff, Int.reduceToNat, Int.reduceLT, Int.reduceLE, Int.reduceNeg, reduceIte, pvC_fgt, pvC_ids, pvC_ren, pvC_len, I, S, tv, nv, tyT, RawV.tv, R1.row, rowsGet, rowsLen, row4, Vk, Vn, Vs, Vl]; with_reducible rfl); (· exact HR); (· first | rfl | (simp only [moOk, nbeq, nble, List.length_nil, beq_self_eq_true, Bool.true_and, Bool.and_true, Bool.and_eq_true, decide_eq_true_eq]; omega)); (· simp only [vcA, Nat.reduceLT, Int.reduceEq, Int.reduceAdd, Int.reduceSub, Nat.reduceBEq, Nat.reduceEqDiff, reduceCtorEq, Nat.reduceAdd, Nat.reduceSub, Nat.reduceMul, Nat.reduceLeDiff, Int.reduceToNat, Int.reduceLT, Int.reduceLE, Int.reduceNeg, reduceIte, pvC_fgt, pvC_ids, pvC_ren, pvC_len, I, S, tv, nv, tyT, RawV.tv, R1.row, rowsGet, rowsLen, row4, Vk, Vn, Vs, Vl]; with_reducible rfl)
    simp only [vcA, Nat.reduceLT, Int.reduceEq, Int.reduceAdd, Int.reduceSub, Nat.reduceBEq, Nat.reduceEqDiff, reduceCtorEq, Nat.reduceAdd, Nat.reduceSub, Nat.reduceMul, Nat.reduceLeDiff, Int.reduceToNat, Int.reduceLT, Int.reduceLE, Int.reduceNeg, reduceIte, pvC_fgt, pvC_ids, pvC_ren, pvC_len, I, S, tv, nv, tyT, RawV.tv, R1.row, rowsGet, rowsLen, row4, Vk, Vn, Vs, Vl]
    (with_reducible apply v_callv); (· simp only [vcA, Nat.reduceLT, Int.reduceEq, Int.reduceAdd, Int.reduceSub, Nat.reduceBEq, Nat.reduceEqDiff, reduceCtorEq, Nat.reduceAdd, Nat.reduceSub, Nat.reduceMul, Nat.reduceLeDiff, Int.reduceToNat, Int.reduceLT, Int.reduceLE, Int.reduceNeg, reduceIte, pvC_fgt, pvC_ids, pvC_ren, pvC_len, I, S, tv, nv, tyT, RawV.tv, R1.row, rowsGet, rowsLen, row4, Vk, Vn, Vs, Vl]; with_reducible rfl); (· exact HT); (· rfl); (· simp only [vcA, Nat.reduceLT, Int.reduceEq, Int.reduceAdd, Int.reduceSub, Nat.reduceBEq, Nat.reduceEqDiff, reduceCtorEq, Nat.reduceAdd, Nat.reduceSub, Nat.reduceMul, Nat.reduceLeDiff, Int.reduceToNat, Int.reduceLT, Int.reduceLE, Int.reduceNeg, reduceIte, pvC_fgt, pvC_ids, pvC_ren, pvC_len, I, S, tv, nv, tyT, RawV.tv, R1.row, rowsGet, rowsLen, row4, Vk, Vn, Vs, Vl]; with_reducible rfl)
    simp only [vcA, Nat.reduceLT, Int.reduceEq, Int.reduceAdd, Int.reduceSub, Nat.reduceBEq, Nat.reduceEqDiff, reduceCtorEq, Nat.reduceAdd, Nat.reduceSub, Nat.reduceMul, Nat.reduceLeDiff, Int.reduceToNat, Int.reduceLT, Int.reduceLE, Int.reduceNeg, reduceIte, pvC_fgt, pvC_ids, pvC_ren, pvC_len, I, S, tv, nv, tyT, RawV.tv, R1.row, rowsGet, rowsLen, row4, Vk, Vn, Vs, Vl, d1, hk]
end Go.Proofs.YthjphllpkcnehaaGreatDoor
end

section
/- Values that are written are read back. No statement of the program is proved here. -/
namespace Go.Proofs.YthjphllpkcnehaaGreatDoor
open Go Go.Mor
set_option maxHeartbeats 2000000
theorem quoV_qs {s : List UInt8} (h : rightText s = true) (post : List UInt8) : quoV (34 :: (qs s ++ 34 :: post)) = (s, (qs s).length + 2) := by
  have hl := rightText_len h
  have hT : isText s = true := by
    rw [isText_eq s.length s (Nat.le_refl _)]
    unfold rightText at h; simp only [Bool.and_eq_true] at h; simp [h.2.1, h.2.2]
  unfold quoV
  rw [List.drop_one, List.tail_cons, quoGo_qs post s.length s [] 1 _ (Nat.le_refl _) hT (by simpa using hl) (by simpa using h) (by simp; omega)]
  simp; omega
/-- How a value that is no list is written. -/
def text1 (x : V) : List UInt8 :=
  if x.k = 1 then Lib.itoa x.n else if x.k = 2 then 34 :: (qs x.s ++ [34]) else if x.k = 3 then 64 :: Lib.itoa x.n else if x.k = 4 then 126 :: Lib.itoa x.n else [45]
theorem itoa_head (n : Int) : ∃ c r, Lib.itoa n = c :: r ∧ (c.toNat = 45 ∨ 48 ≤ c.toNat ∧ c.toNat ≤ 57) := by
  unfold Lib.itoa
  by_cases h : n < 0
  · rw [if_pos h]; exact ⟨45, _, rfl, .inl rfl⟩
  · rw [if_neg h]
    obtain ⟨c, r, h1, h2⟩ := decDigits_head n.toNat
    exact ⟨c, r, h1, .inr h2⟩
theorem refV_itoa {c : UInt8} {n : Int} (h : rightID n = true) {r : List UInt8} (hr : NoDigit r) : refV (c :: (Lib.itoa n ++ r)) = (n, (Lib.itoa n).length + 1) := by
  have hid := rightID_inv h
  unfold refV
  rw [List.drop_one, List.tail_cons, numV_itoa (by omega) (by omega) (by omega) (by omega) hr]
  rw [if_neg (by show ¬ n = 0; omega)]
theorem partV_text {x : V} (h : right1 x = true) {post : List UInt8} (hp : NoDigit post) : partV (text1 x ++ post) = (x, (text1 x).length) := by
  rcases right1_inv h with rfl | ⟨n, h1, h2, rfl⟩ | ⟨s, h1, rfl⟩ | ⟨k, n, hk, h1, rfl⟩
  · have ht : text1 (.mk 0 0 [] []) = [45] := rfl
    have hf : firstR (45 :: post) = 45 := firstR_low (by decide)
    rw [ht, List.singleton_append]
    unfold partV
    rw [hf, if_neg (by decide), if_neg (by decide), if_neg (by decide), if_neg (by decide)]
    have hn : numV (-1000000000000000) 1000000000000000 (45 :: post) = (0, 0) := by
      unfold numV; rw [hf, if_pos rfl, List.drop_one, List.tail_cons, numGo_end _ _ _ hp]
    rw [hn, if_pos rfl, if_pos ⟨by simp, rfl⟩]; rfl
  · have ht : text1 (.mk 1 n [] []) = Lib.itoa n := rfl
    obtain ⟨c, r, e, hc⟩ := itoa_head n
    have hf : firstR (Lib.itoa n ++ post) = c.toNat := by rw [e, List.cons_append]; exact firstR_low (by omega)
    rw [ht]
    unfold partV
    rw [hf, if_neg (by omega), if_neg (by omega), if_neg (by omega), if_neg (by omega), numV_itoa h1 h2 h1 h2 hp, if_neg (by rw [e]; simp)]
  · have ht : text1 (.mk 2 0 s []) ++ post = 34 :: (qs s ++ 34 :: post) := by show (34 :: (qs s ++ [34])) ++ post = _; simp
    have hl : (text1 (.mk 2 0 s [])).length = (qs s).length + 2 := by show (34 :: (qs s ++ [34])).length = _; simp
    have hf : firstR (34 :: (qs s ++ 34 :: post)) = 34 := firstR_low (by decide)
    rw [ht, hl]
    unfold partV
    rw [if_pos hf, quoV_qs h1]
  · rcases hk with rfl | rfl
    · have ht : text1 (.mk 3 n [] []) ++ post = 64 :: (Lib.itoa n ++ post) := rfl
      have hl : (text1 (.mk 3 n [] [])).length = (Lib.itoa n).length + 1 := rfl
      have hf : firstR (64 :: (Lib.itoa n ++ post)) = 64 := firstR_low (by decide)
      rw [ht, hl]
      unfold partV
      rw [hf, if_neg (by decide), if_pos rfl, refV_itoa h1 hp]
    · have ht : text1 (.mk 4 n [] []) ++ post = 126 :: (Lib.itoa n ++ post) := rfl
      have hl : (text1 (.mk 4 n [] [])).length = (Lib.itoa n).length + 1 := rfl
      have hf : firstR (126 :: (Lib.itoa n ++ post)) = 126 := firstR_low (by decide)
      rw [ht, hl]
      unfold partV
      rw [hf, if_neg (by decide), if_neg (by decide), if_pos rfl, refV_itoa h1 hp]
theorem text1_pos (x : V) (h : right1 x = true) : 0 < (text1 x).length := by
  have h0 : ∀ n, 0 < (Lib.itoa n).length := fun n => by obtain ⟨c, r, e, _⟩ := itoa_head n; rw [e]; simp
  unfold text1
  (repeat' split) <;> first | exact h0 _ | simp
/-- What stands behind a list's value. -/
def tailT : List V → List UInt8
  | [] => [93]
  | y :: l => 32 :: (text1 y ++ tailT l)
def headT : List V → List UInt8
  | [] => [93]
  | y :: l => text1 y ++ tailT l
theorem tailT_noDigit (l : List V) (post : List UInt8) : NoDigit (tailT l ++ post) := by
  intro c r h
  cases l with
  | nil => simp only [tailT, List.cons_append, List.cons.injEq] at h; rw [← h.1]; decide
  | cons y l => simp only [tailT, List.cons_append, List.cons.injEq] at h; rw [← h.1]; decide
theorem sgnS_low {c : UInt8} {r : List UInt8} (hc : c.toNat < 128) (x : Int) : sgnS x (c :: r) = if (c.toNat : Int) = x then 1 else 0 := by
  unfold sgnS; rw [firstR_low hc]; simp
theorem sgn93_text {y : V} (h : right1 y = true) (X : List UInt8) : sgnS 93 (text1 y ++ X) = 0 := by
  have key : ∃ c r, text1 y = c :: r ∧ c.toNat < 128 ∧ c.toNat ≠ 93 := by
    have hi := fun n => itoa_head n
    rcases right1_inv h with rfl | ⟨n, h1, h2, rfl⟩ | ⟨s, h1, rfl⟩ | ⟨k, n, hk, h1, rfl⟩
    · exact ⟨45, [], rfl, by decide, by decide⟩
    · obtain ⟨c, r, e, hc⟩ := hi n
      exact ⟨c, r, e, by omega, by omega⟩
    · exact ⟨34, _, rfl, by decide, by decide⟩
    · rcases hk with rfl | rfl
      · exact ⟨64, _, rfl, by decide, by decide⟩
      · exact ⟨126, _, rfl, by decide, by decide⟩
  obtain ⟨c, r, e, h1, h2⟩ := key
  rw [e, List.cons_append, sgnS_low h1, if_neg (by omega)]
theorem drop_add {L X Y : List UInt8} {a : Nat} (h : L.drop a = X ++ Y) : L.drop (a + X.length) = Y := by
  rw [← List.drop_drop, h, List.drop_left]
theorem items_tail (L post : List UInt8) : ∀ (l acc : List V) (n a : Nat), (∀ y ∈ l, right1 y = true) → acc ≠ [] → acc.length + l.length ≤ 12 → l.length < n → L.drop a = tailT l ++ post →
    itemsGo L n a acc = some (acc ++ l, a + (tailT l).length)
  | [], acc, n, a, _, hacc, hlen, hn, hd => by
    obtain ⟨n', rfl⟩ : ∃ n', n = n' + 1 := ⟨n - 1, by simp at hn; omega⟩
    rw [itemsGo, hd, tailT, List.singleton_append, sgnS_low (by decide), if_pos (by decide)]
    simp
  | y :: l, acc, n, a, hr, hacc, hlen, hn, hd => by
    obtain ⟨n', rfl⟩ : ∃ n', n = n' + 1 := ⟨n - 1, by simp at hn; omega⟩
    rw [List.length_cons] at hlen hn
    have hry := hr y (by simp)
    rw [tailT, List.cons_append, List.append_assoc] at hd
    have hd1 : L.drop (a + 1) = text1 y ++ (tailT l ++ post) := by
      rw [← List.drop_drop, hd, List.drop_one, List.tail_cons]
    have hpv := partV_text hry (tailT_noDigit l post)
    have hpos := text1_pos y hry
    rw [itemsGo, hd, sgnS_low (by decide), if_neg (by decide)]
    unfold nextA
    rw [if_neg hacc, hd, sgnS_low (by decide), if_pos (by decide)]
    simp only []
    rw [hd1, hpv, if_neg (by show ¬ ((text1 y).length = 0 ∨ y.k = 5 ∨ acc.length = 12); have := (right1_ok hry).2.1; omega)]
    rw [items_tail L post l (acc ++ [y]) n' (a + 1 + (text1 y).length) (fun z hz => hr z (by simp [hz])) (by simp) (by simp; omega) (by omega) (drop_add hd1)]
    simp only [List.append_assoc, List.singleton_append, tailT, List.length_cons, List.length_append]
    congr 2; omega
theorem items_head (L post : List UInt8) (l : List V) (a : Nat) (hr : ∀ y ∈ l, right1 y = true) (hlen : l.length ≤ 12) (hd : L.drop a = headT l ++ post) : itemsGo L 13 a [] = some (l, a + (headT l).length) := by
  cases l with
  | nil =>
    rw [itemsGo, hd, headT, List.singleton_append, sgnS_low (by decide), if_pos (by decide)]
    simp
  | cons y l =>
    rw [List.length_cons] at hlen
    have hry := hr y (by simp)
    rw [headT, List.append_assoc] at hd
    have hpv := partV_text hry (tailT_noDigit l post)
    have hpos := text1_pos y hry
    rw [itemsGo, hd, sgn93_text hry, if_neg (by decide)]
    unfold nextA
    rw [if_pos rfl]
    simp only []
    rw [hd, hpv, if_neg (by show ¬ ((text1 y).length = 0 ∨ y.k = 5 ∨ (0 : Nat) = 12); have := (right1_ok hry).2.1; omega)]
    rw [items_tail L post l ([] ++ [y]) 12 (a + (text1 y).length) (fun z hz => hr z (by simp [hz])) (by simp) (by simp; omega) (by omega) (drop_add hd)]
    simp only [List.nil_append, List.singleton_append, headT, List.length_append]
    congr 2; omega
/-- How a value is written. -/
def textV (x : V) : List UInt8 := if x.k = 5 then 91 :: headT x.l else text1 x
theorem readV_text {x : V} (h : rightV x = true) (pre : List UInt8) {post : List UInt8} (hp : NoDigit post) : readV (pre ++ textV x ++ post) pre.length = some (x, pre.length + (textV x).length) := by
  have hd0 : (pre ++ textV x ++ post).drop pre.length = textV x ++ post := by rw [List.append_assoc, List.drop_left]
  by_cases h5 : x.k = 5
  · obtain ⟨h1, h2, h3, h4⟩ := rightL_inv h h5
    have ht : textV x = 91 :: headT x.l := by unfold textV; rw [if_pos h5]
    have hpv : partV (textV x ++ post) = (.mk 5 0 [] [], 1) := by
      have hf : firstR (91 :: (headT x.l ++ post)) = 91 := firstR_low (by decide)
      rw [ht, List.cons_append]
      unfold partV
      rw [hf, if_neg (by decide), if_neg (by decide), if_neg (by decide), if_pos rfl]
    have hd1 : (pre ++ textV x ++ post).drop (pre.length + 1) = headT x.l ++ post := by
      rw [← List.drop_drop, hd0, ht, List.cons_append, List.drop_one, List.tail_cons]
    unfold readV
    rw [hd0, hpv]
    simp only []
    rw [if_neg (by decide), if_pos (show V.k (.mk 5 0 [] []) = 5 from rfl), items_head _ post x.l _ (fun y hy => (h4 y hy).2) h3 hd1]
    have hx : x = .mk 5 0 [] x.l := by conv => lhs; rw [← V.eta x, h5, h1, h2]
    simp only []
    rw [← hx, ht, List.length_cons]
    congr 2; omega
  · have hr := rightV_one h h5
    have ht : textV x = text1 x := by unfold textV; rw [if_neg h5]
    have hpos := text1_pos x hr
    unfold readV
    rw [hd0, ht, partV_text hr hp, if_neg (by show ¬ (text1 x).length = 0; omega), if_neg h5]
end Go.Proofs.YthjphllpkcnehaaGreatDoor
end

section
/- Texts in quotes are the library's twofold replacement. No statement of the program is proved here. -/
namespace Go.Proofs.YthjphllpkcnehaaGreatDoor
open Go Go.Mor
set_option maxHeartbeats 2000000
theorem index_none1 (c : UInt8) : ∀ (s : List UInt8), c ∉ s → Lib.index s [c] = -1
  | [], _ => rfl
  | b :: l, h => by
    have h1 : ¬ c = b := fun e => h (e ▸ List.mem_cons_self ..)
    have h2 := index_none1 c l (fun hm => h (List.mem_cons_of_mem _ hm))
    unfold Lib.index
    rw [h2]
    have : ([c].isPrefixOf (b :: l)) = false := by simp [List.isPrefixOf, h1]
    rw [this]; rfl
theorem index_at1 (c : UInt8) (post : List UInt8) : ∀ (pre : List UInt8), c ∉ pre → Lib.index (pre ++ c :: post) [c] = pre.length
  | [], _ => by simp [Lib.index, List.isPrefixOf]
  | b :: l, h => by
    have h1 : ¬ c = b := fun e => h (e ▸ List.mem_cons_self ..)
    have h2 := index_at1 c post l (fun hm => h (List.mem_cons_of_mem _ hm))
    show Lib.index (b :: (l ++ c :: post)) [c] = _
    unfold Lib.index
    rw [h2]
    have : ([c].isPrefixOf (b :: (l ++ c :: post))) = false := by simp [List.isPrefixOf, h1]
    rw [this]
    have h3 : ((l.length : Int) == -1) = false := by rw [beq_eq_false_iff_ne]; omega
    simp only [Bool.false_eq_true, if_false, h3, List.length_cons]
    omega
theorem replaceK_one (c : UInt8) (new : List UInt8) : ∀ (fuel : Nat) (s : List UInt8), s.length < fuel → Lib.replaceK [c] new (Lib.countFrom [c] fuel s) s = s.flatMap fun b => if b = c then new else [b]
  | 0, s, h => by omega
  | fuel + 1, s, h => by
    have hplain : ∀ l : List UInt8, c ∉ l → (l.flatMap fun b => if b = c then new else [b]) = l := by
      intro l
      induction l with
      | nil => intro _; rfl
      | cons b l ih =>
        intro hm
        have h1 : ¬ b = c := fun e => hm (e ▸ List.mem_cons_self ..)
        rw [List.flatMap_cons, if_neg h1, ih (fun h => hm (List.mem_cons_of_mem _ h))]; rfl
    by_cases hm : c ∈ s
    · obtain ⟨pre, post, rfl, hpre⟩ := List.eq_append_cons_of_mem hm
      have hi := index_at1 c post pre hpre
      have hne : ¬ (Lib.index (pre ++ c :: post) [c] == -1) = true := by rw [hi, beq_iff_eq]; omega
      unfold Lib.countFrom
      rw [if_neg hne, Nat.add_comm, Lib.replaceK_hit _ _ _ _ pre.length hi, hi]
      have hd : (pre ++ c :: post).drop ((pre.length : Int).toNat + [c].length) = post := by
        rw [Int.toNat_natCast, List.drop_append]
        simp
      have hd' : (pre ++ c :: post).drop (pre.length + [c].length) = post := by
        rw [List.drop_append]; simp
      rw [hd, hd', replaceK_one c new fuel post (by simp at h; omega)]
      rw [List.take_append_of_le_length (Nat.le_refl _), List.take_length, List.flatMap_append, hplain pre hpre, List.flatMap_cons, if_pos rfl, List.append_assoc]
    · unfold Lib.countFrom
      rw [index_none1 c s hm, if_pos (by decide), Lib.replaceK, hplain s hm]
theorem replaceAll_one (c : UInt8) (new : List UInt8) (hne : new ≠ [c]) (s : List UInt8) : Lib.replaceAll s [c] new = s.flatMap fun b => if b = c then new else [b] := by
  unfold Lib.replaceAll Lib.replace Lib.replaceNum Lib.count
  have h1 : ([c] == new) = false := by rw [beq_eq_false_iff_ne]; exact fun h => hne h.symm
  rw [h1, if_neg (by decide), if_pos (Or.inl (by decide))]
  exact replaceK_one c new _ s (by omega)
theorem qs_repl (s : List UInt8) : Lib.replaceAll (Lib.replaceAll s [92] [92, 92]) [34] [92, 34] = qs s := by
  rw [replaceAll_one 34 _ (by decide), replaceAll_one 92 _ (by decide)]
  unfold qs
  rw [List.flatMap_assoc]
  congr 1
  funext b
  by_cases h1 : b = 92
  · subst h1; decide
  · by_cases h2 : b = 34
    · subst h2; decide
    · have e1 : ¬ b.toNat = 34 := fun h => h2 (UInt8.toNat_inj.1 (by rw [h]; rfl))
      have e2 : ¬ b.toNat = 92 := fun h => h1 (UInt8.toNat_inj.1 (by rw [h]; rfl))
      simp [h1, h2, e1, e2]
theorem repl_len (s : List UInt8) : (Lib.replaceAll s [92] [92, 92]).length ≤ 2 * s.length := by
  rw [replaceAll_one 92 _ (by decide)]
  induction s with
  | nil => simp
  | cons b s ih => rw [List.flatMap_cons, List.length_append, List.length_cons]; split <;> simp only [List.length_cons, List.length_nil] <;> omega
theorem qs_len (s : List UInt8) : (qs s).length ≤ 2 * s.length := by
  unfold qs
  induction s with
  | nil => simp
  | cons b s ih => rw [List.flatMap_cons, List.length_append, List.length_cons]; split <;> simp only [List.length_cons, List.length_nil] <;> omega
theorem countFrom_le (c : UInt8) : ∀ (fuel : Nat) (s : List UInt8), Lib.countFrom [c] fuel s ≤ s.length
  | 0, s => by simp [Lib.countFrom]
  | fuel + 1, s => by
    unfold Lib.countFrom
    split
    · omega
    · rename_i h
      have h1 := Lib.index_ge s [c]
      have h2 : Lib.index s [c] ≠ -1 := fun e => h (by rw [e]; rfl)
      have h3 := Lib.index_room s [c] (by omega)
      have := countFrom_le c fuel (s.drop ((Lib.index s [c]).toNat + [c].length))
      simp only [List.length_drop, List.length_singleton] at this h3 ⊢
      omega
theorem countB_one (c : UInt8) (s : List UInt8) : Lib.countB (str s) (str [c]) ≤ s.length := by
  have : Lib.countB (str s) (str [c]) = Lib.count s [c] := by unfold Lib.countB; rw [str_toList, str_toList]
  rw [this]; exact countFrom_le c _ s
/-- A value's text, as the library joins it. -/
theorem headT_join (l : List V) : Lib.join (l.map text1) [32] ++ [93] = headT l := by
  have ht : ∀ l : List V, Lib.joinTail [32] (l.map text1) ++ [93] = tailT l := by
    intro l
    induction l with
    | nil => rfl
    | cons y l ih =>
      simp only [Lib.joinTail, List.map_cons, List.flatten_cons, List.append_assoc] at ih ⊢
      rw [ih]; rfl
  cases l with
  | nil => rfl
  | cons y l => rw [List.map_cons, Lib.join_cons, List.append_assoc, ht]; rfl
theorem text1_len {x : V} (h : right1 x = true) : (text1 x).length ≤ 130 := by
  have key : ∀ n : Int, -1000000000000000 ≤ n → n ≤ 1000000000000000 → (Lib.itoa n).length ≤ 21 := fun n h1 h2 => Lib.itoa_length_le n (by omega) (by omega)
  rcases right1_inv h with rfl | ⟨n, h1, h2, rfl⟩ | ⟨s, h1, rfl⟩ | ⟨k, n, hk, h1, rfl⟩
  · decide
  · have := key n h1 h2
    show (Lib.itoa n).length ≤ _; omega
  · have h3 := qs_len s
    have h4 := rightText_len h1
    show (34 :: (qs s ++ [34])).length ≤ _
    simp; omega
  · have h5 := rightID_inv h1
    have := key n (by omega) (by omega)
    rcases hk with rfl | rfl
    · show (64 :: Lib.itoa n).length ≤ _; simp; omega
    · show (126 :: Lib.itoa n).length ≤ _; simp; omega
theorem tailT_len : ∀ (l : List V), (∀ y ∈ l, right1 y = true) → (tailT l).length ≤ 131 * l.length + 1
  | [], _ => by decide
  | y :: l, h => by
    have h1 := text1_len (h y (List.mem_cons_self ..))
    have h2 := tailT_len l (fun z hz => h z (List.mem_cons_of_mem _ hz))
    show (32 :: (text1 y ++ tailT l)).length ≤ _
    simp; omega
theorem headT_len (l : List V) (h : ∀ y ∈ l, right1 y = true) : (headT l).length ≤ 131 * l.length + 1 := by
  cases l with
  | nil => decide
  | cons y l =>
    have h1 := text1_len (h y (List.mem_cons_self ..))
    have h2 := tailT_len l (fun z hz => h z (List.mem_cons_of_mem _ hz))
    show (text1 y ++ tailT l).length ≤ _
    simp; omega
theorem textV_len {x : V} (h : rightV x = true) : (textV x).length ≤ 2000 := by
  unfold textV
  by_cases h5 : x.k = 5
  · obtain ⟨_, _, h3, h4⟩ := rightL_inv h h5
    have := headT_len x.l (fun y hy => (h4 y hy).2)
    rw [if_pos h5]; simp; omega
  · rw [if_neg h5]
    have := text1_len (rightV_one h h5); omega
theorem textV_inj {x y : V} (hx : rightV x = true) (hy : rightV y = true) (h : textV x = textV y) : x = y := by
  have h1 := readV_text hx [] (post := []) (by intro c r e; cases e)
  have h2 := readV_text hy [] (post := []) (by intro c r e; cases e)
  rw [h, h2] at h1
  have := Option.some.inj h1
  exact (congrArg Prod.fst this).symm
end Go.Proofs.YthjphllpkcnehaaGreatDoor
end

section
/- The code of some functions, as Sh has it (printed by a program). No statement of the program is proved here. -/
namespace Go.Sh.Cd2
open Go Go.Sh
set_option maxRecDepth 100000
-- morainelaw03.ValWritten
abbrev c_morainelaw03_ValWritten_0 : SCode := .reg [([4, 5], [⟨(some 4), none, none, .box (.tmp 0)⟩, ⟨(some 5), none, none, .box (.tmp 1)⟩, ⟨(some 8), none, none, .mov (.val (.bool false))⟩])] [0, 1, 8]
abbrev c_morainelaw03_ValWritten_1 : SCode := .reg [([2096, 2097, 2098, 2099], [⟨(some 24), none, none, .call 15 0 []⟩, ⟨(some 9), none, none, .mov (.tmp 24)⟩])] [24]
abbrev c_morainelaw03_ValWritten_2 : SCode := .reg [([2104, 2105, 2106, 2107, 10], [⟨(some 25), none, none, .ld true 4 (.tmp 4)⟩, ⟨(some 26), none, none, .call 16 0 [(.tmp 25)]⟩, ⟨(some 10), none, none, .new [(.int .i64 0), (.int .i64 0), (.string ⟨#[]⟩), (.slice none 0 0)]⟩, ⟨none, none, none, .st 4 (.tmp 10) (.tmp 26)⟩])] [4, 25, 26]
abbrev c_morainelaw03_ValWritten_3 : SCode := .reg [([2112, 2113, 2114, 2115, 11], [⟨(some 27), none, none, .ld true 4 (.tmp 5)⟩, ⟨(some 28), none, none, .call 16 0 [(.tmp 27)]⟩, ⟨(some 11), none, none, .new [(.int .i64 0), (.int .i64 0), (.string ⟨#[]⟩), (.slice none 0 0)]⟩, ⟨none, none, none, .st 4 (.tmp 11) (.tmp 28)⟩])] [5, 27, 28]
abbrev c_morainelaw03_ValWritten_4 : SCode := .reg [([2124, 2125, 2126, 2127], [⟨(some 30), none, none, .ld true 4 (.tmp 10)⟩, ⟨(some 31), none, none, .call 17 0 [(.tmp 30)]⟩, ⟨(some 29), none, none, .mov (.tmp 31)⟩, ⟨(some 32), none, none, .ext (.tmp 29) 0⟩, ⟨(some 33), none, none, .ext (.tmp 29) 1⟩, ⟨(some 12), none, none, .mov (.tmp 32)⟩, ⟨(some 13), none, none, .mov (.tmp 33)⟩])] [29, 30, 31, 32, 33]
abbrev c_morainelaw03_ValWritten_5 : SCode := .reg [([2144, 2145, 2146, 2147], [⟨(some 35), none, none, .ld true 4 (.tmp 11)⟩, ⟨(some 36), none, none, .call 17 0 [(.tmp 35)]⟩, ⟨(some 34), none, none, .mov (.tmp 36)⟩, ⟨(some 37), none, none, .ext (.tmp 34) 0⟩, ⟨(some 38), none, none, .ext (.tmp 34) 1⟩, ⟨(some 14), none, none, .mov (.tmp 37)⟩, ⟨(some 15), none, none, .mov (.tmp 38)⟩])] [34, 35, 36, 37, 38]
abbrev c_morainelaw03_ValWritten_6 : SCode := .reg [([], [⟨(some 39), none, none, .mov (.tmp 2)⟩, ⟨(some 40), none, none, .mov (.tmp 2)⟩, ⟨(some 41), none, none, .slen (.tmp 40)⟩, ⟨(some 42), none, none, .imm false (.tmp 41) (.val (.int .i64 20))⟩, ⟨(some 43), none, none, .ssub (.tmp 39) none (some (.tmp 42))⟩, ⟨(some 16), none, none, .mov (.tmp 43)⟩])] [2, 39, 40, 41, 42, 43]
abbrev c_morainelaw03_ValWritten_7 : SCode := .reg [([2228, 2229, 2230, 2231, 17], [⟨(some 45), none, none, .mov (.tmp 16)⟩, ⟨(some 46), none, none, .mov (.tmp 12)⟩, ⟨(some 47), none, none, .bin .add 9 (.tmp 45) (.tmp 46)⟩, ⟨(some 48), none, none, .bin .add 9 (.tmp 47) (.val (.string ⟨#[32]⟩))⟩, ⟨(some 49), none, none, .mov (.tmp 3)⟩, ⟨(some 50), none, none, .mov (.tmp 3)⟩, ⟨(some 51), none, none, .slen (.tmp 50)⟩, ⟨(some 52), none, none, .imm false (.tmp 51) (.val (.int .i64 20))⟩, ⟨(some 53), none, none, .ssub (.tmp 49) none (some (.tmp 52))⟩, ⟨(some 54), none, none, .bin .add 9 (.tmp 48) (.tmp 53)⟩, ⟨(some 55), none, none, .mov (.tmp 16)⟩, ⟨(some 56), none, none, .slen (.tmp 55)⟩, ⟨(some 57), none, none, .call 18 0 [(.tmp 54), (.tmp 56)]⟩, ⟨(some 44), none, none, .mov (.tmp 57)⟩, ⟨(some 58), none, none, .ext (.tmp 44) 0⟩, ⟨(some 59), none, none, .ext (.tmp 44) 1⟩, ⟨(some 60), none, none, .ext (.tmp 44) 2⟩, ⟨(some 17), none, none, .new [(.int .i64 0), (.int .i64 0), (.string ⟨#[]⟩), (.slice none 0 0)]⟩, ⟨none, none, none, .st 4 (.tmp 17) (.tmp 58)⟩, ⟨(some 18), none, none, .mov (.tmp 59)⟩, ⟨(some 19), none, none, .mov (.tmp 60)⟩])] [3, 44, 45, 46, 47, 48, 49, 50, 51, 52, 53, 54, 55, 56, 57, 58, 59, 60]
abbrev c_morainelaw03_ValWritten_8 : SCode := .reg [([2268, 2269, 2270, 2271, 20], [⟨(some 62), none, none, .mov (.tmp 16)⟩, ⟨(some 63), none, none, .mov (.tmp 12)⟩, ⟨(some 64), none, none, .bin .add 9 (.tmp 62) (.tmp 63)⟩, ⟨(some 65), none, none, .mov (.tmp 16)⟩, ⟨(some 66), none, none, .slen (.tmp 65)⟩, ⟨(some 67), none, none, .call 18 0 [(.tmp 64), (.tmp 66)]⟩, ⟨(some 61), none, none, .mov (.tmp 67)⟩, ⟨(some 68), none, none, .ext (.tmp 61) 0⟩, ⟨(some 69), none, none, .ext (.tmp 61) 1⟩, ⟨(some 70), none, none, .ext (.tmp 61) 2⟩, ⟨(some 20), none, none, .new [(.int .i64 0), (.int .i64 0), (.string ⟨#[]⟩), (.slice none 0 0)]⟩, ⟨none, none, none, .st 4 (.tmp 20) (.tmp 68)⟩, ⟨(some 21), none, none, .mov (.tmp 69)⟩, ⟨(some 22), none, none, .mov (.tmp 70)⟩])] [61, 62, 63, 64, 65, 66, 67, 68, 69, 70]
abbrev c_morainelaw03_ValWritten_9 : SCode := .reg [([2292, 2293, 2294, 2295], [⟨(some 71), none, none, .ld true 4 (.tmp 10)⟩, ⟨(some 72), none, none, .ld true 4 (.tmp 11)⟩, ⟨(some 73), none, none, .call 19 0 [(.tmp 71), (.tmp 72)]⟩, ⟨(some 23), none, none, .mov (.tmp 73)⟩])] [11, 71, 72, 73]
abbrev c_morainelaw03_ValWritten_10 : SCode := .reg [([2396, 2397, 2398, 2399, 2452, 2453, 2454, 2455], [⟨(some 74), none, none, .mov (.tmp 9)⟩, ⟨(some 75), none, none, .mov (.tmp 74)⟩, ⟨(some 76), (some (75, true)), none, .mov (.tmp 13)⟩, ⟨(some 77), (some (75, true)), none, .bin .eql 28 (.tmp 76) (.val (.int .i64 0))⟩, ⟨(some 78), none, none, .pick (.tmp 75) (.tmp 77) (.val (.bool false))⟩, ⟨(some 79), none, none, .mov (.tmp 78)⟩, ⟨(some 80), (some (79, true)), none, .mov (.tmp 15)⟩, ⟨(some 81), (some (79, true)), none, .bin .eql 28 (.tmp 80) (.val (.int .i64 0))⟩, ⟨(some 82), none, none, .pick (.tmp 79) (.tmp 81) (.val (.bool false))⟩, ⟨(some 83), none, none, .mov (.tmp 82)⟩, ⟨(some 84), (some (83, true)), none, .mov (.tmp 19)⟩, ⟨(some 85), (some (83, true)), none, .bin .eql 28 (.tmp 84) (.val (.int .i64 0))⟩, ⟨(some 86), none, none, .pick (.tmp 83) (.tmp 85) (.val (.bool false))⟩, ⟨(some 87), none, none, .mov (.tmp 86)⟩, ⟨(some 88), (some (87, true)), none, .mov (.tmp 18)⟩, ⟨(some 89), (some (87, true)), none, .mov (.tmp 16)⟩, ⟨(some 90), (some (87, true)), none, .slen (.tmp 89)⟩, ⟨(some 91), (some (87, true)), none, .mov (.tmp 12)⟩, ⟨(some 92), (some (87, true)), none, .slen (.tmp 91)⟩, ⟨(some 93), (some (87, true)), none, .bin .add 3 (.tmp 90) (.tmp 92)⟩, ⟨(some 94), (some (87, true)), none, .bin .eql 3 (.tmp 88) (.tmp 93)⟩, ⟨(some 95), none, none, .pick (.tmp 87) (.tmp 94) (.val (.bool false))⟩, ⟨(some 96), none, none, .mov (.tmp 95)⟩, ⟨(some 97), (some (96, true)), none, .ld true 4 (.tmp 17)⟩, ⟨(some 98), (some (96, true)), none, .ld true 4 (.tmp 10)⟩, ⟨(some 99), (some (96, true)), none, .call 19 0 [(.tmp 97), (.tmp 98)]⟩, ⟨(some 100), none, none, .pick (.tmp 96) (.tmp 99) (.val (.bool false))⟩, ⟨(some 101), none, none, .mov (.tmp 100)⟩, ⟨(some 102), (some (101, true)), none, .mov (.tmp 22)⟩, ⟨(some 103), (some (101, true)), none, .bin .eql 28 (.tmp 102) (.val (.int .i64 0))⟩, ⟨(some 104), none, none, .pick (.tmp 101) (.tmp 103) (.val (.bool false))⟩, ⟨(some 105), none, none, .mov (.tmp 104)⟩, ⟨(some 106), (some (105, true)), none, .mov (.tmp 21)⟩, ⟨(some 107), (some (105, true)), none, .mov (.tmp 18)⟩, ⟨(some 108), (some (105, true)), none, .bin .eql 3 (.tmp 106) (.tmp 107)⟩, ⟨(some 109), none, none, .pick (.tmp 105) (.tmp 108) (.val (.bool false))⟩, ⟨(some 110), none, none, .mov (.tmp 109)⟩, ⟨(some 111), (some (110, true)), none, .ld true 4 (.tmp 20)⟩, ⟨(some 112), (some (110, true)), none, .ld true 4 (.tmp 10)⟩, ⟨(some 113), (some (110, true)), none, .call 19 0 [(.tmp 111), (.tmp 112)]⟩, ⟨(some 114), none, none, .pick (.tmp 110) (.tmp 113) (.val (.bool false))⟩, ⟨(some 115), none, none, .mov (.tmp 114)⟩, ⟨(some 116), (some (115, true)), none, .mov (.tmp 12)⟩, ⟨(some 117), (some (115, true)), none, .mov (.tmp 14)⟩, ⟨(some 118), (some (115, true)), none, .bin .eql 9 (.tmp 116) (.tmp 117)⟩, ⟨(some 119), (some (115, true)), none, .mov (.tmp 23)⟩, ⟨(some 120), (some (115, true)), none, .bin .eql 4 (.tmp 118) (.tmp 119)⟩, ⟨(some 121), none, none, .pick (.tmp 115) (.tmp 120) (.val (.bool false))⟩, ⟨(some 8), none, none, .mov (.tmp 121)⟩])] [9, 10, 12, 13, 14, 15, 16, 17, 18, 19, 20, 21, 22, 23, 74, 75, 76, 77, 78, 79, 80, 81, 82, 83, 84, 85, 86, 87, 88, 89, 90, 91, 92, 93, 94, 95, 96, 97, 98, 99, 100, 101, 102, 103, 104, 105, 106, 107, 108, 109, 110, 111, 112, 113, 114, 115, 116, 117, 118, 119, 120, 121]
abbrev F_morainelaw03_ValWritten : SFunc := ⟨122, (.seq c_morainelaw03_ValWritten_0 (.seq c_morainelaw03_ValWritten_1 (.seq c_morainelaw03_ValWritten_2 (.seq c_morainelaw03_ValWritten_3 (.seq c_morainelaw03_ValWritten_4 (.seq c_morainelaw03_ValWritten_5 (.seq c_morainelaw03_ValWritten_6 (.seq c_morainelaw03_ValWritten_7 (.seq c_morainelaw03_ValWritten_8 (.seq c_morainelaw03_ValWritten_9 (.seq c_morainelaw03_ValWritten_10 .ret))))))))))), [.tmp 8], false⟩
theorem tf_morainelaw03_ValWritten : transFunc Go.Proofs.Tryz.prog 5 (hintT [(24, 0), (26, 0), (28, 0), (31, 0), (36, 0), (57, 0), (67, 0), (73, 0), (99, 0), (113, 0)]) (fpT []) (killT [(0, [0, 1, 8]), (1, [24]), (2, [4, 25, 26]), (3, [5, 27, 28]), (4, [29, 30, 31, 32, 33]), (5, [34, 35, 36, 37, 38]), (6, [2, 39, 40, 41, 42, 43]), (7, [3, 44, 45, 46, 47, 48, 49, 50, 51, 52, 53, 54, 55, 56, 57, 58, 59, 60]), (8, [61, 62, 63, 64, 65, 66, 67, 68, 69, 70]), (9, [11, 71, 72, 73]), (10, [9, 10, 12, 13, 14, 15, 16, 17, 18, 19, 20, 21, 22, 23, 74, 75, 76, 77, 78, 79, 80, 81, 82, 83, 84, 85, 86, 87, 88, 89, 90, 91, 92, 93, 94, 95, 96, 97, 98, 99, 100, 101, 102, 103, 104, 105, 106, 107, 108, 109, 110, 111, 112, 113, 114, 115, 116, 117, 118, 119, 120, 121])]) false = some F_morainelaw03_ValWritten := by kernel_rfl
-- val.Text
abbrev c_val_Text_0 : SCode := .reg [([1], [⟨(some 1), none, none, .box (.tmp 0)⟩, ⟨(some 2), none, none, .mov (.val (.string ⟨#[]⟩))⟩, ⟨(some 3), none, none, .mov (.val (.int .i64 0))⟩])] [0, 2, 3]
abbrev c_val_Text_1 : SCode := .reg [([2020, 2021, 2022, 2023], [⟨(some 4), none, none, .ld true 4 (.tmp 1)⟩, ⟨(some 5), none, none, .call 28 0 [(.tmp 4)]⟩, ⟨(some 6), none, none, .un .not (.tmp 5)⟩])] [4, 5]
abbrev c_val_Text_2 : SCode := .reg [([], [⟨(some 2), none, none, .mov (.val (.string ⟨#[]⟩))⟩, ⟨(some 3), none, none, .mov (.val (.int .i64 30))⟩])] [1, 6]
abbrev c_val_Text_3 : SCode := .reg [([2032, 2033, 2034, 2035], [⟨(some 7), none, none, .ld true 4 (.tmp 1)⟩, ⟨(some 8), none, none, .call 54 0 [(.tmp 7)]⟩, ⟨(some 2), none, none, .mov (.tmp 8)⟩, ⟨(some 3), none, none, .mov (.val (.int .i64 0))⟩])] [1, 6, 7, 8]
abbrev F_val_Text : SFunc := ⟨9, (.seq c_val_Text_0 (.seq (.seq c_val_Text_1 (.cond (.tmp 6) (.seq c_val_Text_2 .ret) .skip)) (.seq c_val_Text_3 .ret))), [.tmp 2, .tmp 3], false⟩
theorem tf_val_Text : transFunc Go.Proofs.Tryz.prog 17 (hintT [(5, 0), (8, 0)]) (fpT []) (killT [(0, [0, 2, 3]), (1, [4, 5]), (2, [1, 6]), (3, [1, 6, 7, 8])]) false = some F_val_Text := by kernel_rfl
-- val.written
abbrev c_val_written_0 : SCode := .reg [([1], [⟨(some 1), none, none, .box (.tmp 0)⟩, ⟨(some 2), none, none, .mov (.val (.string ⟨#[]⟩))⟩])] [0, 2]
abbrev c_val_written_1 : SCode := .reg [([], [⟨(some 7), none, none, .fldA 0 (.tmp 1)⟩, ⟨(some 8), none, none, .ld false 1 (.tmp 7)⟩])] [7]
abbrev c_val_written_2 : SCode := .reg [([], [⟨(some 10), none, none, .bin .eql 3 (.tmp 8) (.val (.int .i64 1))⟩, ⟨(some 9), none, none, .mov (.tmp 10)⟩])] [10]
abbrev c_val_written_3 : SCode := .reg [([2052, 2053, 2054, 2055], [⟨(some 11), none, none, .fldA 1 (.tmp 1)⟩, ⟨(some 12), none, none, .ld false 1 (.tmp 11)⟩, ⟨(some 13), none, none, .call 93 0 [(.tmp 12)]⟩, ⟨(some 2), none, none, .mov (.tmp 13)⟩])] [1, 8, 9, 11, 12, 13]
abbrev c_val_written_4 : SCode := .reg [([], [⟨(some 15), none, none, .bin .eql 3 (.tmp 8) (.val (.int .i64 2))⟩, ⟨(some 14), none, none, .mov (.tmp 15)⟩])] [9, 15]
abbrev c_val_written_5 : SCode := .reg [([2072, 2073, 2074, 2075], [⟨(some 16), none, none, .fldA 2 (.tmp 1)⟩, ⟨(some 17), none, none, .ld false 1 (.tmp 16)⟩, ⟨(some 18), none, none, .call 94 0 [(.tmp 17), (.val (.string ⟨#[92]⟩)), (.val (.string ⟨#[92, 92]⟩))]⟩, ⟨(some 3), none, none, .mov (.tmp 18)⟩])] [1, 8, 14, 16, 17, 18]
abbrev c_val_written_6 : SCode := .reg [([2080, 2081, 2082, 2083], [⟨(some 19), none, none, .mov (.tmp 3)⟩, ⟨(some 20), none, none, .call 94 0 [(.tmp 19), (.val (.string ⟨#[34]⟩)), (.val (.string ⟨#[92, 34]⟩))]⟩, ⟨(some 21), none, none, .bin .add 9 (.val (.string ⟨#[34]⟩)) (.tmp 20)⟩, ⟨(some 22), none, none, .bin .add 9 (.tmp 21) (.val (.string ⟨#[34]⟩))⟩, ⟨(some 2), none, none, .mov (.tmp 22)⟩])] [3, 19, 20, 21, 22]
abbrev c_val_written_7 : SCode := .reg [([], [⟨(some 24), none, none, .bin .eql 3 (.tmp 8) (.val (.int .i64 3))⟩, ⟨(some 23), none, none, .mov (.tmp 24)⟩])] [14, 24]
abbrev c_val_written_8 : SCode := .reg [([2108, 2109, 2110, 2111], [⟨(some 25), none, none, .fldA 1 (.tmp 1)⟩, ⟨(some 26), none, none, .ld false 1 (.tmp 25)⟩, ⟨(some 27), none, none, .call 93 0 [(.tmp 26)]⟩, ⟨(some 28), none, none, .bin .add 9 (.val (.string ⟨#[64]⟩)) (.tmp 27)⟩, ⟨(some 2), none, none, .mov (.tmp 28)⟩])] [1, 8, 23, 25, 26, 27, 28]
abbrev c_val_written_9 : SCode := .reg [([], [⟨(some 30), none, none, .bin .eql 3 (.tmp 8) (.val (.int .i64 4))⟩, ⟨(some 29), none, none, .mov (.tmp 30)⟩])] [23, 30]
abbrev c_val_written_10 : SCode := .reg [([2132, 2133, 2134, 2135], [⟨(some 31), none, none, .fldA 1 (.tmp 1)⟩, ⟨(some 32), none, none, .ld false 1 (.tmp 31)⟩, ⟨(some 33), none, none, .call 93 0 [(.tmp 32)]⟩, ⟨(some 34), none, none, .bin .add 9 (.val (.string ⟨#[126]⟩)) (.tmp 33)⟩, ⟨(some 2), none, none, .mov (.tmp 34)⟩])] [1, 8, 29, 31, 32, 33, 34]
abbrev c_val_written_11 : SCode := .reg [([], [⟨(some 36), none, none, .bin .eql 3 (.tmp 8) (.val (.int .i64 5))⟩, ⟨(some 35), none, none, .mov (.tmp 36)⟩])] [8, 29, 36]
abbrev c_val_written_12 : SCode := .reg [([40], [⟨(some 37), none, none, .fldA 3 (.tmp 1)⟩, ⟨(some 38), none, none, .ld false 1 (.tmp 37)⟩, ⟨(some 39), none, none, .len (.tmp 38)⟩, ⟨(some 40), none, none, .mks 16 [(.string ⟨#[]⟩)] (.tmp 39)⟩, ⟨(some 4), none, none, .mov (.tmp 40)⟩])] [35, 37, 38, 39, 40]
abbrev c_val_written_13 : SCode := .reg [([], [⟨(some 41), none, none, .fldA 3 (.tmp 1)⟩, ⟨(some 42), none, none, .ld false 1 (.tmp 41)⟩, ⟨(some 43), none, none, .len (.tmp 42)⟩, ⟨(some 44), none, none, .mov (.val (.int .i64 0))⟩])] [1, 41]
abbrev c_val_written_14 : SCode := .reg [([], [⟨(some 45), none, none, .bin .lss 3 (.tmp 44) (.tmp 43)⟩])] []
abbrev c_val_written_15 : SCode := .reg [([6], [⟨(some 46), none, none, .mov (.tmp 44)⟩, ⟨(some 47), none, none, .idxA 4 (.tmp 42) (.tmp 44)⟩, ⟨(some 48), none, none, .ld true 4 (.tmp 47)⟩, ⟨(some 6), none, none, .new [(.int .i64 0), (.int .i64 0), (.string ⟨#[]⟩), (.slice none 0 0)]⟩, ⟨(some 5), none, none, .mov (.tmp 46)⟩, ⟨none, none, none, .st 4 (.tmp 6) (.tmp 48)⟩])] [45, 46, 47, 48]
abbrev c_val_written_16 : SCode := .reg [([2208, 2209, 2210, 2211], [⟨(some 49), none, none, .mov (.tmp 4)⟩, ⟨(some 50), none, none, .mov (.tmp 5)⟩, ⟨(some 51), none, none, .ld true 4 (.tmp 6)⟩, ⟨(some 52), none, none, .call 54 0 [(.tmp 51)]⟩, ⟨(some 53), none, none, .idxA 1 (.tmp 49) (.tmp 50)⟩, ⟨none, none, none, .st 1 (.tmp 53) (.tmp 52)⟩])] [5, 6, 49, 50, 51, 52, 53]
abbrev c_val_written_17 : SCode := .reg [([], [⟨(some 54), none, none, .bin .add 3 (.tmp 44) (.val (.int .i64 1))⟩, ⟨(some 44), none, none, .mov (.tmp 54)⟩])] [54]
abbrev c_val_written_18 : SCode := (.seq c_val_written_14 (.seq (.cond (.tmp 45) .skip (.exit 1)) (.seq (.block 2 (.seq c_val_written_15 c_val_written_16)) c_val_written_17)))
abbrev c_val_written_19 : SCode := .reg [([2224, 2225, 2226, 2227], [⟨(some 55), none, none, .mov (.tmp 4)⟩, ⟨(some 56), none, none, .call 96 1 [(.tmp 55), (.val (.string ⟨#[32]⟩))]⟩, ⟨(some 57), none, none, .bin .add 9 (.val (.string ⟨#[91]⟩)) (.tmp 56)⟩, ⟨(some 58), none, none, .bin .add 9 (.tmp 57) (.val (.string ⟨#[93]⟩))⟩, ⟨(some 2), none, none, .mov (.tmp 58)⟩])] [4, 42, 43, 44, 55, 56, 57, 58]
abbrev c_val_written_20 : SCode := .reg [([], [⟨(some 2), none, none, .mov (.val (.string ⟨#[45]⟩))⟩])] [1, 35]
abbrev F_val_written : SFunc := ⟨59, (.seq c_val_written_0 (.seq (.seq c_val_written_1 (.block 0 (.seq c_val_written_2 (.cond (.tmp 9) (.seq c_val_written_3 .ret) (.seq c_val_written_4 (.cond (.tmp 14) (.seq c_val_written_5 (.seq c_val_written_6 .ret)) (.seq c_val_written_7 (.cond (.tmp 23) (.seq c_val_written_8 .ret) (.seq c_val_written_9 (.cond (.tmp 29) (.seq c_val_written_10 .ret) (.seq c_val_written_11 (.cond (.tmp 35) (.seq c_val_written_12 (.seq (.seq c_val_written_13 (.block 1 (.loop c_val_written_18))) (.seq c_val_written_19 .ret))) .skip)))))))))))) (.seq c_val_written_20 .ret))), [.tmp 2], false⟩
theorem tf_val_written : transFunc Go.Proofs.Tryz.prog 54 (hintT [(13, 0), (18, 0), (20, 0), (27, 0), (33, 0), (52, 0), (56, 1)]) (fpT []) (killT [(0, [0, 2]), (1, [7]), (2, [10]), (3, [1, 8, 9, 11, 12, 13]), (4, [9, 15]), (5, [1, 8, 14, 16, 17, 18]), (6, [3, 19, 20, 21, 22]), (7, [14, 24]), (8, [1, 8, 23, 25, 26, 27, 28]), (9, [23, 30]), (10, [1, 8, 29, 31, 32, 33, 34]), (11, [8, 29, 36]), (12, [35, 37, 38, 39, 40]), (13, [1, 41]), (15, [45, 46, 47, 48]), (16, [5, 6, 49, 50, 51, 52, 53]), (17, [54]), (18, [4, 42, 43, 44, 55, 56, 57, 58]), (19, [1, 35])]) false = some F_val_written := by kernel_rfl
end Go.Sh.Cd2
end

section
/- How values are written: the program's Text. No statement of the program is proved here. -/
namespace Go.Proofs.YthjphllpkcnehaaGreatDoor
open Go Go.RowKit Go.Mor Go.Sh Go.Sh.Cd1 Go.Sh.Cd2
set_option maxRecDepth 100000
set_option maxHeartbeats 4000000
theorem q34 : (⟨#[34]⟩ : ByteArray) = str [34] := rfl
theorem q64 : (⟨#[64]⟩ : ByteArray) = str [64] := rfl
theorem q126 : (⟨#[126]⟩ : ByteArray) = str [126] := rfl
theorem q91 : (⟨#[91]⟩ : ByteArray) = str [91] := rfl
theorem q93 : (⟨#[93]⟩ : ByteArray) = str [93] := rfl
theorem written1_ok (m : Nat) (x : V) (h : right1 x = true) : SCalls Tryz.prog (glT m) 54 [tv x] [] (S (str (text1 x))) [] := by
  refine call_of0 hmix tf_val_written rfl ?_
  have hI : ∀ n : Int, -1000000000000000 ≤ n → n ≤ 1000000000000000 → SCalls Tryz.prog (glT m) 93 [I n] [] (S (str (Lib.itoa n))) [] := fun n h1 h2 => itoa_ok m n (by omega) (by omega)
  rcases right1_inv h with rfl | ⟨n, h1, h2, rfl⟩ | ⟨s, h1, rfl⟩ | ⟨k, n, hk, h1, rfl⟩
  · simp only [vcA, Nat.reduceLT, Int.reduceEq, Int.reduceAdd, Int.reduceSub, Nat.reduceBEq, Nat.reduceEqDiff, reduceCtorEq, Nat.reduceAdd, Nat.reduceSub, Nat.reduceMul, Nat.reduceLeDiff, Int.reduceToNat, Int.reduceLT, Int.reduceLE, Int.reduceNeg, reduceIte, pvC_fgt, pvC_ids, pvC_ren, pvC_len, I, S, tv, nv, tyT, RawV.tv, R1.row, rowsGet, rowsLen, row4, Vk, Vn, Vs, Vl]
    rfl
  · have HI := hI n h1 h2
    simp only [vcA, Nat.reduceLT, Int.reduceEq, Int.reduceAdd, Int.reduceSub, Nat.reduceBEq, Nat.reduceEqDiff, reduceCtorEq, Nat.reduceAdd, Nat.reduceSub, Nat.reduceMul, Nat.reduceLeDiff, Int.reduceToNat, Int.reduceLT, Int.reduceLE, Int.reduceNeg, reduceIte, pvC_fgt, pvC_ids, pvC_ren, pvC_len, I, S, tv, nv, tyT, RawV.tv, R1.row, rowsGet, rowsLen, row4, Vk, Vn, Vs, Vl]
    (with_reducible apply v_call); (· simp only [vcA, Nat.reduceLT, Int.reduceEq, Int.reduceAdd, Int.reduceSub, Nat.reduceBEq, Nat.reduceEqDiff, reduceCtorEq, Nat.reduceAdd, Nat.reduceSub, Nat.reduceMul, Nat.reduceLeDiff, Int.reduceToNat, Int.reduceLT, Int.reduceLE, Int.reduceNeg, reduceIte, pvC_fgt, pvC_ids, pvC_ren, pvC_len, I, S, tv, nv, tyT, RawV.tv, R1.row, rowsGet, rowsLen, row4, Vk, Vn, Vs, Vl]; with_reducible rfl); (· exact HI); (· first | rfl | (simp only [moOk, nbeq, nble, List.length_nil, beq_self_eq_true, Bool.true_and, Bool.and_true, Bool.and_eq_true, decide_eq_true_eq]; omega)); (· simp only [vcA, Nat.reduceLT, Int.reduceEq, Int.reduceAdd, Int.reduceSub, Nat.reduceBEq, Nat.reduceEqDiff, reduceCtorEq, Nat.reduceAdd, Nat.reduceSub, Nat.reduceMul, Nat.reduceLeDiff, Int.reduceToNat, Int.reduceLT, Int.reduceLE, Int.reduceNeg, reduceIte, pvC_fgt, pvC_ids, pvC_ren, pvC_len, I, S, tv, nv, tyT, RawV.tv, R1.row, rowsGet, rowsLen, row4, Vk, Vn, Vs, Vl]; with_reducible rfl)
    simp only [vcA, Nat.reduceLT, Int.reduceEq, Int.reduceAdd, Int.reduceSub, Nat.reduceBEq, Nat.reduceEqDiff, reduceCtorEq, Nat.reduceAdd, Nat.reduceSub, Nat.reduceMul, Nat.reduceLeDiff, Int.reduceToNat, Int.reduceLT, Int.reduceLE, Int.reduceNeg, reduceIte, pvC_fgt, pvC_ids, pvC_ren, pvC_len, I, S, tv, nv, tyT, RawV.tv, R1.row, rowsGet, rowsLen, row4, Vk, Vn, Vs, Vl]
    rfl
  · have hl := rightText_len h1
    have l1 := repl_len s
    have HR1 := repl_ok m s [92] [92, 92] (by omega) (by decide) (by have := countB_one 92 s; simp only [List.length_cons, List.length_nil]; omega)
    have HR2 := repl_ok m (Lib.replaceAll s [92] [92, 92]) [34] [92, 34] (by omega) (by decide) (by have := countB_one 34 (Lib.replaceAll s [92] [92, 92]); simp only [List.length_cons, List.length_nil]; omega)
    rw [qs_repl] at HR2
    simp only [vcA, Nat.reduceLT, Int.reduceEq, Int.reduceAdd, Int.reduceSub, Nat.reduceBEq, Nat.reduceEqDiff, reduceCtorEq, Nat.reduceAdd, Nat.reduceSub, Nat.reduceMul, Nat.reduceLeDiff, Int.reduceToNat, Int.reduceLT, Int.reduceLE, Int.reduceNeg, reduceIte, pvC_fgt, pvC_ids, pvC_ren, pvC_len, I, S, tv, nv, tyT, RawV.tv, R1.row, rowsGet, rowsLen, row4, Vk, Vn, Vs, Vl]
    (with_reducible apply v_call); (· simp only [vcA, Nat.reduceLT, Int.reduceEq, Int.reduceAdd, Int.reduceSub, Nat.reduceBEq, Nat.reduceEqDiff, reduceCtorEq, Nat.reduceAdd, Nat.reduceSub, Nat.reduceMul, Nat.reduceLeDiff, Int.reduceToNat, Int.reduceLT, Int.reduceLE, Int.reduceNeg, reduceIte, pvC_fgt, pvC_ids, pvC_ren, pvC_len, I, S, tv, nv, tyT, RawV.tv, R1.row, rowsGet, rowsLen, row4, Vk, Vn, Vs, Vl]; with_reducible rfl); (· exact HR1); (· first | rfl | (simp only [moOk, nbeq, nble, List.length_nil, beq_self_eq_true, Bool.true_and, Bool.and_true, Bool.and_eq_true, decide_eq_true_eq]; omega)); (· simp only [vcA, Nat.reduceLT, Int.reduceEq, Int.reduceAdd, Int.reduceSub, Nat.reduceBEq, Nat.reduceEqDiff, reduceCtorEq, Nat.reduceAdd, Nat.reduceSub, Nat.reduceMul, Nat.reduceLeDiff, Int.reduceToNat, Int.reduceLT, Int.reduceLE, Int.reduceNeg, reduceIte, pvC_fgt, pvC_ids, pvC_ren, pvC_len, I, S, tv, nv, tyT, RawV.tv, R1.row, rowsGet, rowsLen, row4, Vk, Vn, Vs, Vl]; with_reducible rfl)
    simp only [vcA, Nat.reduceLT, Int.reduceEq, Int.reduceAdd, Int.reduceSub, Nat.reduceBEq, Nat.reduceEqDiff, reduceCtorEq, Nat.reduceAdd, Nat.reduceSub, Nat.reduceMul, Nat.reduceLeDiff, Int.reduceToNat, Int.reduceLT, Int.reduceLE, Int.reduceNeg, reduceIte, pvC_fgt, pvC_ids, pvC_ren, pvC_len, I, S, tv, nv, tyT, RawV.tv, R1.row, rowsGet, rowsLen, row4, Vk, Vn, Vs, Vl]
    (with_reducible apply v_call); (· simp only [vcA, Nat.reduceLT, Int.reduceEq, Int.reduceAdd, Int.reduceSub, Nat.reduceBEq, Nat.reduceEqDiff, reduceCtorEq, Nat.reduceAdd, Nat.reduceSub, Nat.reduceMul, Nat.reduceLeDiff, Int.reduceToNat, Int.reduceLT, Int.reduceLE, Int.reduceNeg, reduceIte, pvC_fgt, pvC_ids, pvC_ren, pvC_len, I, S, tv, nv, tyT, RawV.tv, R1.row, rowsGet, rowsLen, row4, Vk, Vn, Vs, Vl]; with_reducible rfl); (· exact HR2); (· first | rfl | (simp only [moOk, nbeq, nble, List.length_nil, beq_self_eq_true, Bool.true_and, Bool.and_true, Bool.and_eq_true, decide_eq_true_eq]; omega)); (· simp only [vcA, Nat.reduceLT, Int.reduceEq, Int.reduceAdd, Int.reduceSub, Nat.reduceBEq, Nat.reduceEqDiff, reduceCtorEq, Nat.reduceAdd, Nat.reduceSub, Nat.reduceMul, Nat.reduceLeDiff, Int.reduceToNat, Int.reduceLT, Int.reduceLE, Int.reduceNeg, reduceIte, pvC_fgt, pvC_ids, pvC_ren, pvC_len, I, S, tv, nv, tyT, RawV.tv, R1.row, rowsGet, rowsLen, row4, Vk, Vn, Vs, Vl]; with_reducible rfl)
    have l2 := qs_len s
    simp only [vcA, Nat.reduceLT, Int.reduceEq, Int.reduceAdd, Int.reduceSub, Nat.reduceBEq, Nat.reduceEqDiff, reduceCtorEq, Nat.reduceAdd, Nat.reduceSub, Nat.reduceMul, Nat.reduceLeDiff, Int.reduceToNat, Int.reduceLT, Int.reduceLE, Int.reduceNeg, reduceIte, pvC_fgt, pvC_ids, pvC_ren, pvC_len, I, S, tv, nv, tyT, RawV.tv, R1.row, rowsGet, rowsLen, row4, Vk, Vn, Vs, Vl, q34]
    exact ⟨by omega, by omega, rfl⟩
  · have h5 := rightID_inv h1
    have HI := hI n (by omega) (by omega)
    have l2 := Lib.itoa_length_le n (by omega) (by omega)
    rcases hk with rfl | rfl
    · simp only [vcA, Nat.reduceLT, Int.reduceEq, Int.reduceAdd, Int.reduceSub, Nat.reduceBEq, Nat.reduceEqDiff, reduceCtorEq, Nat.reduceAdd, Nat.reduceSub, Nat.reduceMul, Nat.reduceLeDiff, Int.reduceToNat, Int.reduceLT, Int.reduceLE, Int.reduceNeg, reduceIte, pvC_fgt, pvC_ids, pvC_ren, pvC_len, I, S, tv, nv, tyT, RawV.tv, R1.row, rowsGet, rowsLen, row4, Vk, Vn, Vs, Vl]
      (with_reducible apply v_call); (· simp only [vcA, Nat.reduceLT, Int.reduceEq, Int.reduceAdd, Int.reduceSub, Nat.reduceBEq, Nat.reduceEqDiff, reduceCtorEq, Nat.reduceAdd, Nat.reduceSub, Nat.reduceMul, Nat.reduceLeDiff, Int.reduceToNat, Int.reduceLT, Int.reduceLE, Int.reduceNeg, reduceIte, pvC_fgt, pvC_ids, pvC_ren, pvC_len, I, S, tv, nv, tyT, RawV.tv, R1.row, rowsGet, rowsLen, row4, Vk, Vn, Vs, Vl]; with_reducible rfl); (· exact HI); (· first | rfl | (simp only [moOk, nbeq, nble, List.length_nil, beq_self_eq_true, Bool.true_and, Bool.and_true, Bool.and_eq_true, decide_eq_true_eq]; omega)); (· simp only [vcA, Nat.reduceLT, Int.reduceEq, Int.reduceAdd, Int.reduceSub, Nat.reduceBEq, Nat.reduceEqDiff, reduceCtorEq, Nat.reduceAdd, Nat.reduceSub, Nat.reduceMul, Nat.reduceLeDiff, Int.reduceToNat, Int.reduceLT, Int.reduceLE, Int.reduceNeg, reduceIte, pvC_fgt, pvC_ids, pvC_ren, pvC_len, I, S, tv, nv, tyT, RawV.tv, R1.row, rowsGet, rowsLen, row4, Vk, Vn, Vs, Vl]; with_reducible rfl)
      simp only [vcA, Nat.reduceLT, Int.reduceEq, Int.reduceAdd, Int.reduceSub, Nat.reduceBEq, Nat.reduceEqDiff, reduceCtorEq, Nat.reduceAdd, Nat.reduceSub, Nat.reduceMul, Nat.reduceLeDiff, Int.reduceToNat, Int.reduceLT, Int.reduceLE, Int.reduceNeg, reduceIte, pvC_fgt, pvC_ids, pvC_ren, pvC_len, I, S, tv, nv, tyT, RawV.tv, R1.row, rowsGet, rowsLen, row4, Vk, Vn, Vs, Vl, q64]
      exact ⟨by omega, rfl⟩
    · simp only [vcA, Nat.reduceLT, Int.reduceEq, Int.reduceAdd, Int.reduceSub, Nat.reduceBEq, Nat.reduceEqDiff, reduceCtorEq, Nat.reduceAdd, Nat.reduceSub, Nat.reduceMul, Nat.reduceLeDiff, Int.reduceToNat, Int.reduceLT, Int.reduceLE, Int.reduceNeg, reduceIte, pvC_fgt, pvC_ids, pvC_ren, pvC_len, I, S, tv, nv, tyT, RawV.tv, R1.row, rowsGet, rowsLen, row4, Vk, Vn, Vs, Vl]
      (with_reducible apply v_call); (· simp only [vcA, Nat.reduceLT, Int.reduceEq, Int.reduceAdd, Int.reduceSub, Nat.reduceBEq, Nat.reduceEqDiff, reduceCtorEq, Nat.reduceAdd, Nat.reduceSub, Nat.reduceMul, Nat.reduceLeDiff, Int.reduceToNat, Int.reduceLT, Int.reduceLE, Int.reduceNeg, reduceIte, pvC_fgt, pvC_ids, pvC_ren, pvC_len, I, S, tv, nv, tyT, RawV.tv, R1.row, rowsGet, rowsLen, row4, Vk, Vn, Vs, Vl]; with_reducible rfl); (· exact HI); (· first | rfl | (simp only [moOk, nbeq, nble, List.length_nil, beq_self_eq_true, Bool.true_and, Bool.and_true, Bool.and_eq_true, decide_eq_true_eq]; omega)); (· simp only [vcA, Nat.reduceLT, Int.reduceEq, Int.reduceAdd, Int.reduceSub, Nat.reduceBEq, Nat.reduceEqDiff, reduceCtorEq, Nat.reduceAdd, Nat.reduceSub, Nat.reduceMul, Nat.reduceLeDiff, Int.reduceToNat, Int.reduceLT, Int.reduceLE, Int.reduceNeg, reduceIte, pvC_fgt, pvC_ids, pvC_ren, pvC_len, I, S, tv, nv, tyT, RawV.tv, R1.row, rowsGet, rowsLen, row4, Vk, Vn, Vs, Vl]; with_reducible rfl)
      simp only [vcA, Nat.reduceLT, Int.reduceEq, Int.reduceAdd, Int.reduceSub, Nat.reduceBEq, Nat.reduceEqDiff, reduceCtorEq, Nat.reduceAdd, Nat.reduceSub, Nat.reduceMul, Nat.reduceLeDiff, Int.reduceToNat, Int.reduceLT, Int.reduceLE, Int.reduceNeg, reduceIte, pvC_fgt, pvC_ids, pvC_ren, pvC_len, I, S, tv, nv, tyT, RawV.tv, R1.row, rowsGet, rowsLen, row4, Vk, Vn, Vs, Vl, q126]
      exact ⟨by omega, rfl⟩
/-- The parts' texts, as far as they are made. -/
def partP (l : List V) (i : Nat) : List PV := (l.take i).map (fun x => PV.v (.string (str (text1 x)))) ++ List.replicate (l.length - i) (.v (.string (str [])))
theorem partP_0 (l : List V) : pvC (partP l 0) = (List.replicate l.length [TV.pv (.v (.string ⟨#[]⟩))]).flatten := by
  have : ∀ n, (List.replicate n [TV.pv (.v (.string ⟨#[]⟩))]).flatten = List.replicate n (S (str [])) := by
    intro n
    induction n with
    | zero => rfl
    | succ n ih => rw [List.replicate_succ, List.flatten_cons, ih]; rfl
  rw [this]; simp [partP, pvC, S]
theorem partP_len (l : List V) (i : Nat) (h : i ≤ l.length) : (partP l i).length = l.length := by simp [partP]; omega
theorem partP_end (l : List V) : pvC (partP l l.length) = strC (l.map text1) := by simp [partP, strC, Function.comp_def]
theorem partP_succ {l : List V} {i : Nat} {x : V} (h : l[i]? = some x) : List.take i (pvC (partP l i)) ++ [TV.pv (.v (.string (str (text1 x))))] ++ List.drop (i + 1) (pvC (partP l i)) = pvC (partP l (i + 1)) := by
  have hi : i < l.length := (List.getElem?_eq_some_iff.1 h).1
  rw [pvC_set (by rw [partP_len l i (by omega)]; exact hi)]
  congr 1
  have hl : ((l.take i).map (fun x => PV.v (.string (str (text1 x))))).length = i := by simp; omega
  unfold partP
  rw [List.set_append_right _ _ (by omega), hl, Nat.sub_self, List.take_add_one, h, show l.length - i = (l.length - (i + 1)) + 1 by omega, List.replicate_succ, List.set_cons_zero]
  simp
theorem written_ok (m : Nat) (x : V) (h : rightV x = true) : SCalls Tryz.prog (glT m) 54 [tv x] [] (S (str (textV x))) [] := by
  unfold textV
  by_cases h5 : x.k = 5
  · rw [if_pos h5]
    obtain ⟨hn, hs, h12, hr⟩ := rightL_inv h h5
    obtain ⟨k, n, s, l⟩ := x
    simp only [Vk, Vn, Vs, Vl] at h5 hn hs h12 hr ⊢
    subst h5; subst hn; subst hs
    have hlen := headT_len l (fun y hy => (hr y hy).2)
    have hj := headT_join l
    have HJ := join_ok m (l.map text1) [32] (by rw [List.length_map]; omega) (by
      have := congrArg List.length hj
      rw [List.length_append] at this
      omega)
    rw [List.length_map, ← partP_end] at HJ
    refine call_of0 hmix tf_val_written rfl ?_
    simp only [vcA, Nat.reduceLT, Int.reduceEq, Int.reduceAdd, Int.reduceSub, Nat.reduceBEq, Nat.reduceEqDiff, reduceCtorEq, Nat.reduceAdd, Nat.reduceSub, Nat.reduceMul, Nat.reduceLeDiff, Int.reduceToNat, Int.reduceLT, Int.reduceLE, Int.reduceNeg, reduceIte, pvC_fgt, pvC_ids, pvC_ren, pvC_len, I, S, tv, nv, tyT, RawV.tv, R1.row, rowsGet, rowsLen, row4, Vk, Vn, Vs, Vl]
    refine ⟨⟨by omega, by unfold maxLen; omega⟩, ?_⟩
    rw [← partP_0]
    refine v_loop (σ := {i : Nat // i ≤ l.length}) (fun i => ⟨[(4, .bs 40 0 l.length l.length), (42, .pv (.sl 4 (V.rows l))), (43, I (l.length : Int)), (44, I (i.1 : Int))], [(40, pvC (partP l i.1))], [], []⟩) (fun i => l.length - i.1) ⟨0, by omega⟩ ?_ ?_
    · apply lw_of <;> simp [leL, lk, sv, Nat.beq, I, S, ES.kill, has, drp, nilT, pvC_fgt]
    rintro ⟨i, hi⟩
    by_cases hlt : i < l.length
    · have d1 : (i : Int) < (l.length : Int) := by omega
      obtain ⟨y, ey⟩ : ∃ y, l[i]? = some y := ⟨_, List.getElem?_eq_getElem hlt⟩
      have HW := written1_ok m y (hr y (List.mem_of_getElem? ey)).2
      have w1 : IntKind.i64.wrap ((i : Int) + 1) = ((i + 1 : Nat) : Int) := by rw [wrap64 (by omega) (by omega)]; omega
      have pl := partP_len l i hi
      have ps := partP_succ ey
      simp only [vcA, Nat.reduceLT, Int.reduceEq, Int.reduceAdd, Int.reduceSub, Nat.reduceBEq, Nat.reduceEqDiff, reduceCtorEq, Nat.reduceAdd, Nat.reduceSub, Nat.reduceMul, Nat.reduceLeDiff, Int.reduceToNat, Int.reduceLT, Int.reduceLE, Int.reduceNeg, reduceIte, pvC_fgt, pvC_ids, pvC_ren, pvC_len, I, S, tv, nv, tyT, RawV.tv, R1.row, rowsGet, rowsLen, row4, Vk, Vn, Vs, Vl, d1, ey]
      (with_reducible apply v_call); (· simp only [vcA, Nat.reduceLT, Int.reduceEq, Int.reduceAdd, Int.reduceSub, Nat.reduceBEq, Nat.reduceEqDiff, reduceCtorEq, Nat.reduceAdd, Nat.reduceSub, Nat.reduceMul, Nat.reduceLeDiff, Int.reduceToNat, Int.reduceLT, Int.reduceLE, Int.reduceNeg, reduceIte, pvC_fgt, pvC_ids, pvC_ren, pvC_len, I, S, tv, nv, tyT, RawV.tv, R1.row, rowsGet, rowsLen, row4, Vk, Vn, Vs, Vl]; with_reducible rfl); (· exact HW); (· first | rfl | (simp only [moOk, nbeq, nble, List.length_nil, beq_self_eq_true, Bool.true_and, Bool.and_true, Bool.and_eq_true, decide_eq_true_eq]; omega)); (· simp only [vcA, Nat.reduceLT, Int.reduceEq, Int.reduceAdd, Int.reduceSub, Nat.reduceBEq, Nat.reduceEqDiff, reduceCtorEq, Nat.reduceAdd, Nat.reduceSub, Nat.reduceMul, Nat.reduceLeDiff, Int.reduceToNat, Int.reduceLT, Int.reduceLE, Int.reduceNeg, reduceIte, pvC_fgt, pvC_ids, pvC_ren, pvC_len, I, S, tv, nv, tyT, RawV.tv, R1.row, rowsGet, rowsLen, row4, Vk, Vn, Vs, Vl]; with_reducible rfl)
      simp only [vcA, Nat.reduceLT, Int.reduceEq, Int.reduceAdd, Int.reduceSub, Nat.reduceBEq, Nat.reduceEqDiff, reduceCtorEq, Nat.reduceAdd, Nat.reduceSub, Nat.reduceMul, Nat.reduceLeDiff, Int.reduceToNat, Int.reduceLT, Int.reduceLE, Int.reduceNeg, reduceIte, pvC_fgt, pvC_ids, pvC_ren, pvC_len, I, S, tv, nv, tyT, RawV.tv, R1.row, rowsGet, rowsLen, row4, Vk, Vn, Vs, Vl, pl, w1, Nat.mul_one, ps]
      refine ⟨by omega, by omega, loopK_of ⟨i + 1, by omega⟩ (by show l.length - (i + 1) < l.length - i; omega) ?_⟩
      apply lw_of <;> simp [leL, lk, sv, Nat.beq, I, S, ES.kill, has, drp, nilT]
    · have d1 : ¬ (i : Int) < (l.length : Int) := by omega
      obtain rfl : i = l.length := by omega
      simp only [vcA, Nat.reduceLT, Int.reduceEq, Int.reduceAdd, Int.reduceSub, Nat.reduceBEq, Nat.reduceEqDiff, reduceCtorEq, Nat.reduceAdd, Nat.reduceSub, Nat.reduceMul, Nat.reduceLeDiff, Int.reduceToNat, Int.reduceLT, Int.reduceLE, Int.reduceNeg, reduceIte, pvC_fgt, pvC_ids, pvC_ren, pvC_len, I, S, tv, nv, tyT, RawV.tv, R1.row, rowsGet, rowsLen, row4, Vk, Vn, Vs, Vl, d1]
      (with_reducible apply v_call); (· simp only [vcA, Nat.reduceLT, Int.reduceEq, Int.reduceAdd, Int.reduceSub, Nat.reduceBEq, Nat.reduceEqDiff, reduceCtorEq, Nat.reduceAdd, Nat.reduceSub, Nat.reduceMul, Nat.reduceLeDiff, Int.reduceToNat, Int.reduceLT, Int.reduceLE, Int.reduceNeg, reduceIte, pvC_fgt, pvC_ids, pvC_ren, pvC_len, I, S, tv, nv, tyT, RawV.tv, R1.row, rowsGet, rowsLen, row4, Vk, Vn, Vs, Vl]; with_reducible rfl); (· exact HJ); (· first | rfl | (simp only [moOk, nbeq, nble, List.length_nil, beq_self_eq_true, Bool.true_and, Bool.and_true, Bool.and_eq_true, decide_eq_true_eq]; omega)); (· simp only [vcA, Nat.reduceLT, Int.reduceEq, Int.reduceAdd, Int.reduceSub, Nat.reduceBEq, Nat.reduceEqDiff, reduceCtorEq, Nat.reduceAdd, Nat.reduceSub, Nat.reduceMul, Nat.reduceLeDiff, Int.reduceToNat, Int.reduceLT, Int.reduceLE, Int.reduceNeg, reduceIte, pvC_fgt, pvC_ids, pvC_ren, pvC_len, I, S, tv, nv, tyT, RawV.tv, R1.row, rowsGet, rowsLen, row4, Vk, Vn, Vs, Vl]; with_reducible rfl)
      simp only [vcA, Nat.reduceLT, Int.reduceEq, Int.reduceAdd, Int.reduceSub, Nat.reduceBEq, Nat.reduceEqDiff, reduceCtorEq, Nat.reduceAdd, Nat.reduceSub, Nat.reduceMul, Nat.reduceLeDiff, Int.reduceToNat, Int.reduceLT, Int.reduceLE, Int.reduceNeg, reduceIte, pvC_fgt, pvC_ids, pvC_ren, pvC_len, I, S, tv, nv, tyT, RawV.tv, R1.row, rowsGet, rowsLen, row4, Vk, Vn, Vs, Vl, q91, q93]
      rw [hj]
      have := congrArg List.length hj
      rw [List.length_append] at this
      exact ⟨by omega, by omega, rfl⟩
  · rw [if_neg h5]
    exact written1_ok m x (rightV_one h h5)
def textTVv (x : V) : TV := if rightV x then .tuple [S (str (textV x)), I 0] else .tuple [S (str []), I 30]
theorem valText_ok' (m : Nat) (x : V) (hx : VOk x) : SCalls Tryz.prog (glT m) 17 [tv x] [] (textTVv x) [] := by
  refine call_of0 hmix tf_val_Text rfl ?_
  have HR := sc_0T (rightV_ok0 m x hx)
  unfold textTVv B at *
  cases hr : rightV x
  · rw [hr] at HR
    simp only [vcA, Nat.reduceLT, Int.reduceEq, Int.reduceAdd, Int.reduceSub, Nat.reduceBEq, Nat.reduceEqDiff, reduceCtorEq, Nat.reduceAdd, Nat.reduceSub, Nat.reduceMul, Nat.reduceLeDiff, Int.reduceToNat, Int.reduceLT, Int.reduceLE, Int.reduceNeg, reduceIte, pvC_fgt, pvC_ids, pvC_ren, pvC_len, I, S, tv, nv, tyT, RawV.tv, R1.row, rowsGet, rowsLen, row4, Vk, Vn, Vs, Vl]
    (with_reducible apply v_call); (· simp only [vcA, Nat.reduceLT, Int.reduceEq, Int.reduceAdd, Int.reduceSub, Nat.reduceBEq, Nat.reduceEqDiff, reduceCtorEq, Nat.reduceAdd, Nat.reduceSub, Nat.reduceMul, Nat.reduceLeDiff, Int.reduceToNat, Int.reduceLT, Int.reduceLE, Int.reduceNeg, reduceIte, pvC_fgt, pvC_ids, pvC_ren, pvC_len, I, S, tv, nv, tyT, RawV.tv, R1.row, rowsGet, rowsLen, row4, Vk, Vn, Vs, Vl]; with_reducible rfl); (· exact HR); (· first | rfl | (simp only [moOk, nbeq, nble, List.length_nil, beq_self_eq_true, Bool.true_and, Bool.and_true, Bool.and_eq_true, decide_eq_true_eq]; omega)); (· simp only [vcA, Nat.reduceLT, Int.reduceEq, Int.reduceAdd, Int.reduceSub, Nat.reduceBEq, Nat.reduceEqDiff, reduceCtorEq, Nat.reduceAdd, Nat.reduceSub, Nat.reduceMul, Nat.reduceLeDiff, Int.reduceToNat, Int.reduceLT, Int.reduceLE, Int.reduceNeg, reduceIte, pvC_fgt, pvC_ids, pvC_ren, pvC_len, I, S, tv, nv, tyT, RawV.tv, R1.row, rowsGet, rowsLen, row4, Vk, Vn, Vs, Vl]; with_reducible rfl)
    simp only [vcA, Nat.reduceLT, Int.reduceEq, Int.reduceAdd, Int.reduceSub, Nat.reduceBEq, Nat.reduceEqDiff, reduceCtorEq, Nat.reduceAdd, Nat.reduceSub, Nat.reduceMul, Nat.reduceLeDiff, Int.reduceToNat, Int.reduceLT, Int.reduceLE, Int.reduceNeg, reduceIte, pvC_fgt, pvC_ids, pvC_ren, pvC_len, I, S, tv, nv, tyT, RawV.tv, R1.row, rowsGet, rowsLen, row4, Vk, Vn, Vs, Vl]
    rfl
  · rw [hr] at HR
    have HW := written_ok m x hr
    simp only [vcA, Nat.reduceLT, Int.reduceEq, Int.reduceAdd, Int.reduceSub, Nat.reduceBEq, Nat.reduceEqDiff, reduceCtorEq, Nat.reduceAdd, Nat.reduceSub, Nat.reduceMul, Nat.reduceLeDiff, Int.reduceToNat, Int.reduceLT, Int.reduceLE, Int.reduceNeg, reduceIte, pvC_fgt, pvC_ids, pvC_ren, pvC_len, I, S, tv, nv, tyT, RawV.tv, R1.row, rowsGet, rowsLen, row4, Vk, Vn, Vs, Vl]
    (with_reducible apply v_call); (· simp only [vcA, Nat.reduceLT, Int.reduceEq, Int.reduceAdd, Int.reduceSub, Nat.reduceBEq, Nat.reduceEqDiff, reduceCtorEq, Nat.reduceAdd, Nat.reduceSub, Nat.reduceMul, Nat.reduceLeDiff, Int.reduceToNat, Int.reduceLT, Int.reduceLE, Int.reduceNeg, reduceIte, pvC_fgt, pvC_ids, pvC_ren, pvC_len, I, S, tv, nv, tyT, RawV.tv, R1.row, rowsGet, rowsLen, row4, Vk, Vn, Vs, Vl]; with_reducible rfl); (· exact HR); (· first | rfl | (simp only [moOk, nbeq, nble, List.length_nil, beq_self_eq_true, Bool.true_and, Bool.and_true, Bool.and_eq_true, decide_eq_true_eq]; omega)); (· simp only [vcA, Nat.reduceLT, Int.reduceEq, Int.reduceAdd, Int.reduceSub, Nat.reduceBEq, Nat.reduceEqDiff, reduceCtorEq, Nat.reduceAdd, Nat.reduceSub, Nat.reduceMul, Nat.reduceLeDiff, Int.reduceToNat, Int.reduceLT, Int.reduceLE, Int.reduceNeg, reduceIte, pvC_fgt, pvC_ids, pvC_ren, pvC_len, I, S, tv, nv, tyT, RawV.tv, R1.row, rowsGet, rowsLen, row4, Vk, Vn, Vs, Vl]; with_reducible rfl)
    simp only [vcA, Nat.reduceLT, Int.reduceEq, Int.reduceAdd, Int.reduceSub, Nat.reduceBEq, Nat.reduceEqDiff, reduceCtorEq, Nat.reduceAdd, Nat.reduceSub, Nat.reduceMul, Nat.reduceLeDiff, Int.reduceToNat, Int.reduceLT, Int.reduceLE, Int.reduceNeg, reduceIte, pvC_fgt, pvC_ids, pvC_ren, pvC_len, I, S, tv, nv, tyT, RawV.tv, R1.row, rowsGet, rowsLen, row4, Vk, Vn, Vs, Vl]
    (with_reducible apply v_call); (· simp only [vcA, Nat.reduceLT, Int.reduceEq, Int.reduceAdd, Int.reduceSub, Nat.reduceBEq, Nat.reduceEqDiff, reduceCtorEq, Nat.reduceAdd, Nat.reduceSub, Nat.reduceMul, Nat.reduceLeDiff, Int.reduceToNat, Int.reduceLT, Int.reduceLE, Int.reduceNeg, reduceIte, pvC_fgt, pvC_ids, pvC_ren, pvC_len, I, S, tv, nv, tyT, RawV.tv, R1.row, rowsGet, rowsLen, row4, Vk, Vn, Vs, Vl]; with_reducible rfl); (· exact HW); (· first | rfl | (simp only [moOk, nbeq, nble, List.length_nil, beq_self_eq_true, Bool.true_and, Bool.and_true, Bool.and_eq_true, decide_eq_true_eq]; omega)); (· simp only [vcA, Nat.reduceLT, Int.reduceEq, Int.reduceAdd, Int.reduceSub, Nat.reduceBEq, Nat.reduceEqDiff, reduceCtorEq, Nat.reduceAdd, Nat.reduceSub, Nat.reduceMul, Nat.reduceLeDiff, Int.reduceToNat, Int.reduceLT, Int.reduceLE, Int.reduceNeg, reduceIte, pvC_fgt, pvC_ids, pvC_ren, pvC_len, I, S, tv, nv, tyT, RawV.tv, R1.row, rowsGet, rowsLen, row4, Vk, Vn, Vs, Vl]; with_reducible rfl)
    simp only [vcA, Nat.reduceLT, Int.reduceEq, Int.reduceAdd, Int.reduceSub, Nat.reduceBEq, Nat.reduceEqDiff, reduceCtorEq, Nat.reduceAdd, Nat.reduceSub, Nat.reduceMul, Nat.reduceLeDiff, Int.reduceToNat, Int.reduceLT, Int.reduceLE, Int.reduceNeg, reduceIte, pvC_fgt, pvC_ids, pvC_ren, pvC_len, I, S, tv, nv, tyT, RawV.tv, R1.row, rowsGet, rowsLen, row4, Vk, Vn, Vs, Vl]
end Go.Proofs.YthjphllpkcnehaaGreatDoor
end

section
/- The order of values is one order. No statement of the program is proved here. -/
namespace Go.Proofs.YthjphllpkcnehaaGreatDoor
open Go Go.Mor
/-- Three answers that fit each other. -/
structure Tri (p q r : Int) : Prop where
  a : -1 ≤ p ∧ p ≤ 1
  b : -1 ≤ q ∧ q ≤ 1
  c : -1 ≤ r ∧ r ≤ 1
  d : p = 0 → r = q
  e : q = 0 → r = p
  f : p = -1 → q = -1 → r = -1
  g : p = 1 → q = 1 → r = 1
theorem Tri.lex {p q r p' q' r' : Int} (h : Tri p q r) (h' : Tri p' q' r') : Tri (thenI p p') (thenI q q') (thenI r r') := by
  obtain ⟨a, b, c, d, e, f, g⟩ := h
  obtain ⟨a', b', c', d', e', f', g'⟩ := h'
  unfold thenI
  constructor <;> (repeat' split) <;> omega
theorem ordI_tri (a b c : Int) : Tri (ordI a b) (ordI b c) (ordI a c) := by
  unfold ordI
  constructor <;> (repeat' split) <;> omega
theorem ordI_anti (a b : Int) : ordI b a = -ordI a b := by
  unfold ordI; (repeat' split) <;> omega
/-- The order of texts, byte by byte. -/
def lexB : List UInt8 → List UInt8 → Int
  | [], [] => 0
  | [], _ :: _ => -1
  | _ :: _, [] => 1
  | a :: x, b :: y => thenI (ordI a.toNat b.toNat) (lexB x y)
theorem ordS_lex : ∀ (x y : List UInt8), ordS x y = lexB x y
  | [], [] => by simp [ordS, lexB, Op.bytesLess]
  | [], b :: y => by simp [ordS, lexB, Op.bytesLess]
  | a :: x, [] => by simp [ordS, lexB, Op.bytesLess]
  | a :: x, b :: y => by
    have ih := ordS_lex x y
    simp only [lexB, ← ih]
    unfold ordS ordI thenI
    simp only [Op.bytesLess]
    have hlt : (a < b) ↔ a.toNat < b.toNat := UInt8.lt_iff_toNat_lt
    have heq : (a = b) ↔ a.toNat = b.toNat := ⟨fun h => by rw [h], fun h => UInt8.toNat_inj.1 h⟩
    by_cases h1 : a.toNat < b.toNat
    · have : a < b := hlt.2 h1
      simp [this]; omega
    · have n1 : ¬ a < b := fun h => h1 (hlt.1 h)
      by_cases h2 : a = b
      · subst h2; simp
      · have n2 : ¬ a.toNat = b.toNat := fun h => h2 (heq.2 h)
        have h3 : b.toNat < a.toNat := by omega
        simp [n1, h2]; omega
def Rng (p : Int) : Prop := -1 ≤ p ∧ p ≤ 1
theorem Rng.lex {p q : Int} (h : Rng p) (h' : Rng q) : Rng (thenI p q) := by unfold thenI; split <;> assumption
theorem ordI_rng (a b : Int) : Rng (ordI a b) := (ordI_tri a a b).c
theorem tri_nxx {q : Int} (h : Rng q) : Tri (-1) q (-1) := by obtain ⟨h1, h2⟩ := h; constructor <;> omega
theorem tri_pnx {r : Int} (h : Rng r) : Tri 1 (-1) r := by obtain ⟨h1, h2⟩ := h; constructor <;> omega
theorem tri_xpp {p : Int} (h : Rng p) : Tri p 1 1 := by obtain ⟨h1, h2⟩ := h; constructor <;> omega
theorem lexB_rng : ∀ (x y : List UInt8), Rng (lexB x y)
  | [], [] => by simp [lexB, Rng]
  | [], b :: y => by simp [lexB, Rng]
  | a :: x, [] => by simp [lexB, Rng]
  | a :: x, b :: y => by simp only [lexB]; exact (ordI_rng _ _).lex (lexB_rng x y)
theorem lexB_tri : ∀ (x y z : List UInt8), Tri (lexB x y) (lexB y z) (lexB x z)
  | [], [], [] => by constructor <;> simp [lexB]
  | [], [], c :: z => by constructor <;> simp [lexB]
  | [], b :: y, [] => by constructor <;> simp [lexB]
  | a :: x, [], [] => by constructor <;> simp [lexB]
  | a :: x, [], c :: z => by have := lexB_rng (a :: x) (c :: z); exact tri_pnx this
  | [], b :: y, c :: z => by have := lexB_rng (b :: y) (c :: z); exact tri_nxx this
  | a :: x, b :: y, [] => by have := lexB_rng (a :: x) (b :: y); exact tri_xpp this
  | a :: x, b :: y, c :: z => by
    simp only [lexB]; exact (ordI_tri _ _ _).lex (lexB_tri x y z)
theorem thenI_anti {a b c d : Int} (h : b = -a) (h' : d = -c) : thenI b d = -thenI a c := by
  unfold thenI; (repeat' split) <;> omega
theorem lexB_anti : ∀ (x y : List UInt8), lexB y x = -lexB x y
  | [], [] => by simp [lexB]
  | [], b :: y => by simp [lexB]
  | a :: x, [] => by simp [lexB]
  | a :: x, b :: y => by simp only [lexB]; exact thenI_anti (ordI_anti _ _) (lexB_anti x y)
theorem ordS_tri (a b c : List UInt8) : Tri (ordS a b) (ordS b c) (ordS a c) := by rw [ordS_lex, ordS_lex, ordS_lex]; exact lexB_tri a b c
theorem ordS_anti (a b : List UInt8) : ordS b a = -ordS a b := by rw [ordS_lex, ordS_lex]; exact lexB_anti a b
theorem ordS_rng (a b : List UInt8) : Rng (ordS a b) := by rw [ordS_lex]; exact lexB_rng a b
theorem cmpL_rng : ∀ (x y : List V), (∀ a ∈ x, ∀ b, Rng (cmpV a b)) → Rng (cmpL x y)
  | [], [], _ => by simp [cmpL, Rng]
  | [], b :: y, _ => by simp [cmpL, Rng]
  | a :: x, [], _ => by simp [cmpL, Rng]
  | a :: x, b :: y, h => by simp only [cmpL]; exact (h a (by simp) b).lex (cmpL_rng x y fun c hc => h c (by simp [hc]))
theorem cmpV_rngN (n : Nat) : ∀ x y : V, SizeOf.sizeOf x ≤ n → Rng (cmpV x y) := by
  induction n with
  | zero => intro x y h; cases x; simp at h
  | succ n ih =>
    intro x y h
    rw [cmpV_eq]
    refine (ordI_rng _ _).lex ((ordI_rng _ _).lex ((ordS_rng _ _).lex (cmpL_rng _ _ fun a ha b => ih a b ?_)))
    have := List.sizeOf_lt_of_mem ha
    cases x; simp [V.l] at h this ⊢; omega
theorem cmpV_rng (x y : V) : Rng (cmpV x y) := cmpV_rngN _ x y (Nat.le_refl _)
theorem cmpL_rng' (x y : List V) : Rng (cmpL x y) := cmpL_rng x y fun a _ b => cmpV_rng a b
theorem cmpL_tri : ∀ (x y z : List V), (∀ a ∈ x, ∀ b c, Tri (cmpV a b) (cmpV b c) (cmpV a c)) → Tri (cmpL x y) (cmpL y z) (cmpL x z)
  | [], [], [], _ => by constructor <;> simp [cmpL]
  | [], [], c :: z, _ => by constructor <;> simp [cmpL]
  | [], b :: y, [], _ => by constructor <;> simp [cmpL]
  | a :: x, [], [], _ => by constructor <;> simp [cmpL]
  | a :: x, [], c :: z, _ => by have := cmpL_rng' (a :: x) (c :: z); rw [show cmpL (a :: x) [] = 1 by simp [cmpL], show cmpL [] (c :: z) = -1 by simp [cmpL]]; exact tri_pnx this
  | [], b :: y, c :: z, _ => by have := cmpL_rng' (b :: y) (c :: z); rw [show cmpL [] (b :: y) = -1 by simp [cmpL], show cmpL [] (c :: z) = -1 by simp [cmpL]]; exact tri_nxx this
  | a :: x, b :: y, [], _ => by have := cmpL_rng' (a :: x) (b :: y); rw [show cmpL (b :: y) [] = 1 by simp [cmpL], show cmpL (a :: x) [] = 1 by simp [cmpL]]; exact tri_xpp this
  | a :: x, b :: y, c :: z, h => by
    simp only [cmpL]; exact (h a (by simp) b c).lex (cmpL_tri x y z fun d hd => h d (by simp [hd]))
theorem cmpV_triN (n : Nat) : ∀ x y z : V, SizeOf.sizeOf x ≤ n → Tri (cmpV x y) (cmpV y z) (cmpV x z) := by
  induction n with
  | zero => intro x y z h; cases x; simp at h
  | succ n ih =>
    intro x y z h
    rw [cmpV_eq x y, cmpV_eq y z, cmpV_eq x z]
    refine (ordI_tri _ _ _).lex ((ordI_tri _ _ _).lex ((ordS_tri _ _ _).lex (cmpL_tri _ _ _ fun a ha b c => ih a b c ?_)))
    have := List.sizeOf_lt_of_mem ha
    cases x; simp [V.l] at h this ⊢; omega
theorem cmpV_tri (x y z : V) : Tri (cmpV x y) (cmpV y z) (cmpV x z) := cmpV_triN _ x y z (Nat.le_refl _)
theorem cmpL_anti : ∀ (x y : List V), (∀ a ∈ x, ∀ b, cmpV b a = -cmpV a b) → cmpL y x = -cmpL x y
  | [], [], _ => by simp [cmpL]
  | [], b :: y, _ => by simp [cmpL]
  | a :: x, [], _ => by simp [cmpL]
  | a :: x, b :: y, h => by simp only [cmpL]; exact thenI_anti (h a (by simp) b) (cmpL_anti x y fun c hc => h c (by simp [hc]))
theorem cmpV_antiN (n : Nat) : ∀ x y : V, SizeOf.sizeOf x ≤ n → cmpV y x = -cmpV x y := by
  induction n with
  | zero => intro x y h; cases x; simp at h
  | succ n ih =>
    intro x y h
    rw [cmpV_eq x y, cmpV_eq y x]
    refine thenI_anti (ordI_anti _ _) (thenI_anti (ordI_anti _ _) (thenI_anti (ordS_anti _ _) (cmpL_anti _ _ fun a ha b => ih a b ?_)))
    have := List.sizeOf_lt_of_mem ha
    cases x; simp [V.l] at h this ⊢; omega
theorem cmpV_anti (x y : V) : cmpV y x = -cmpV x y := cmpV_antiN _ x y (Nat.le_refl _)
theorem cmpV_self (x : V) : cmpV x x = 0 := by have := cmpV_anti x x; omega
theorem thenI_zero {a b : Int} (h : thenI a b = 0) : a = 0 ∧ b = 0 := by
  unfold thenI at h
  by_cases ha : a = 0
  · rw [if_pos ha] at h; exact ⟨ha, h⟩
  · rw [if_neg ha] at h; exact absurd h ha
theorem ordI_zero {a b : Int} (h : ordI a b = 0) : a = b := by
  unfold ordI at h
  by_cases h1 : a < b
  · rw [if_pos h1] at h; cases h
  · rw [if_neg h1] at h
    by_cases h2 : b < a
    · rw [if_pos h2] at h; cases h
    · omega
theorem lexB_zero : ∀ {x y : List UInt8}, lexB x y = 0 → x = y
  | [], [], _ => rfl
  | [], b :: y, h => by simp [lexB] at h
  | a :: x, [], h => by simp [lexB] at h
  | a :: x, b :: y, h => by
    simp only [lexB] at h
    obtain ⟨h1, h2⟩ := thenI_zero h
    have := ordI_zero h1
    rw [lexB_zero h2, UInt8.toNat_inj.1 (by omega : a.toNat = b.toNat)]
theorem cmpL_zero : ∀ {x y : List V}, (∀ a ∈ x, ∀ b, cmpV a b = 0 → a = b) → cmpL x y = 0 → x = y
  | [], [], _, _ => rfl
  | [], b :: y, _, h => by simp [cmpL] at h
  | a :: x, [], _, h => by simp [cmpL] at h
  | a :: x, b :: y, H, h => by
    simp only [cmpL] at h
    obtain ⟨h1, h2⟩ := thenI_zero h
    rw [H a (by simp) b h1, cmpL_zero (fun c hc => H c (by simp [hc])) h2]
theorem cmpV_zeroN (n : Nat) : ∀ x y : V, SizeOf.sizeOf x ≤ n → cmpV x y = 0 → x = y := by
  induction n with
  | zero => intro x y h; cases x; simp at h
  | succ n ih =>
    intro x y h h0
    rw [cmpV_eq] at h0
    obtain ⟨h1, h0⟩ := thenI_zero h0
    obtain ⟨h2, h0⟩ := thenI_zero h0
    obtain ⟨h3, h4⟩ := thenI_zero h0
    rw [ordS_lex] at h3
    have hl := cmpL_zero (fun a ha b => ih a b (by
      have := List.sizeOf_lt_of_mem ha
      cases x; simp [V.l] at h this ⊢; omega)) h4
    rw [← V.eta x, ← V.eta y, ordI_zero h1, ordI_zero h2, lexB_zero h3, hl]
theorem cmpV_zero {x y : V} : cmpV x y = 0 ↔ x = y := ⟨cmpV_zeroN _ x y (Nat.le_refl _), fun h => h ▸ cmpV_self x⟩
end Go.Proofs.YthjphllpkcnehaaGreatDoor
end
