/- Merged texts: PRead Aw1 Zk1 Zl1. No statement of the program is proved here. -/
import Derived.Test.YthjphllpkcnehaaGreatDoorM5
set_option linter.unusedSimpArgs false
set_option linter.unusedVariables false
section
/- Readers of bytes in plain words: what is laid is read back; what is cut off is none. -/
namespace Go.Mor
open Go Go.RowKit
set_option maxHeartbeats 1000000

/-- A reader: of a text and a place, what stands there and the place behind it. -/
abbrev Rd (α : Type) : Type := List UInt8 → Int → Option (α × Int)
def Rd.bind {α β : Type} (r : Rd α) (f : α → Rd β) : Rd β := fun s a => match r s a with | none => none | some (v, b) => f v s b
def Rd.ret {α : Type} (v : α) : Rd α := fun _ a => some (v, a)
def Rd.fail {α : Type} : Rd α := fun _ _ => none
/-- e is read as v, whatever stands around it. -/
def Enc {α : Type} (r : Rd α) (e : List UInt8) (v : α) : Prop := ∀ pre post : List UInt8, r (pre ++ e ++ post) pre.length = some (v, ((pre.length + e.length : Nat) : Int))
/-- What is cut off is none; what is not is as it was. -/
def Cuts {α : Type} (r : Rd α) : Prop := ∀ (s : List UInt8) (a : Int) (v : α) (b : Int) (k : Nat), r s a = some (v, b) → a ≤ k → a ≤ b ∧ (b ≤ k → r (s.take k) a = some (v, b)) ∧ (k < b → r (s.take k) a = none)
theorem Enc.bind {α β : Type} {r : Rd α} {f : α → Rd β} {e1 e2 : List UInt8} {v1 : α} {v2 : β} (h1 : Enc r e1 v1) (h2 : Enc (f v1) e2 v2) : Enc (r.bind f) (e1 ++ e2) v2 := by
  intro pre post
  have a := h1 pre (e2 ++ post)
  have b := h2 (pre ++ e1) post
  rw [show pre ++ (e1 ++ e2) ++ post = pre ++ e1 ++ (e2 ++ post) by simp, Rd.bind, a]
  simp only [List.append_assoc, List.length_append] at b ⊢
  rw [b]
  congr 3; omega
theorem Enc.ret {α : Type} (v : α) : Enc (Rd.ret v) [] v := fun pre post => by simp [Rd.ret]
theorem Cuts.bind {α β : Type} {r : Rd α} {f : α → Rd β} (h1 : Cuts r) (h2 : ∀ v, Cuts (f v)) : Cuts (r.bind f) := by
  intro s a v b k h hk
  unfold Rd.bind at h ⊢
  cases hr : r s a with
  | none => rw [hr] at h; cases h
  | some p =>
    obtain ⟨v1, b1⟩ := p
    rw [hr] at h
    dsimp only at h
    obtain ⟨g1, g2, g3⟩ := h1 s a v1 b1 k hr hk
    by_cases hb : b1 ≤ k
    · obtain ⟨j1, j2, j3⟩ := h2 v1 s b1 v b k h hb
      rw [g2 hb]
      exact ⟨by omega, j2, j3⟩
    · obtain ⟨j1, _, _⟩ := h2 v1 s b1 v b b1.toNat h (by omega)
      rw [g3 (by omega)]
      exact ⟨by omega, fun h => by omega, fun _ => rfl⟩
theorem Cuts.ret {α : Type} (v : α) : Cuts (Rd.ret v) := by
  intro s a v' b k h hk
  simp only [Rd.ret, Option.some.injEq, Prod.mk.injEq] at h ⊢
  obtain ⟨rfl, rfl⟩ := h
  exact ⟨by omega, fun _ => ⟨rfl, rfl⟩, fun h => by omega⟩
theorem Cuts.fail {α : Type} : Cuts (Rd.fail (α := α)) := fun s a v b k h => by cases h
theorem Cuts.ite {α : Type} {c : Bool} {r q : Rd α} (h1 : Cuts r) (h2 : Cuts q) : Cuts (if c = true then r else q) := by cases c <;> simpa
/-- Bytes that begin others tell what those tell. -/
theorem Enc.begins {α : Type} {r : Rd α} {e e' : List UInt8} {v v' : α} (h : Enc r e v) (h' : Enc r e' v') (hp : e <+: e') : v = v' := by
  obtain ⟨t, rfl⟩ := hp
  have a := h [] t
  have b := h' [] []
  simp at a b
  rw [a] at b
  simp at b
  exact b.1
theorem Enc.cut {α : Type} {r : Rd α} {e : List UInt8} {v : α} (h : Enc r e v) (hc : Cuts r) (k : Nat) (hk : k < e.length) : r (e.take k) 0 = none := by
  have a := h [] []
  simp at a
  exact (hc e 0 v _ k a (by omega)).2.2 (by omega)

/-! Numbers. -/
def cont : List UInt8 → List UInt8
  | [] => []
  | [g] => [g]
  | g :: r => (g + 128) :: cont r
theorem cont_snoc (l : List UInt8) (g : UInt8) : cont (l ++ [g]) = l.map (· + 128) ++ [g] := by
  induction l with
  | nil => rfl
  | cons a r ih =>
    cases r with
    | nil => rfl
    | cons b q => simp only [List.cons_append, cont, List.map_cons] at ih ⊢; rw [ih]
theorem pack_cont (l : List UInt8) : pack l = cont l := by
  rcases List.eq_nil_or_concat l with rfl | ⟨q, g, rfl⟩
  · rfl
  · rw [List.concat_eq_append, cont_snoc]
    have : ∀ (n : Nat) (q : List UInt8) (g : UInt8), q.length = n → pack (q ++ [g]) = q.map (· + 128) ++ [g] := by
      intro n
      induction n with
      | zero => intro q g hq; obtain rfl := List.eq_nil_of_length_eq_zero hq; rfl
      | succ n ih =>
        intro q g hq
        rcases List.eq_nil_or_concat q with rfl | ⟨p, a, rfl⟩
        · simp at hq
        · rw [List.concat_eq_append] at hq ⊢
          rw [pack_snoc, ih p a (by simp at hq; omega), bump_snoc]
          simp
    exact this q.length q g rfl
theorem cont_length (l : List UInt8) : (cont l).length = l.length := by rw [← pack_cont, pack_length]
theorem u8_lt (b : UInt8) : b.toNat < 256 := b.toNat_lt
theorem rdGo_last {k : Nat} {b : UInt8} (st : Nat × Nat) (r : List UInt8) (hk : k ≠ 0) (h0 : b.toNat ≠ 0) (h9 : k = 9 → b.toNat ≤ 1) (hb : b.toNat < 128) : rdGo k st (b :: r) = .ok (st.1 + b.toNat * 2 ^ (7 * k - 1), st.2, k + 1) := by
  rw [rdGo, if_neg (by rintro ⟨_, h | ⟨h, h'⟩⟩ <;> omega)]
  simp only [hk, if_false, hb, if_true, Nat.mod_eq_of_lt hb]
theorem rdGo_more {k : Nat} {b : UInt8} (st : Nat × Nat) (r : List UInt8) (hk : k ≠ 0) (h9 : k ≠ 9) (hb : 128 ≤ b.toNat) : rdGo k st (b :: r) = rdGo (k + 1) (st.1 + b.toNat % 128 * 2 ^ (7 * k - 1), st.2) r := by
  rw [rdGo, if_neg (by rintro ⟨_, h | ⟨h, h'⟩⟩ <;> omega)]
  have : ¬ b.toNat < 128 := by omega
  simp only [hk, if_false, this]
theorem rdGo_last0 {b : UInt8} (st : Nat × Nat) (r : List UInt8) (hb : b.toNat < 128) : rdGo 0 st (b :: r) = .ok (b.toNat / 2, b.toNat % 2, 1) := by
  rw [rdGo, if_neg (by simp)]
  simp only [if_true, hb, Nat.mod_eq_of_lt hb]
theorem rdGo_more0 {b : UInt8} (st : Nat × Nat) (r : List UInt8) (hb : 128 ≤ b.toNat) : rdGo 0 st (b :: r) = rdGo 1 (b.toNat % 128 / 2, b.toNat % 128 % 2) r := by
  rw [rdGo, if_neg (by simp)]
  have : ¬ b.toNat < 128 := by omega
  simp only [if_true, this, if_false]
theorem rdGo_tail : ∀ (f k : Nat) (st : Nat × Nat) (m : Nat) (rest : List UInt8), m ≠ 0 → 1 ≤ k → k + f = 10 → m < 2 ^ (64 - 7 * k) →
    rdGo k st (cont (tailN f m) ++ rest) = .ok (st.1 + m * 2 ^ (7 * k - 1), st.2, k + (tailN f m).length) := by
  intro f
  induction f with
  | zero => intro k st m rest hm h1 h2 h3; obtain rfl : k = 10 := by omega
            simp at h3; omega
  | succ f ih =>
    intro k st m rest hm h1 h2 h3
    have hb : (UInt8.ofNat (m % 128)).toNat = m % 128 := by rw [UInt8.toNat_ofNat']; omega
    rw [tailN, if_neg hm]
    by_cases hd : m / 128 = 0
    · rw [hd, tailN_zero]
      simp only [cont, List.cons_append, List.nil_append]
      have hm' : m % 128 = m := by omega
      rw [rdGo_last st rest (by omega) (by rw [hb]; omega) (by rintro rfl; rw [hb]; simp at h3; omega) (by rw [hb]; omega), hb, hm']
      simp
    · have hk9 : k ≠ 9 := by rintro rfl; simp at h3; omega
      obtain ⟨x, r, hx⟩ : ∃ x r, tailN f (m / 128) = x :: r := by
        obtain ⟨f', rfl⟩ : ∃ f', f = f' + 1 := ⟨f - 1, by omega⟩
        rw [tailN, if_neg hd]; exact ⟨_, _, rfl⟩
      have hcn : cont (UInt8.ofNat (m % 128) :: tailN f (m / 128)) = (UInt8.ofNat (m % 128) + 128) :: cont (tailN f (m / 128)) := by rw [hx]; rfl
      rw [hcn, List.cons_append]
      have hbb : (UInt8.ofNat (m % 128) + 128).toNat = m % 128 + 128 := by
        rw [UInt8.toNat_add, hb]; show (m % 128 + 128) % 256 = _; omega
      rw [rdGo_more st _ (by omega) hk9 (by rw [hbb]; omega), hbb]
      have hp : (2 : Nat) ^ (64 - 7 * k) = 2 ^ (64 - 7 * (k + 1)) * 128 := by
        rw [show 64 - 7 * k = (64 - 7 * (k + 1)) + 7 by omega, Nat.pow_add]
      rw [ih (k + 1) _ (m / 128) rest hd (by omega) (by omega) (by rw [hp] at h3; omega)]
      have hq : (2 : Nat) ^ (7 * (k + 1) - 1) = 128 * 2 ^ (7 * k - 1) := by
        rw [show 7 * (k + 1) - 1 = 7 + (7 * k - 1) by omega, Nat.pow_add]
      simp only [List.length_cons]
      congr 2
      · rw [hq, show (m % 128 + 128) % 128 = m % 128 by omega]
        generalize 2 ^ (7 * k - 1) = Q
        have : m * Q = (m % 128) * Q + (m / 128) * (128 * Q) := by
          conv => lhs; rw [show m = m % 128 + 128 * (m / 128) by omega]
          rw [Nat.add_mul, Nat.mul_comm 128 (m / 128), Nat.mul_assoc]
        omega
      · congr 1; omega
theorem rd_num (x : Int) (h0 : -9223372036854775808 ≤ x) (h1 : x ≤ 9223372036854775807) (pre post : List UInt8) : rd (pre ++ num x ++ post) pre.length = .ok (x, (num x).length) := by
  have hm := mag_lt x h0 h1
  have hpos := num_pos x
  unfold rd
  rw [if_pos (by simp; omega)]
  have hd : List.drop (pre.length : Int).toNat (pre ++ num x ++ post) = num x ++ post := by
    rw [show (pre.length : Int).toNat = pre.length by omega, List.append_assoc, List.drop_left]
  have hnl : (num x).length = 1 + (tailN 9 (mag x / 64)).length := by rw [num, pack_length]; simp [groups]; omega
  rw [hd, hnl, num, pack_cont, groups]
  have hs : sgn x ≤ 1 := by unfold sgn; split <;> omega
  have hb : (UInt8.ofNat (mag x % 64 * 2 + sgn x)).toNat = mag x % 64 * 2 + sgn x := by rw [UInt8.toNat_ofNat']; omega
  have key : rdGo 0 (0, 0) (cont (UInt8.ofNat (mag x % 64 * 2 + sgn x) :: tailN 9 (mag x / 64)) ++ post) = .ok (mag x, sgn x, 1 + (tailN 9 (mag x / 64)).length) := by
    by_cases hz : mag x / 64 = 0
    · rw [hz, tailN_zero]
      simp only [cont, List.cons_append, List.nil_append]
      rw [rdGo_last0 _ _ (by rw [hb]; omega), hb]
      congr 2
      · omega
      · congr 1; omega
    · obtain ⟨y, r, hx⟩ : ∃ y r, tailN 9 (mag x / 64) = y :: r := by
        rw [show (9 : Nat) = 8 + 1 from rfl, tailN, if_neg hz]; exact ⟨_, _, rfl⟩
      have hcn : cont (UInt8.ofNat (mag x % 64 * 2 + sgn x) :: tailN 9 (mag x / 64)) = (UInt8.ofNat (mag x % 64 * 2 + sgn x) + 128) :: cont (tailN 9 (mag x / 64)) := by rw [hx]; rfl
      have hbb : (UInt8.ofNat (mag x % 64 * 2 + sgn x) + 128).toNat = mag x % 64 * 2 + sgn x + 128 := by
        rw [UInt8.toNat_add, hb]; show (_ + 128) % 256 = _; omega
      rw [hcn, List.cons_append, rdGo_more0 _ _ (by rw [hbb]; omega), hbb]
      rw [rdGo_tail 9 1 _ _ post hz (by omega) (by omega) (by show mag x / 64 < 144115188075855872; omega)]
      congr 2
      · show (mag x % 64 * 2 + sgn x + 128) % 128 / 2 + mag x / 64 * 64 = mag x; omega
      · congr 1; show (mag x % 64 * 2 + sgn x + 128) % 128 % 2 = sgn x; omega
  rw [key]
  dsimp only
  congr 2
  · unfold sgn mag; split <;> simp <;> omega
theorem enc_num (x : Int) (h0 : -9223372036854775808 ≤ x) (h1 : x ≤ 9223372036854775807) : Enc readNum (num x) x := by
  intro pre post
  rw [readNum, rd_num x h0 h1]
  simp
theorem enc_text (t : List UInt8) (ht : t.length ≤ 10000) : Enc readText (text t) t := by
  intro pre post
  have h := rd_num t.length (by omega) (by omega) pre (t ++ post)
  rw [show pre ++ text t ++ post = pre ++ num t.length ++ (t ++ post) by simp [text], readText, rdW, h]
  dsimp only
  rw [if_neg (by omega), if_neg (by simp; omega)]
  dsimp only
  rw [show ((pre.length : Int) + ((num t.length).length : Nat)).toNat = (pre ++ num t.length).length by simp; omega, List.drop_left, show ((t.length : Int)).toNat = t.length by omega, List.take_left]
  simp [text]; omega
theorem rdGo_take : ∀ (l : List UInt8) (k : Nat) (st : Nat × Nat) (m sg z j : Nat), rdGo k st l = .ok (m, sg, z) → k < z ∧ (z ≤ k + j → rdGo k st (l.take j) = .ok (m, sg, z)) ∧ (k + j < z → rdGo k st (l.take j) = .error false) := by
  intro l
  induction l with
  | nil => intro k st m sg z j h; cases h
  | cons b r ih =>
    intro k st m sg z j h
    rw [rdGo] at h
    split at h
    · cases h
    · rename_i hc
      dsimp only at h
      split at h
      · rename_i hb
        injection h with h
        simp only [Prod.mk.injEq] at h
        obtain ⟨h1, h2, h3⟩ := h
        refine ⟨by omega, fun hz => ?_, fun hz => ?_⟩
        · obtain ⟨j', rfl⟩ : ∃ j', j = j' + 1 := ⟨j - 1, by omega⟩
          rw [List.take_succ_cons, rdGo, if_neg hc]
          dsimp only
          rw [if_pos hb, h1, h2, h3]
        · obtain rfl : j = 0 := by omega
          rfl
      · rename_i hb
        cases j with
        | zero =>
          obtain ⟨h1, _, _⟩ := ih _ _ _ _ _ 0 h
          exact ⟨by omega, fun hz => by omega, fun _ => rfl⟩
        | succ j' =>
          obtain ⟨h1, h2, h3⟩ := ih _ _ _ _ _ j' h
          refine ⟨by omega, fun hz => ?_, fun hz => ?_⟩
          all_goals
            rw [List.take_succ_cons, rdGo, if_neg hc]
            dsimp only
            rw [if_neg hb]
          · exact h2 (by omega)
          · exact h3 (by omega)
theorem rd_take {s : List UInt8} {a n : Int} {z : Nat} (h : rd s a = .ok (n, z)) (k : Nat) (hk : a ≤ k) : 0 ≤ a ∧ (a + z ≤ k → rd (s.take k) a = .ok (n, z)) ∧ (k < a + z → rd (s.take k) a = .error false) := by
  have hbd := rd_bound h
  unfold rd at h
  split at h
  · rename_i hin
    cases hr : rdGo 0 (0, 0) (s.drop a.toNat) with
    | error e => rw [hr] at h; cases h
    | ok p =>
      obtain ⟨m, sg, z'⟩ := p
      rw [hr] at h
      dsimp only at h
      injection h with h
      simp only [Prod.mk.injEq] at h
      obtain ⟨h1, rfl⟩ := h
      obtain ⟨g1, g2, g3⟩ := rdGo_take _ _ _ _ _ _ (k - a.toNat) hr
      have hd : (s.take k).drop a.toNat = (s.drop a.toNat).take (k - a.toNat) := List.drop_take
      refine ⟨hin.1, fun hz => ?_, fun hz => ?_⟩
      · unfold rd
        rw [if_pos (by simp; omega), hd, g2 (by omega)]
        dsimp only
        rw [h1]
      · unfold rd
        split
        · rw [hd, g3 (by omega)]
        · rfl
  · cases h
theorem cuts_num : Cuts readNum := by
  intro s a v b k h hk
  unfold readNum at h ⊢
  cases hr : rd s a with
  | error e => rw [hr] at h; cases h
  | ok p =>
    obtain ⟨n, z⟩ := p
    rw [hr] at h
    simp only [Option.some.injEq, Prod.mk.injEq] at h
    obtain ⟨rfl, rfl⟩ := h
    obtain ⟨_, g1, g2⟩ := rd_take hr k hk
    exact ⟨by omega, fun h => by rw [g1 h], fun h => by rw [g2 h]⟩
theorem cuts_text : Cuts readText := by
  intro s a v b k h hk
  unfold readText rdW at h ⊢
  cases hr : rd s a with
  | error e => rw [hr] at h; cases h
  | ok p =>
    obtain ⟨n, z⟩ := p
    rw [hr] at h
    dsimp only at h
    obtain ⟨g0, g1, g2⟩ := rd_take hr k hk
    by_cases hn : n < 0 ∨ 10000 < n
    · rw [if_pos hn] at h; cases h
    rw [if_neg hn] at h
    by_cases hl : (s.length : Int) - (a + z) < n
    · rw [if_pos hl] at h; cases h
    rw [if_neg hl] at h
    simp only [Option.some.injEq, Prod.mk.injEq] at h
    obtain ⟨rfl, rfl⟩ := h
    have hbd := rd_bound hr
    refine ⟨by omega, fun hb => ?_, fun hb => ?_⟩
    · rw [g1 (by omega)]
      dsimp only
      rw [if_neg hn, if_neg (by simp; omega)]
      dsimp only
      rw [List.drop_take, List.take_take, show min n.toNat (k - (a + ↑z).toNat) = n.toNat by omega]
    · by_cases hz : a + z ≤ k
      · rw [g1 hz]
        dsimp only
        rw [if_neg hn, if_pos (by simp; omega)]
      · rw [g2 (by omega)]
end Go.Mor
end

section
/- The code of Cd1 is the program's; the examples run. No statement of the program is proved here. -/
namespace Go.Proofs.YthjphllpkcnehaaGreatDoor
open Go Go.RowKit Go.Mor Go.Sh Go.Sh.Cd1
set_option maxRecDepth 100000
set_option maxHeartbeats 8000000

theorem funcs_ok : FuncsOk Tryz.prog funcs := by
  intro f G h
  unfold funcs at h
  split at h
  · cases h; exact ⟨_, _, _, _, tf_morainelaw03_awake⟩
  · cases h; exact ⟨_, _, _, _, tf_val_Read⟩
  · cases h; exact ⟨_, _, _, _, tf_moraineref03_Same⟩
  · cases h; exact ⟨_, _, _, _, tf_val_Encode⟩
  · cases h; exact ⟨_, _, _, _, tf_val_Decode⟩
  · cases h; exact ⟨_, _, _, _, tf_val_Right⟩
  · cases h; exact ⟨_, _, _, _, tf_val_Compare⟩
  · cases h; exact ⟨_, _, _, _, tf_moraineref03_Compare⟩
  · cases h; exact ⟨_, _, _, _, tf_val_Same⟩
  · cases h; exact ⟨_, _, _, _, tf_val_reader⟩
  · cases h; exact ⟨_, _, _, _, tf_val_value⟩
  · cases h; exact ⟨_, _, _, _, tf_val_items⟩
  · cases h; exact ⟨_, _, _, _, tf_val_lay⟩
  · cases h; exact ⟨_, _, _, _, tf___val_decoder__value⟩
  · cases h; exact ⟨_, _, _, _, tf_val_bare⟩
  · cases h; exact ⟨_, _, _, _, tf_val_rightText⟩
  · cases h; exact ⟨_, _, _, _, tf_val_rightID⟩
  · cases h; exact ⟨_, _, _, _, tf_slices_ContainsFunc___api_Val_api_Val_⟩
  · cases h; exact ⟨_, _, _, _, tf_val_noItem⟩
  · cases h; exact ⟨_, _, _, _, tf_cmp_Compare_int_⟩
  · cases h; exact ⟨_, _, _, _, tf_cmp_Compare_string_⟩
  · cases h; exact ⟨_, _, _, _, tf_val_byItems_api_Val_⟩
  · cases h; exact ⟨_, _, _, _, tf_moraineref03_Order⟩
  · cases h; exact ⟨_, _, _, _, tf_val_reader_1⟩
  · cases h; exact ⟨_, _, _, _, tf_val_first⟩
  · cases h; exact ⟨_, _, _, _, tf_val_quoted⟩
  · cases h; exact ⟨_, _, _, _, tf_val_reference⟩
  · cases h; exact ⟨_, _, _, _, tf_val_number⟩
  · cases h; exact ⟨_, _, _, _, tf_val_sign⟩
  · cases h; exact ⟨_, _, _, _, tf___val_decoder__number⟩
  · cases h; exact ⟨_, _, _, _, tf___val_decoder__text⟩
  · cases h; exact ⟨_, _, _, _, tf___val_decoder__items⟩
  · cases h; exact ⟨_, _, _, _, tf_val_plain⟩
  · cases h; exact ⟨_, _, _, _, tf_slices_IndexFunc___api_Val_api_Val_⟩
  · cases h; exact ⟨_, _, _, _, tf_cmp_isNaN_int_⟩
  · cases h; exact ⟨_, _, _, _, tf_cmp_isNaN_string_⟩
  · cases h; exact ⟨_, _, _, _, tf_val_sign_1⟩
  · cases h
theorem hmix0 : Tryz.prog.follows .mixedOrders = true := by kernel_rfl
theorem awake_run : callF Tryz.prog funcs prim1 100 14 15 [] [] = some (.pv (.v (.bool true)), []) := by kernel_rfl
theorem awake_ok (a0 a1 : Addr) (n : Nat) : SCalls Tryz.prog (gl a0 a1 n) 15 [] [] (.pv (.v (.bool true))) [] :=
  callF_sound hmix0 funcs_ok (prim1_sound a0 a1 n) 14 _ _ _ _ _ awake_run
end Go.Proofs.YthjphllpkcnehaaGreatDoor
end

section
/- The law ValKinds, walked. No statement of the program is proved here. -/
namespace Go.Proofs.YthjphllpkcnehaaGreatDoor
open Go Go.RowKit Go.Mor Go.Sh Go.Sh.Cd1
set_option maxRecDepth 100000
set_option maxHeartbeats 4000000
theorem valOne_right' (k n : Int) (s : List UInt8) (hn : I64 n) : right1 (valOne k n s) = true ∧ (valOne k n s).k ≠ 5 := by
  have h := valOne_right k n s hn
  exact ⟨h, (right1_ok h).2.1⟩
theorem valOf_right (x : RawV) (hx : x.ok) : rightV (valOf x) = true := by
  obtain ⟨hk, hn, hs, hl, hlen⟩ := hx
  unfold valOf
  by_cases h : pickI x.k 7 < 5
  · rw [if_pos h]
    obtain ⟨h1, h2⟩ := valOne_right' (pickI x.k 7) x.n x.s hn
    by_cases h3 : 3 ≤ (valOne (pickI x.k 7) x.n x.s).k ∧ pickI (x.k.tdiv 7) 4 = 0
    · rw [if_pos h3]
      rcases right1_inv h1 with e | ⟨n, _, _, e⟩ | ⟨s, _, e⟩ | ⟨k, n, hkk, hi, e⟩
      · rw [e] at h3; simp [V.k] at h3
      · rw [e] at h3; simp [V.k] at h3
      · rw [e] at h3; simp [V.k] at h3
      · rw [e]
        have hp := pickI_lt (n := 20) (by decide) hn
        have hi : rightID (-1 - pickI x.n 20) = true := by unfold rightID; simp; omega
        have hk5 : ¬ k = 5 := by omega
        have hk0 : ¬ k = 0 := by omega
        have hk1 : ¬ k = 1 := by omega
        have hk2 : ¬ k = 2 := by omega
        simp [rightV, right1, bare, V.k, V.n, V.s, V.l, hk5, hk0, hk1, hk2, hkk, hi]
    · rw [if_neg h3]
      unfold rightV; rw [if_neg h2]; exact h1
  · rw [if_neg h]
    have hall : ∀ y ∈ oneL x.l, noItem y = false := by
      intro y hy
      simp only [oneL, List.mem_map] at hy
      obtain ⟨r, hr, rfl⟩ := hy
      obtain ⟨h1, h2⟩ := valOne_right' (pickI r.k 5) r.n r.s (hl r (List.mem_of_mem_take hr)).2.1
      simp [noItem, h1, h2]
    have hlen : (oneL x.l).length ≤ 12 := by simp [oneL]; omega
    have hany : (oneL x.l).any noItem = false := by rw [List.any_eq_false]; intro y hy; rw [hall y hy]; decide
    simp [rightV, V.k, V.n, V.s, V.l, hlen, hany]
theorem encV_len {x : V} (h : rightV x = true) : (encV x).length ≤ 980 ∧ 0 < (encV x).length := by
  by_cases h5 : x.k = 5
  · obtain ⟨h1, h2, h3, h4⟩ := rightL_inv h h5
    have := encTo_len (l := x.l) (fun y hy => (right1_ok (h4 y hy).2).1.2.2) x.l.length
    rw [encTo_all x h5] at this
    refine ⟨by omega, ?_⟩
    have := num_pos 5
    unfold encV; rw [if_pos h5]; simp; omega
  · have := enc1_len (right1_ok (rightV_one h h5)).1.2.2
    unfold encV; rw [if_neg h5]
    refine ⟨by omega, ?_⟩
    have := num_pos x.k
    unfold enc1; simp; omega
theorem rightV_I64 {x : V} (h : rightV x = true) : I64 x.k ∧ I64 x.n := by
  by_cases h5 : x.k = 5
  · obtain ⟨h1, _⟩ := rightL_inv h h5
    rw [h5, h1]; unfold I64; decide
  · have := (right1_ok (rightV_one h h5)).1
    exact ⟨this.1, this.2.1⟩
theorem encV_head (x : V) : ∃ r, encV x = num x.k ++ r := by
  by_cases h5 : x.k = 5
  · exact ⟨num x.l.length ++ x.l.flatMap enc1, by unfold encV; rw [if_pos h5, h5, List.append_assoc]⟩
  · exact ⟨_, by unfold encV; rw [if_neg h5]; rfl⟩
theorem read_kind {x : V} (h : rightV x = true) : readNum (encV x) 0 = some (x.k, ((num x.k).length : Int)) := by
  obtain ⟨r, hr⟩ := encV_head x
  have hk := (rightV_I64 h).1
  have := enc_num x.k hk.1 hk.2 [] r
  simp at this
  rw [hr]; exact this
theorem read_n {x : V} (h : rightV x = true) (hk : x.k = 1 ∨ x.k = 3 ∨ x.k = 4) : readNum (encV x) ((num x.k).length : Int) = some (x.n, ((encV x).length : Int)) := by
  have he : encV x = num x.k ++ num x.n := by unfold encV; rw [if_neg (by omega)]; unfold enc1; rw [if_pos hk]
  have hn := (rightV_I64 h).2
  have := enc_num x.n hn.1 hn.2 (num x.k) []
  simp at this
  rw [he, this]; simp
end Go.Proofs.YthjphllpkcnehaaGreatDoor
end

section
/- The law ValWritten, walked. No statement of the program is proved here. -/
namespace Go.Proofs.YthjphllpkcnehaaGreatDoor
open Go Go.RowKit Go.Mor Go.Sh Go.Sh.Cd1 Go.Sh.Cd2
set_option maxRecDepth 100000
set_option maxHeartbeats 4000000
theorem bbEql (p q : Bool) : scal Tryz.prog (do eqGuard .eql 4 (.const (.bool p)) (.const (.bool q)) (.bool p) (.bool q); binOp .eql 4 (.bool p) (.bool q)) = some (.pv (.v (.bool (p == q))), .no) := by
  cases p <;> cases q <;> kernel_rfl
theorem take20 (s : List UInt8) : s.take (min (s.length : Int) 20).toNat = s.take 20 := by
  rcases Nat.le_total s.length 20 with h | h
  · rw [List.take_of_length_le (by omega), List.take_of_length_le h]
  · congr 1; omega
theorem q32 : (⟨#[32]⟩ : ByteArray) = str [32] := rfl
theorem valWritten_ok (a0 a1 : Addr) (m : Nat) (x y : RawV) (ah be : List UInt8) (hx : x.ok) (hy : y.ok) (hah : ah.length ≤ 9223372036854775807) (hbe : be.length ≤ 9223372036854775807) :
    SCalls Tryz.prog (glA a0 a1 m) 5 [x.tv, y.tv, S (str ah), S (str be)] [] (.pv (.v (.bool true))) [] := by
  refine call_of0 hmix tf_morainelaw03_ValWritten rfl ?_
  have HA := sc_1A (awake_ok a0 a1 m)
  have HX := valOf_ok (glA a0 a1 m) x hx
  have HY := valOf_ok (glA a0 a1 m) y hy
  have rx := valOf_right x hx
  have ry := valOf_right y hy
  unfold RawV.tv at HX HY ⊢
  generalize valOf x = v at HX rx
  generalize valOf y = w at HY ry
  obtain ⟨o1, s1, _, _⟩ := rightV_vok rx
  obtain ⟨o2, s2, _, _⟩ := rightV_vok ry
  have HE : SCalls Tryz.prog (glA a0 a1 m) 17 [tv v] [] (.tuple [S (str (textV v)), I 0]) [] := by
    have := valText_ok' m v o1
    unfold textTVv at this; rw [if_pos rx] at this; exact sc_TA this
  have HF : SCalls Tryz.prog (glA a0 a1 m) 17 [tv w] [] (.tuple [S (str (textV w)), I 0]) [] := by
    have := valText_ok' m w o2
    unfold textTVv at this; rw [if_pos ry] at this; exact sc_TA this
  have l1 := textV_len rx
  have l2 := textV_len ry
  have t1 := take20 ah
  have t2 := take20 be
  have n1 : (ah.take 20).length ≤ 20 := by simp; omega
  have n2 : (be.take 20).length ≤ 20 := by simp; omega
  have HD := sc_1A <| read_ok a0 a1 m (ah.take 20 ++ textV v ++ [32] ++ be.take 20) (ah.take 20).length (by simp only [List.length_append, List.length_cons, List.length_nil]; omega) (by simp only [List.length_append]; omega)
    (by have := readV_text rx (ah.take 20) (post := [32] ++ be.take 20) (by intro c r e; cases e; decide); rwa [← List.append_assoc] at this)
  have HZ := sc_1A <| read_ok a0 a1 m (ah.take 20 ++ textV v) (ah.take 20).length (by simp only [List.length_append]; omega) (by simp only [List.length_append]; omega)
    (by have := readV_text rx (ah.take 20) (post := []) (by intro c r e; cases e); rwa [List.append_nil] at this)
  have HS := refSame_ok (glA a0 a1 m) v v s1
  have HT := refSame_ok (glA a0 a1 m) v w s1
  rw [cmpV_self] at HS
  have hbb := bbEql
  have hbe : (textV v == textV w) = decide (cmpV v w = 0) := by
    rw [Bool.eq_iff_iff, beq_iff_eq, decide_eq_true_eq, cmpV_zero]
    exact ⟨fun h => textV_inj rx ry h, fun h => by rw [h]⟩
  simp only [vcA, Nat.reduceLT, Int.reduceEq, Int.reduceAdd, Int.reduceSub, Nat.reduceBEq, Nat.reduceEqDiff, reduceCtorEq, Nat.reduceAdd, Nat.reduceSub, Nat.reduceMul, Nat.reduceLeDiff, Int.reduceToNat, Int.reduceLT, Int.reduceLE, Int.reduceNeg, reduceIte, pvC_fgt, pvC_ids, pvC_ren, pvC_len, I, S, tv, nv, tyT, RawV.tv, R1.row, rowsGet, rowsLen, row4, Vk, Vn, Vs, Vl]
  (with_reducible apply v_call); (· simp only [vcA, Nat.reduceLT, Int.reduceEq, Int.reduceAdd, Int.reduceSub, Nat.reduceBEq, Nat.reduceEqDiff, reduceCtorEq, Nat.reduceAdd, Nat.reduceSub, Nat.reduceMul, Nat.reduceLeDiff, Int.reduceToNat, Int.reduceLT, Int.reduceLE, Int.reduceNeg, reduceIte, pvC_fgt, pvC_ids, pvC_ren, pvC_len, I, S, tv, nv, tyT, RawV.tv, R1.row, rowsGet, rowsLen, row4, Vk, Vn, Vs, Vl]; with_reducible rfl); (· exact HA); (· first | rfl | (simp only [moOk, nbeq, nble, List.length_nil, beq_self_eq_true, Bool.true_and, Bool.and_true, Bool.and_eq_true, decide_eq_true_eq]; omega)); (· simp only [vcA, Nat.reduceLT, Int.reduceEq, Int.reduceAdd, Int.reduceSub, Nat.reduceBEq, Nat.reduceEqDiff, reduceCtorEq, Nat.reduceAdd, Nat.reduceSub, Nat.reduceMul, Nat.reduceLeDiff, Int.reduceToNat, Int.reduceLT, Int.reduceLE, Int.reduceNeg, reduceIte, pvC_fgt, pvC_ids, pvC_ren, pvC_len, I, S, tv, nv, tyT, RawV.tv, R1.row, rowsGet, rowsLen, row4, Vk, Vn, Vs, Vl]; with_reducible rfl)
  simp only [vcA, Nat.reduceLT, Int.reduceEq, Int.reduceAdd, Int.reduceSub, Nat.reduceBEq, Nat.reduceEqDiff, reduceCtorEq, Nat.reduceAdd, Nat.reduceSub, Nat.reduceMul, Nat.reduceLeDiff, Int.reduceToNat, Int.reduceLT, Int.reduceLE, Int.reduceNeg, reduceIte, pvC_fgt, pvC_ids, pvC_ren, pvC_len, I, S, tv, nv, tyT, RawV.tv, R1.row, rowsGet, rowsLen, row4, Vk, Vn, Vs, Vl]
  (with_reducible apply v_call); (· simp only [vcA, Nat.reduceLT, Int.reduceEq, Int.reduceAdd, Int.reduceSub, Nat.reduceBEq, Nat.reduceEqDiff, reduceCtorEq, Nat.reduceAdd, Nat.reduceSub, Nat.reduceMul, Nat.reduceLeDiff, Int.reduceToNat, Int.reduceLT, Int.reduceLE, Int.reduceNeg, reduceIte, pvC_fgt, pvC_ids, pvC_ren, pvC_len, I, S, tv, nv, tyT, RawV.tv, R1.row, rowsGet, rowsLen, row4, Vk, Vn, Vs, Vl]; with_reducible rfl); (· exact HX); (· first | rfl | (simp only [moOk, nbeq, nble, List.length_nil, beq_self_eq_true, Bool.true_and, Bool.and_true, Bool.and_eq_true, decide_eq_true_eq]; omega)); (· simp only [vcA, Nat.reduceLT, Int.reduceEq, Int.reduceAdd, Int.reduceSub, Nat.reduceBEq, Nat.reduceEqDiff, reduceCtorEq, Nat.reduceAdd, Nat.reduceSub, Nat.reduceMul, Nat.reduceLeDiff, Int.reduceToNat, Int.reduceLT, Int.reduceLE, Int.reduceNeg, reduceIte, pvC_fgt, pvC_ids, pvC_ren, pvC_len, I, S, tv, nv, tyT, RawV.tv, R1.row, rowsGet, rowsLen, row4, Vk, Vn, Vs, Vl]; with_reducible rfl)
  simp only [vcA, Nat.reduceLT, Int.reduceEq, Int.reduceAdd, Int.reduceSub, Nat.reduceBEq, Nat.reduceEqDiff, reduceCtorEq, Nat.reduceAdd, Nat.reduceSub, Nat.reduceMul, Nat.reduceLeDiff, Int.reduceToNat, Int.reduceLT, Int.reduceLE, Int.reduceNeg, reduceIte, pvC_fgt, pvC_ids, pvC_ren, pvC_len, I, S, tv, nv, tyT, RawV.tv, R1.row, rowsGet, rowsLen, row4, Vk, Vn, Vs, Vl]
  (with_reducible apply v_call); (· simp only [vcA, Nat.reduceLT, Int.reduceEq, Int.reduceAdd, Int.reduceSub, Nat.reduceBEq, Nat.reduceEqDiff, reduceCtorEq, Nat.reduceAdd, Nat.reduceSub, Nat.reduceMul, Nat.reduceLeDiff, Int.reduceToNat, Int.reduceLT, Int.reduceLE, Int.reduceNeg, reduceIte, pvC_fgt, pvC_ids, pvC_ren, pvC_len, I, S, tv, nv, tyT, RawV.tv, R1.row, rowsGet, rowsLen, row4, Vk, Vn, Vs, Vl]; with_reducible rfl); (· exact HY); (· first | rfl | (simp only [moOk, nbeq, nble, List.length_nil, beq_self_eq_true, Bool.true_and, Bool.and_true, Bool.and_eq_true, decide_eq_true_eq]; omega)); (· simp only [vcA, Nat.reduceLT, Int.reduceEq, Int.reduceAdd, Int.reduceSub, Nat.reduceBEq, Nat.reduceEqDiff, reduceCtorEq, Nat.reduceAdd, Nat.reduceSub, Nat.reduceMul, Nat.reduceLeDiff, Int.reduceToNat, Int.reduceLT, Int.reduceLE, Int.reduceNeg, reduceIte, pvC_fgt, pvC_ids, pvC_ren, pvC_len, I, S, tv, nv, tyT, RawV.tv, R1.row, rowsGet, rowsLen, row4, Vk, Vn, Vs, Vl]; with_reducible rfl)
  simp only [vcA, Nat.reduceLT, Int.reduceEq, Int.reduceAdd, Int.reduceSub, Nat.reduceBEq, Nat.reduceEqDiff, reduceCtorEq, Nat.reduceAdd, Nat.reduceSub, Nat.reduceMul, Nat.reduceLeDiff, Int.reduceToNat, Int.reduceLT, Int.reduceLE, Int.reduceNeg, reduceIte, pvC_fgt, pvC_ids, pvC_ren, pvC_len, I, S, tv, nv, tyT, RawV.tv, R1.row, rowsGet, rowsLen, row4, Vk, Vn, Vs, Vl]
  (with_reducible apply v_call); (· simp only [vcA, Nat.reduceLT, Int.reduceEq, Int.reduceAdd, Int.reduceSub, Nat.reduceBEq, Nat.reduceEqDiff, reduceCtorEq, Nat.reduceAdd, Nat.reduceSub, Nat.reduceMul, Nat.reduceLeDiff, Int.reduceToNat, Int.reduceLT, Int.reduceLE, Int.reduceNeg, reduceIte, pvC_fgt, pvC_ids, pvC_ren, pvC_len, I, S, tv, nv, tyT, RawV.tv, R1.row, rowsGet, rowsLen, row4, Vk, Vn, Vs, Vl]; with_reducible rfl); (· exact HE); (· first | rfl | (simp only [moOk, nbeq, nble, List.length_nil, beq_self_eq_true, Bool.true_and, Bool.and_true, Bool.and_eq_true, decide_eq_true_eq]; omega)); (· simp only [vcA, Nat.reduceLT, Int.reduceEq, Int.reduceAdd, Int.reduceSub, Nat.reduceBEq, Nat.reduceEqDiff, reduceCtorEq, Nat.reduceAdd, Nat.reduceSub, Nat.reduceMul, Nat.reduceLeDiff, Int.reduceToNat, Int.reduceLT, Int.reduceLE, Int.reduceNeg, reduceIte, pvC_fgt, pvC_ids, pvC_ren, pvC_len, I, S, tv, nv, tyT, RawV.tv, R1.row, rowsGet, rowsLen, row4, Vk, Vn, Vs, Vl]; with_reducible rfl)
  simp only [vcA, Nat.reduceLT, Int.reduceEq, Int.reduceAdd, Int.reduceSub, Nat.reduceBEq, Nat.reduceEqDiff, reduceCtorEq, Nat.reduceAdd, Nat.reduceSub, Nat.reduceMul, Nat.reduceLeDiff, Int.reduceToNat, Int.reduceLT, Int.reduceLE, Int.reduceNeg, reduceIte, pvC_fgt, pvC_ids, pvC_ren, pvC_len, I, S, tv, nv, tyT, RawV.tv, R1.row, rowsGet, rowsLen, row4, Vk, Vn, Vs, Vl]
  (with_reducible apply v_call); (· simp only [vcA, Nat.reduceLT, Int.reduceEq, Int.reduceAdd, Int.reduceSub, Nat.reduceBEq, Nat.reduceEqDiff, reduceCtorEq, Nat.reduceAdd, Nat.reduceSub, Nat.reduceMul, Nat.reduceLeDiff, Int.reduceToNat, Int.reduceLT, Int.reduceLE, Int.reduceNeg, reduceIte, pvC_fgt, pvC_ids, pvC_ren, pvC_len, I, S, tv, nv, tyT, RawV.tv, R1.row, rowsGet, rowsLen, row4, Vk, Vn, Vs, Vl]; with_reducible rfl); (· exact HF); (· first | rfl | (simp only [moOk, nbeq, nble, List.length_nil, beq_self_eq_true, Bool.true_and, Bool.and_true, Bool.and_eq_true, decide_eq_true_eq]; omega)); (· simp only [vcA, Nat.reduceLT, Int.reduceEq, Int.reduceAdd, Int.reduceSub, Nat.reduceBEq, Nat.reduceEqDiff, reduceCtorEq, Nat.reduceAdd, Nat.reduceSub, Nat.reduceMul, Nat.reduceLeDiff, Int.reduceToNat, Int.reduceLT, Int.reduceLE, Int.reduceNeg, reduceIte, pvC_fgt, pvC_ids, pvC_ren, pvC_len, I, S, tv, nv, tyT, RawV.tv, R1.row, rowsGet, rowsLen, row4, Vk, Vn, Vs, Vl]; with_reducible rfl)
  simp only [vcA, Nat.reduceLT, Int.reduceEq, Int.reduceAdd, Int.reduceSub, Nat.reduceBEq, Nat.reduceEqDiff, reduceCtorEq, Nat.reduceAdd, Nat.reduceSub, Nat.reduceMul, Nat.reduceLeDiff, Int.reduceToNat, Int.reduceLT, Int.reduceLE, Int.reduceNeg, reduceIte, pvC_fgt, pvC_ids, pvC_ren, pvC_len, I, S, tv, nv, tyT, RawV.tv, R1.row, rowsGet, rowsLen, row4, Vk, Vn, Vs, Vl]
  generalize ah.take 20 = H at t1 n1 HD HZ
  generalize be.take 20 = B at t2 n2 HD
  generalize hp : textV v = p at *
  generalize hq : textV w = q at *
  simp only [vcA, Nat.reduceLT, Int.reduceEq, Int.reduceAdd, Int.reduceSub, Nat.reduceBEq, Nat.reduceEqDiff, reduceCtorEq, Nat.reduceAdd, Nat.reduceSub, Nat.reduceMul, Nat.reduceLeDiff, Int.reduceToNat, Int.reduceLT, Int.reduceLE, Int.reduceNeg, reduceIte, pvC_fgt, pvC_ids, pvC_ren, pvC_len, I, S, tv, nv, tyT, RawV.tv, R1.row, rowsGet, rowsLen, row4, Vk, Vn, Vs, Vl, t1, t2, q32]
  refine ⟨by omega, by omega, by omega, by omega, by omega, ⟨by omega, by omega⟩, by omega, ?_⟩
  (with_reducible apply v_call); (· simp only [vcA, Nat.reduceLT, Int.reduceEq, Int.reduceAdd, Int.reduceSub, Nat.reduceBEq, Nat.reduceEqDiff, reduceCtorEq, Nat.reduceAdd, Nat.reduceSub, Nat.reduceMul, Nat.reduceLeDiff, Int.reduceToNat, Int.reduceLT, Int.reduceLE, Int.reduceNeg, reduceIte, pvC_fgt, pvC_ids, pvC_ren, pvC_len, I, S, tv, nv, tyT, RawV.tv, R1.row, rowsGet, rowsLen, row4, Vk, Vn, Vs, Vl]; with_reducible rfl); (· exact HD); (· first | rfl | (simp only [moOk, nbeq, nble, List.length_nil, beq_self_eq_true, Bool.true_and, Bool.and_true, Bool.and_eq_true, decide_eq_true_eq]; omega)); (· simp only [vcA, Nat.reduceLT, Int.reduceEq, Int.reduceAdd, Int.reduceSub, Nat.reduceBEq, Nat.reduceEqDiff, reduceCtorEq, Nat.reduceAdd, Nat.reduceSub, Nat.reduceMul, Nat.reduceLeDiff, Int.reduceToNat, Int.reduceLT, Int.reduceLE, Int.reduceNeg, reduceIte, pvC_fgt, pvC_ids, pvC_ren, pvC_len, I, S, tv, nv, tyT, RawV.tv, R1.row, rowsGet, rowsLen, row4, Vk, Vn, Vs, Vl]; with_reducible rfl)
  simp only [vcA, Nat.reduceLT, Int.reduceEq, Int.reduceAdd, Int.reduceSub, Nat.reduceBEq, Nat.reduceEqDiff, reduceCtorEq, Nat.reduceAdd, Nat.reduceSub, Nat.reduceMul, Nat.reduceLeDiff, Int.reduceToNat, Int.reduceLT, Int.reduceLE, Int.reduceNeg, reduceIte, pvC_fgt, pvC_ids, pvC_ren, pvC_len, I, S, tv, nv, tyT, RawV.tv, R1.row, rowsGet, rowsLen, row4, Vk, Vn, Vs, Vl]
  refine ⟨by omega, ?_⟩
  (with_reducible apply v_call); (· simp only [vcA, Nat.reduceLT, Int.reduceEq, Int.reduceAdd, Int.reduceSub, Nat.reduceBEq, Nat.reduceEqDiff, reduceCtorEq, Nat.reduceAdd, Nat.reduceSub, Nat.reduceMul, Nat.reduceLeDiff, Int.reduceToNat, Int.reduceLT, Int.reduceLE, Int.reduceNeg, reduceIte, pvC_fgt, pvC_ids, pvC_ren, pvC_len, I, S, tv, nv, tyT, RawV.tv, R1.row, rowsGet, rowsLen, row4, Vk, Vn, Vs, Vl]; with_reducible rfl); (· exact HZ); (· first | rfl | (simp only [moOk, nbeq, nble, List.length_nil, beq_self_eq_true, Bool.true_and, Bool.and_true, Bool.and_eq_true, decide_eq_true_eq]; omega)); (· simp only [vcA, Nat.reduceLT, Int.reduceEq, Int.reduceAdd, Int.reduceSub, Nat.reduceBEq, Nat.reduceEqDiff, reduceCtorEq, Nat.reduceAdd, Nat.reduceSub, Nat.reduceMul, Nat.reduceLeDiff, Int.reduceToNat, Int.reduceLT, Int.reduceLE, Int.reduceNeg, reduceIte, pvC_fgt, pvC_ids, pvC_ren, pvC_len, I, S, tv, nv, tyT, RawV.tv, R1.row, rowsGet, rowsLen, row4, Vk, Vn, Vs, Vl]; with_reducible rfl)
  simp only [vcA, Nat.reduceLT, Int.reduceEq, Int.reduceAdd, Int.reduceSub, Nat.reduceBEq, Nat.reduceEqDiff, reduceCtorEq, Nat.reduceAdd, Nat.reduceSub, Nat.reduceMul, Nat.reduceLeDiff, Int.reduceToNat, Int.reduceLT, Int.reduceLE, Int.reduceNeg, reduceIte, pvC_fgt, pvC_ids, pvC_ren, pvC_len, I, S, tv, nv, tyT, RawV.tv, R1.row, rowsGet, rowsLen, row4, Vk, Vn, Vs, Vl]
  (with_reducible apply v_call); (· simp only [vcA, Nat.reduceLT, Int.reduceEq, Int.reduceAdd, Int.reduceSub, Nat.reduceBEq, Nat.reduceEqDiff, reduceCtorEq, Nat.reduceAdd, Nat.reduceSub, Nat.reduceMul, Nat.reduceLeDiff, Int.reduceToNat, Int.reduceLT, Int.reduceLE, Int.reduceNeg, reduceIte, pvC_fgt, pvC_ids, pvC_ren, pvC_len, I, S, tv, nv, tyT, RawV.tv, R1.row, rowsGet, rowsLen, row4, Vk, Vn, Vs, Vl]; with_reducible rfl); (· exact HT); (· first | rfl | (simp only [moOk, nbeq, nble, List.length_nil, beq_self_eq_true, Bool.true_and, Bool.and_true, Bool.and_eq_true, decide_eq_true_eq]; omega)); (· simp only [vcA, Nat.reduceLT, Int.reduceEq, Int.reduceAdd, Int.reduceSub, Nat.reduceBEq, Nat.reduceEqDiff, reduceCtorEq, Nat.reduceAdd, Nat.reduceSub, Nat.reduceMul, Nat.reduceLeDiff, Int.reduceToNat, Int.reduceLT, Int.reduceLE, Int.reduceNeg, reduceIte, pvC_fgt, pvC_ids, pvC_ren, pvC_len, I, S, tv, nv, tyT, RawV.tv, R1.row, rowsGet, rowsLen, row4, Vk, Vn, Vs, Vl]; with_reducible rfl)
  have w1 : IntKind.i64.wrap ((H.length : Int) + (p.length : Int)) = ((H.length + p.length : Nat) : Int) := by rw [wrap64 (by omega) (by omega)]; omega
  simp only [vcA, Nat.reduceLT, Int.reduceEq, Int.reduceAdd, Int.reduceSub, Nat.reduceBEq, Nat.reduceEqDiff, reduceCtorEq, Nat.reduceAdd, Nat.reduceSub, Nat.reduceMul, Nat.reduceLeDiff, Int.reduceToNat, Int.reduceLT, Int.reduceLE, Int.reduceNeg, reduceIte, pvC_fgt, pvC_ids, pvC_ren, pvC_len, I, S, tv, nv, tyT, RawV.tv, R1.row, rowsGet, rowsLen, row4, Vk, Vn, Vs, Vl, w1]
  (with_reducible apply v_call); (· simp only [vcA, Nat.reduceLT, Int.reduceEq, Int.reduceAdd, Int.reduceSub, Nat.reduceBEq, Nat.reduceEqDiff, reduceCtorEq, Nat.reduceAdd, Nat.reduceSub, Nat.reduceMul, Nat.reduceLeDiff, Int.reduceToNat, Int.reduceLT, Int.reduceLE, Int.reduceNeg, reduceIte, pvC_fgt, pvC_ids, pvC_ren, pvC_len, I, S, tv, nv, tyT, RawV.tv, R1.row, rowsGet, rowsLen, row4, Vk, Vn, Vs, Vl]; with_reducible rfl); (· exact HS); (· first | rfl | (simp only [moOk, nbeq, nble, List.length_nil, beq_self_eq_true, Bool.true_and, Bool.and_true, Bool.and_eq_true, decide_eq_true_eq]; omega)); (· simp only [vcA, Nat.reduceLT, Int.reduceEq, Int.reduceAdd, Int.reduceSub, Nat.reduceBEq, Nat.reduceEqDiff, reduceCtorEq, Nat.reduceAdd, Nat.reduceSub, Nat.reduceMul, Nat.reduceLeDiff, Int.reduceToNat, Int.reduceLT, Int.reduceLE, Int.reduceNeg, reduceIte, pvC_fgt, pvC_ids, pvC_ren, pvC_len, I, S, tv, nv, tyT, RawV.tv, R1.row, rowsGet, rowsLen, row4, Vk, Vn, Vs, Vl]; with_reducible rfl)
  simp only [vcA, Nat.reduceLT, Int.reduceEq, Int.reduceAdd, Int.reduceSub, Nat.reduceBEq, Nat.reduceEqDiff, reduceCtorEq, Nat.reduceAdd, Nat.reduceSub, Nat.reduceMul, Nat.reduceLeDiff, Int.reduceToNat, Int.reduceLT, Int.reduceLE, Int.reduceNeg, reduceIte, pvC_fgt, pvC_ids, pvC_ren, pvC_len, I, S, tv, nv, tyT, RawV.tv, R1.row, rowsGet, rowsLen, row4, Vk, Vn, Vs, Vl]
  (with_reducible apply v_call); (· simp only [vcA, Nat.reduceLT, Int.reduceEq, Int.reduceAdd, Int.reduceSub, Nat.reduceBEq, Nat.reduceEqDiff, reduceCtorEq, Nat.reduceAdd, Nat.reduceSub, Nat.reduceMul, Nat.reduceLeDiff, Int.reduceToNat, Int.reduceLT, Int.reduceLE, Int.reduceNeg, reduceIte, pvC_fgt, pvC_ids, pvC_ren, pvC_len, I, S, tv, nv, tyT, RawV.tv, R1.row, rowsGet, rowsLen, row4, Vk, Vn, Vs, Vl]; with_reducible rfl); (· exact HS); (· first | rfl | (simp only [moOk, nbeq, nble, List.length_nil, beq_self_eq_true, Bool.true_and, Bool.and_true, Bool.and_eq_true, decide_eq_true_eq]; omega)); (· simp only [vcA, Nat.reduceLT, Int.reduceEq, Int.reduceAdd, Int.reduceSub, Nat.reduceBEq, Nat.reduceEqDiff, reduceCtorEq, Nat.reduceAdd, Nat.reduceSub, Nat.reduceMul, Nat.reduceLeDiff, Int.reduceToNat, Int.reduceLT, Int.reduceLE, Int.reduceNeg, reduceIte, pvC_fgt, pvC_ids, pvC_ren, pvC_len, I, S, tv, nv, tyT, RawV.tv, R1.row, rowsGet, rowsLen, row4, Vk, Vn, Vs, Vl]; with_reducible rfl)
  simp only [vcA, Nat.reduceLT, Int.reduceEq, Int.reduceAdd, Int.reduceSub, Nat.reduceBEq, Nat.reduceEqDiff, reduceCtorEq, Nat.reduceAdd, Nat.reduceSub, Nat.reduceMul, Nat.reduceLeDiff, Int.reduceToNat, Int.reduceLT, Int.reduceLE, Int.reduceNeg, reduceIte, pvC_fgt, pvC_ids, pvC_ren, pvC_len, I, S, tv, nv, tyT, RawV.tv, R1.row, rowsGet, rowsLen, row4, Vk, Vn, Vs, Vl, hbb, hbe]
end Go.Proofs.YthjphllpkcnehaaGreatDoor
end
