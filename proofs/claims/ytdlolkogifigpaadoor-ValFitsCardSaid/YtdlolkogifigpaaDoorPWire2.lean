/- Layer 1 in plain words: reading a number's bytes, round by round. -/
import Derived.Test.YtdlolkogifigpaaDoorPWire
set_option linter.unusedSimpArgs false
set_option linter.unusedVariables false
namespace Go.Mor
open Go

theorem drop_cons {s : List UInt8} {i : Nat} (h : i < s.length) : s.drop i = s[i] :: s.drop (i + 1) := List.drop_eq_getElem_cons h

theorem Mid.at {s : List UInt8} {a : Nat} {pre : List (Ix × UInt8)} {x : Ix × UInt8} {m sg : Int} (hs : s.length < 1125899906842624) (hM : Begs s a pre → Mid s a pre m sg) (hg : Begs s a (pre ++ [x])) :
    Mid s a pre m sg ∧ x.1.val = pre.length ∧ rdGo 0 (0, 0) (s.drop a) = rdGo pre.length (stM pre) (x.2 :: s.drop (a + (pre ++ [x]).length)) := by
  obtain ⟨hg', hx, hl, hb⟩ := hg.last hs
  have hm := hM hg'
  refine ⟨hm, hx, ?_⟩
  rw [hm.go, drop_cons hl, hb]
  simp [Nat.add_assoc]

theorem Mid.err {s : List UInt8} {a : Nat} {pre : List (Ix × UInt8)} {x : Ix × UInt8} {m sg : Int} (hs : s.length < 1125899906842624) (hM : Begs s a pre → Mid s a pre m sg) (hk : ¬ x.1.val = 0) (hbad : x.2.toNat = 0 ∨ x.1.val = 9 ∧ 1 < x.2.toNat)
    (hg : Begs s a (pre ++ [x])) : rdGo 0 (0, 0) (s.drop a) = .error true := by
  obtain ⟨hm, hx, hr⟩ := Mid.at hs hM hg
  rw [hr, rdGo, if_pos]
  rw [← hx]
  exact ⟨hk, hbad⟩

theorem Mid.ok {s : List UInt8} {a : Nat} {pre : List (Ix × UInt8)} {x : Ix × UInt8} {m sg : Int} (hs : s.length < 1125899906842624) (hM : Begs s a pre → Mid s a pre m sg) (hbad : ¬ (x.1.val ≠ 0 ∧ (x.2.toNat = 0 ∨ x.1.val = 9 ∧ 1 < x.2.toNat)))
    (hlo : x.2.toNat < 128) (hg : Begs s a (pre ++ [x])) : rdGo 0 (0, 0) (s.drop a) = .ok ((stepM (stM pre) x).1, (stepM (stM pre) x).2, x.1.val + 1) := by
  obtain ⟨hm, hx, hr⟩ := Mid.at hs hM hg
  rw [hr, rdGo, if_neg (by rw [← hx]; exact hbad), ← hx]
  simp only [hlo, if_true, stepM]

theorem step_lt {st : Nat × Nat} {x : Ix × UInt8} (h : st.1 < 2 ^ (7 * x.1.val - 1)) : (stepM st x).1 < 2 ^ (7 * (x.1.val + 1) - 1) := by
  unfold stepM
  by_cases h0 : x.1.val = 0
  · rw [if_pos h0, h0]
    show x.2.toNat % 128 / 2 < 64
    omega
  · rw [if_neg h0]
    show st.1 + x.2.toNat % 128 * 2 ^ (7 * x.1.val - 1) < _
    have e : 7 * (x.1.val + 1) - 1 = 7 * x.1.val - 1 + 7 := by omega
    rw [e, Nat.pow_add]
    have h1 : x.2.toNat % 128 < 128 := Nat.mod_lt _ (by omega)
    have h2 : x.2.toNat % 128 * 2 ^ (7 * x.1.val - 1) ≤ 127 * 2 ^ (7 * x.1.val - 1) := Nat.mul_le_mul_right _ (by omega)
    omega

theorem Mid.cont {s : List UInt8} {a : Nat} {pre : List (Ix × UInt8)} {x : Ix × UInt8} {m sg : Int} (hs : s.length < 1125899906842624) (hM : Begs s a pre → Mid s a pre m sg) (hbad : ¬ (x.1.val ≠ 0 ∧ (x.2.toNat = 0 ∨ x.1.val = 9 ∧ 1 < x.2.toNat)))
    (hlo : 128 ≤ x.2.toNat) (hg : Begs s a (pre ++ [x])) : Mid s a (pre ++ [x]) ((stepM (stM pre) x).1 : Nat) ((stepM (stM pre) x).2 : Nat) := by
  obtain ⟨hm, hx, hr⟩ := Mid.at hs hM hg
  have hlen : (pre ++ [x]).length = x.1.val + 1 := by simp [hx]
  refine ⟨by rw [stM_snoc], by rw [stM_snoc], ?_, ?_, ?_⟩
  · rw [hr, rdGo, if_neg (by rw [← hx]; exact hbad), stM_snoc, ← hx]
    have h1 : ¬ x.2.toNat < 128 := by omega
    simp only [h1, if_false, hlen]
    rfl
  · rw [stM_snoc, hlen]
    exact step_lt (by rw [hx]; exact hm.lt)
  · have := hm.le
    rw [hlen]
    by_cases h0 : x.1.val = 0
    · omega
    · have : ¬ x.1.val = 9 := fun h9 => hbad ⟨h0, .inr ⟨h9, by omega⟩⟩
      omega

theorem or_add (A g i : Nat) (h : A < 2 ^ i) : A ||| g * 2 ^ i = A + g * 2 ^ i := by
  have := Nat.two_pow_add_eq_or_of_lt h g
  rw [Nat.mul_comm g, Nat.or_comm, ← this, Nat.add_comm]

/-- 'm |= group << (7*k - 1)'. -/
theorem or_step {s : List UInt8} {a : Nat} {pre : List (Ix × UInt8)} {x : Ix × UInt8} {m sg G : Int} (hs : s.length < 1125899906842624) (hM : Begs s a pre → Mid s a pre m sg) (hk : ¬ x.1.val = 0) (hbad : ¬ (x.2.toNat = 0 ∨ x.1.val = 9 ∧ 1 < x.2.toNat))
    (hG : G = IntKind.u64.wrap ((x.2.toNat : Int) % 128 * 2 ^ min (7 * x.1.val - 1) 64)) (hg : Begs s a (pre ++ [x])) :
    bits .or .u64 m G = ((stepM (stM pre) x).1 : Nat) ∧ sg = ((stepM (stM pre) x).2 : Nat) := by
  obtain ⟨hm, hx, _⟩ := Mid.at hs hM hg
  have hle := hm.le
  have hlt := hm.lt
  rw [← hx] at hle hlt
  have hmin : min (7 * x.1.val - 1) 64 = 7 * x.1.val - 1 := by omega
  have hpow : 2 ^ (7 * x.1.val - 1) ≤ 2 ^ 62 := Nat.pow_le_pow_right (by omega) (by omega)
  have hval : x.2.toNat % 128 * 2 ^ (7 * x.1.val - 1) < 18446744073709551616 := by
    by_cases h9 : x.1.val = 9
    · have : x.2.toNat % 128 ≤ 1 := by omega
      have := Nat.mul_le_mul this hpow
      omega
    · have h8 : 2 ^ (7 * x.1.val - 1) ≤ 2 ^ 55 := Nat.pow_le_pow_right (by omega) (by omega)
      have : x.2.toNat % 128 ≤ 127 := by omega
      have := Nat.mul_le_mul this h8
      omega
  have hG' : G = ((x.2.toNat % 128 * 2 ^ (7 * x.1.val - 1) : Nat) : Int) := by
    rw [hG, hmin]
    have e : (x.2.toNat : Int) % 128 * 2 ^ (7 * x.1.val - 1) = ((x.2.toNat % 128 * 2 ^ (7 * x.1.val - 1) : Nat) : Int) := by simp
    rw [e, IntKind.wrap_u64]
    omega
  rw [hG', hm.m, u64_or_nat _ _ (by omega) hval, or_add _ _ _ hlt, hm.sg]
  simp only [stepM, if_neg hk, true_and]
/-- What is read lies within a number's range. -/
theorem rdGo_bound : ∀ (l : List UInt8) (k : Nat) (st : Nat × Nat) {m sg z : Nat}, k ≤ 9 → st.1 < 2 ^ (7 * k - 1) → (k = 0 ∨ st.2 ≤ 1) → rdGo k st l = .ok (m, sg, z) →
    m < 9223372036854775808 ∧ sg ≤ 1 ∧ k < z ∧ z ≤ 10 ∧ z ≤ k + l.length
  | [], k, st, m, sg, z, _, _, _, h => by simp [rdGo] at h
  | b :: r, k, st, m, sg, z, hk, hlt, hsg, h => by
    rw [rdGo] at h
    by_cases hbad : k ≠ 0 ∧ (b.toNat = 0 ∨ k = 9 ∧ 1 < b.toNat)
    · rw [if_pos hbad] at h; cases h
    rw [if_neg hbad] at h
    have hst : (if k = 0 then (b.toNat % 128 / 2, b.toNat % 128 % 2) else (st.1 + b.toNat % 128 * 2 ^ (7 * k - 1), st.2)).1 < 2 ^ (7 * (k + 1) - 1) ∧
        (if k = 0 then (b.toNat % 128 / 2, b.toNat % 128 % 2) else (st.1 + b.toNat % 128 * 2 ^ (7 * k - 1), st.2)).2 ≤ 1 ∧
        (k = 9 → (if k = 0 then (b.toNat % 128 / 2, b.toNat % 128 % 2) else (st.1 + b.toNat % 128 * 2 ^ (7 * k - 1), st.2)).1 < 9223372036854775808) := by
      by_cases h0 : k = 0
      · subst h0
        simp only [if_true]
        refine ⟨?_, by omega, by omega⟩
        show b.toNat % 128 / 2 < 64
        omega
      · simp only [if_neg h0]
        have e : 7 * (k + 1) - 1 = 7 * k - 1 + 7 := by omega
        rw [e, Nat.pow_add]
        have h2 : b.toNat % 128 * 2 ^ (7 * k - 1) ≤ 127 * 2 ^ (7 * k - 1) := Nat.mul_le_mul_right _ (by omega)
        refine ⟨by omega, by omega, fun h9 => ?_⟩
        subst h9
        have h3 : b.toNat % 128 ≤ 1 := by omega
        have h4 : b.toNat % 128 * 2 ^ (7 * 9 - 1) ≤ 1 * 2 ^ (7 * 9 - 1) := Nat.mul_le_mul_right _ h3
        omega
    obtain ⟨h1, h2, h3⟩ := hst
    dsimp only at h
    generalize (if k = 0 then (b.toNat % 128 / 2, b.toNat % 128 % 2) else (st.1 + b.toNat % 128 * 2 ^ (7 * k - 1), st.2)) = q at *
    by_cases hlo : b.toNat < 128
    · rw [if_pos hlo] at h
      simp only [Except.ok.injEq, Prod.mk.injEq] at h
      obtain ⟨rfl, rfl, rfl⟩ := h
      refine ⟨?_, h2, by omega, by omega, by simp⟩
      by_cases h9 : k = 9
      · exact h3 h9
      · have : 2 ^ (7 * (k + 1) - 1) ≤ 2 ^ 62 := Nat.pow_le_pow_right (by omega) (by omega)
        omega
    · rw [if_neg hlo] at h
      have hk9 : ¬ k = 9 := fun h9 => hbad ⟨by omega, .inr ⟨h9, by omega⟩⟩
      have := rdGo_bound r (k + 1) q (by omega) h1 (.inr h2) h
      simp only [List.length_cons]
      omega
end Go.Mor
