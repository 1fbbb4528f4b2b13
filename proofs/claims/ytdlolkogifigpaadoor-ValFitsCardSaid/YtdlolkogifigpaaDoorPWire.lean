/- Layer 1 in plain words: a number's bytes. -/
import Derived.Test.YtdlolkogifigpaaDoorBase
set_option linter.unusedSimpArgs false
set_option linter.unusedVariables false
namespace Go.Mor

/-- A number's size, and its sign. -/
def mag (n : Int) : Nat := if n < 0 then (-1 - n).toNat else n.toNat
def sgn (n : Int) : Nat := if n < 0 then 1 else 0
/-- The groups behind the first one, f at the most. -/
def tailN : Nat → Nat → List UInt8
  | 0, _ => []
  | f + 1, m => if m = 0 then [] else UInt8.ofNat (m % 128) :: tailN f (m / 128)
def groups (n : Int) : List UInt8 := UInt8.ofNat (mag n % 64 * 2 + sgn n) :: tailN 9 (mag n / 64)
/-- The last byte, 128 more. -/
def bump (l : List UInt8) : List UInt8 := l.dropLast ++ (l.getLast?.map (· + 128)).toList
def pack (l : List UInt8) : List UInt8 := l.foldl (fun acc g => bump acc ++ [g]) []
/-- A number's bytes. -/
def num (n : Int) : List UInt8 := pack (groups n)
theorem pack_snoc (l : List UInt8) (g : UInt8) : pack (l ++ [g]) = bump (pack l) ++ [g] := by simp [pack]
theorem bump_length (l : List UInt8) : (bump l).length = l.length := by
  rcases List.eq_nil_or_concat l with rfl | ⟨Q, b, rfl⟩
  · rfl
  · simp [bump]
theorem foldl_bump_length (l : List UInt8) : ∀ acc : List UInt8, (l.foldl (fun acc g => bump acc ++ [g]) acc).length = acc.length + l.length := by
  induction l with
  | nil => intro acc; simp
  | cons g l ih => intro acc; rw [List.foldl_cons, ih]; simp [bump_length]; omega
theorem pack_length (l : List UInt8) : (pack l).length = l.length := by rw [pack, foldl_bump_length]; simp
theorem tailN_zero (f : Nat) : tailN f 0 = [] := by cases f <;> simp [tailN]
theorem tailN_length (f : Nat) : ∀ m, (tailN f m).length ≤ f := by
  induction f with
  | zero => intro m; simp [tailN]
  | succ f ih => intro m; simp only [tailN]; split; simp; simp; exact ih _
theorem groups_length (n : Int) : (groups n).length ≤ 10 := by
  have := tailN_length 9 (mag n / 64)
  simp [groups]; omega
theorem num_length (n : Int) : (num n).length ≤ 10 := by rw [num, pack_length]; exact groups_length n
theorem num_pos (n : Int) : 0 < (num n).length := by rw [num, pack_length]; simp [groups]
/-- A place, small enough for every sum of it. -/
abbrev Ix : Type := Fin 1125899906842624
/-- What is read of the bytes from the k-th on: the number's size and sign, and how many bytes; false: they end too early; true: they are none. -/
def rdGo : Nat → Nat × Nat → List UInt8 → Except Bool (Nat × Nat × Nat)
  | _, _, [] => .error false
  | k, st, b :: r =>
    if k ≠ 0 ∧ (b.toNat = 0 ∨ k = 9 ∧ 1 < b.toNat) then .error true else
    let g := b.toNat % 128
    let st' := if k = 0 then (g / 2, g % 2) else (st.1 + g * 2 ^ (7 * k - 1), st.2)
    if b.toNat < 128 then .ok (st'.1, st'.2, k + 1) else rdGo (k + 1) st' r
def stepM (st : Nat × Nat) (x : Ix × UInt8) : Nat × Nat :=
  if x.1.val = 0 then (x.2.toNat % 128 / 2, x.2.toNat % 128 % 2) else (st.1 + x.2.toNat % 128 * 2 ^ (7 * x.1.val - 1), st.2)
def stM (pre : List (Ix × UInt8)) : Nat × Nat := pre.foldl stepM (0, 0)
theorem stM_snoc (pre : List (Ix × UInt8)) (x : Ix × UInt8) : stM (pre ++ [x]) = stepM (stM pre) x := by simp [stM]
def pairs (s : List UInt8) (a : Nat) : List (Ix × UInt8) := (s.drop a).zipIdx.map fun p => (Fin.ofNat _ p.2, p.1)
theorem pairs_length (s : List UInt8) (a : Nat) : (pairs s a).length = s.length - a := by simp [pairs]
theorem pairs_get (s : List UInt8) (a k : Nat) (h : a + k < s.length) : (pairs s a)[k]? = some (Fin.ofNat _ k, s[a + k]) := by
  simp [pairs, List.getElem?_drop, List.getElem?_eq_getElem h]
theorem pairs_take (s : List UInt8) (a k : Nat) (h : a + k < s.length) : (pairs s a).take (k + 1) = (pairs s a).take k ++ [(Fin.ofNat _ k, s[a + k])] := by
  rw [List.take_add_one, pairs_get s a k h]; rfl
/-- A number that is read at a place: the number, and how many bytes. -/
def rd (s : List UInt8) (a : Int) : Except Bool (Int × Nat) :=
  if 0 ≤ a ∧ a < s.length then
    match rdGo 0 (0, 0) (s.drop a.toNat) with
    | .error e => .error e
    | .ok (m, sg, z) => .ok (if sg = 1 then -1 - (m : Int) else m, z)
  else .error false
/-- What has come is a beginning of what is to come. -/
def Begs (s : List UInt8) (a : Nat) (pre : List (Ix × UInt8)) : Prop := pre <+: pairs s a
theorem Begs.last {s : List UInt8} {a : Nat} {pre : List (Ix × UInt8)} {x : Ix × UInt8} (h : Begs s a (pre ++ [x])) (hs : s.length < 1125899906842624) :
    Begs s a pre ∧ x.1.val = pre.length ∧ ∃ hl : a + pre.length < s.length, x.2 = s[a + pre.length] := by
  have hg : Begs s a pre := (List.prefix_append pre [x]).trans h
  have hlen := h.length_le
  rw [pairs_length] at hlen
  simp at hlen
  have hl : a + pre.length < s.length := by omega
  have h1 : (pre ++ [x])[pre.length]? = some x := by simp
  have h2 := List.prefix_iff_getElem?.1 h pre.length (by simp)
  rw [pairs_get s a pre.length hl] at h2
  simp at h2
  subst h2
  exact ⟨hg, by simp [Fin.ofNat]; omega, hl, rfl⟩
/-- What the loop knows between two rounds. -/
structure Mid (s : List UInt8) (a : Nat) (pre : List (Ix × UInt8)) (m sg : Int) : Prop where
  m : m = (stM pre).1
  sg : sg = (stM pre).2
  go : rdGo 0 (0, 0) (s.drop a) = rdGo pre.length (stM pre) (s.drop (a + pre.length))
  lt : (stM pre).1 < 2 ^ (7 * pre.length - 1)
  le : pre.length ≤ 9
theorem bump_nil : bump [] = [] := rfl
theorem add128 (b : UInt8) : ((b + 128).toNat : Int) = ((b.toNat : Int) + 128) % 256 := by
  have h : (128 : UInt8).toNat = 128 := rfl
  rw [UInt8.toNat_add, h]
  omega
theorem bump_snoc (Q : List UInt8) (b : UInt8) : bump (Q ++ [b]) = Q ++ [b + 128] := by
  simp [bump]
theorem snoc_of {α : Type} (l : List α) (h : l ≠ []) : ∃ Q b, l = Q ++ [b] := ⟨l.dropLast, l.getLast h, (List.dropLast_concat_getLast h).symm⟩
theorem first_neg (x : Int) (h : x < 0) : ((UInt8.ofNat (mag x % 64 * 2 + sgn x)).toNat : Int) = (-1 - x) % 64 * 2 + 1 := by
  simp only [mag, sgn, if_pos h, UInt8.toNat_ofNat']; omega
theorem first_pos (x : Int) (h : ¬ x < 0) : ((UInt8.ofNat (mag x % 64 * 2 + sgn x)).toNat : Int) = x % 64 * 2 := by
  simp only [mag, sgn, if_neg h, UInt8.toNat_ofNat']; omega
theorem next_byte (m : Nat) : ((UInt8.ofNat (m % 128)).toNat : Int) = (m : Int) % 128 := by
  simp only [UInt8.toNat_ofNat']; omega
theorem mag_eq (x : Int) : (mag x : Int) = if x < 0 then -1 - x else x := by simp only [mag]; split <;> omega
theorem mag_lt (x : Int) (h0 : -9223372036854775808 ≤ x) (h1 : x ≤ 9223372036854775807) : mag x < 9223372036854775808 := by
  have := mag_eq x; split at this <;> omega
theorem mag_neg (x : Int) (h : x < 0) : (mag x : Int) = -1 - x := by simp only [mag, if_pos h]; omega
theorem mag_pos (x : Int) (h : ¬ x < 0) : (mag x : Int) = x := by simp only [mag, if_neg h]; omega
end Go.Mor
