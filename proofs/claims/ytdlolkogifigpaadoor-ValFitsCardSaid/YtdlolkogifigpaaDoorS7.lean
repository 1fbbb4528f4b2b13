/- Sh: a call among what its caller knows. No statement of the program is proved here. -/
import Derived.Test.YtdlolkogifigpaaDoorS6
set_option linter.unusedSimpArgs false
set_option linter.unusedVariables false
namespace Go.Sh
open Go Go.RowKit
set_option maxHeartbeats 2000000
section
variable {B : Base} {s : FS} {a : Act} {w w' : World} {E E' : Env} {P : Program} {I : List Nat}

theorem pos_some : ∀ {I : List Nat} {d j : Nat}, pos I d = some j → I[j]? = some d
  | [], _, _, h => by simp [pos] at h
  | x :: l, d, j, h => by
    simp only [pos] at h
    split at h
    · rename_i hx; cases h; simp [Nat.eq_of_beq_eq_true hx]
    · obtain ⟨i, h1, rfl⟩ := Option.map_eq_some_iff.1 h
      simpa using pos_some h1
theorem pos_none : ∀ {I : List Nat} {d : Nat}, pos I d = none → d ∉ I
  | [], _, _ => by simp
  | x :: l, d, h => by
    simp only [pos] at h
    split at h
    · cases h
    · rename_i hx
      have : pos l d = none := by cases hp : pos l d with | none => rfl | some i => rw [hp] at h; cases h
      have hne : d ≠ x := by rintro rfl; exact hx (Nat.beq_refl d)
      simp [hne, pos_none this]
theorem pos_get {I : List Nat} (hI : I.Nodup) {d j : Nat} (h : I[j]? = some d) : pos I d = some j := by
  cases hp : pos I d with
  | none => exact absurd (List.mem_of_getElem? h) (pos_none hp)
  | some i =>
    have hi := pos_some hp
    obtain ⟨h1, h2⟩ := List.getElem?_eq_some_iff.1 h
    obtain ⟨h3, h4⟩ := List.getElem?_eq_some_iff.1 hi
    rw [(List.getElem_inj hI).1 (h4.trans h2.symm)]

theorem objB_eq {os : List MO} {j : Nat} {cs : List TV} (h : os[j]? = some (.box cs)) : objB os (1000 + j) = some cs := by simp [objB, h]
theorem objR_eq {os : List MO} {j e W n : Nat} (h : os[j]? = some (.row e W n)) : objR os (1000 + j) = some (e, W, n) := by simp [objR, h]
theorem objB_inv {os : List MO} {d : Nat} {cs : List TV} (h : objB os d = some cs) : ∃ j, d = 1000 + j ∧ os[j]? = some (.box cs) := by
  unfold objB at h
  split at h
  · split at h
    · rename_i h1 _ h2; cases h; exact ⟨d - 1000, by omega, h2⟩
    · cases h
  · cases h
theorem objR_inv {os : List MO} {d e W n : Nat} (h : objR os d = some (e, W, n)) : ∃ j, d = 1000 + j ∧ os[j]? = some (.row e W n) := by
  unfold objR at h
  split at h
  · split at h
    · rename_i h1 _ _ _ _ h2; cases h; exact ⟨d - 1000, by omega, h2⟩
    · cases h
  · cases h

/-- What is handed, by its own names. -/
def envIn (E : Env) (I : List Nat) : Env := { K := E.K, β := fun d => E.β (I.getD (d - 1000) 0), γ := fun d => E.γ (I.getD (d - 1000) 0), ι := E.ι }
theorem handed {os : List MO} (hos : seqO (fun d => (s.mo d).bind (MO.ren (rhoIn I))) I = some os) :
    I.length = os.length ∧ (∀ (j : Nat) cs', os[j]? = some (MO.box cs') → ∃ i cs, I[j]? = some i ∧ s.b i = some cs ∧ seqO (TV.ren1 (rhoIn I)) cs = some cs' ∧ s.r i = none) ∧ (∀ (j e W n : Nat), os[j]? = some (MO.row e W n) → ∃ i, I[j]? = some i ∧ s.b i = none ∧ s.r i = some (e, W, n)) := by
  obtain ⟨h1, h2⟩ := seqO_spec hos
  have key : ∀ (j : Nat) m, os[j]? = some m → ∃ i, I[j]? = some i ∧ (s.mo i).bind (MO.ren (rhoIn I)) = some m := by
    intro j m hm
    have hj : j < I.length := by rw [h1]; exact (List.getElem?_eq_some_iff.1 hm).1
    obtain ⟨y, hy1, hy2⟩ := h2 j I[j] (List.getElem?_eq_getElem hj)
    rw [hm] at hy1; cases hy1
    exact ⟨I[j], List.getElem?_eq_getElem hj, hy2⟩
  refine ⟨h1, fun j cs' hm => ?_, fun j e W n hm => ?_⟩
  · obtain ⟨i, hi, h3⟩ := key j _ hm
    obtain ⟨m, h4, h5⟩ := Option.bind_eq_some_iff.1 h3
    unfold FS.mo at h4
    split at h4
    · rename_i cs hcs hrn
      cases h4
      simp only [MO.ren] at h5
      obtain ⟨l, h6, h7⟩ := Option.map_eq_some_iff.1 h5
      cases h7
      exact ⟨i, cs, hi, hcs, h6, hrn⟩
    · cases h4; simp [MO.ren] at h5
    · cases h4
  · obtain ⟨i, hi, h3⟩ := key j _ hm
    obtain ⟨m, h4, h5⟩ := Option.bind_eq_some_iff.1 h3
    unfold FS.mo at h4
    split at h4
    · cases h4
      simp only [MO.ren] at h5
      obtain ⟨l, h6, h7⟩ := Option.map_eq_some_iff.1 h5
      cases h7
    · rename_i hb hr
      cases h4
      simp only [MO.ren] at h5; cases h5
      exact ⟨i, hi, hb, hr⟩
    · cases h4
theorem getD_of {I : List Nat} {j i : Nat} (h : I[j]? = some i) : I.getD (1000 + j - 1000) 0 = i := by
  rw [Nat.add_sub_cancel_left, List.getD_eq_getElem?_getD, h]; rfl
theorem renIn {os : List MO} (hos : seqO (fun d => (s.mo d).bind (MO.ren (rhoIn I))) I = some os) : RenOk E s.r (rhoIn I) (envIn E I) (objR os) := by
  obtain ⟨_, _, h3⟩ := handed hos
  refine ⟨fun d d' hd => ?_⟩
  obtain ⟨j, h1, rfl⟩ := Option.map_eq_some_iff.1 hd
  have hi := pos_some h1
  refine ⟨by simp only [envIn]; rw [getD_of hi], by simp only [envIn]; rw [getD_of hi], fun q hq => ?_⟩
  obtain ⟨e, W, n⟩ := q
  obtain ⟨j', hj, h4⟩ := objR_inv hq
  obtain rfl : j = j' := by omega
  obtain ⟨i, h5, _, h6⟩ := h3 j e W n h4
  rw [hi] at h5; cases h5
  exact h6
theorem call_pre (h : Sim B s a w E) (hI : I.Nodup) {os : List MO} (hos : seqO (fun d => (s.mo d).bind (MO.ren (rhoIn I))) I = some os) :
    MSim (start w (envIn E I) os 0) (objB os) (objR os) w (envIn E I) := by
  obtain ⟨h1, h2, h3⟩ := handed hos
  have hρ : RenOk E s.r (rhoIn I) (envIn E I) (objR os) := renIn hos
  have hb : ∀ d cs', objB os d = some cs' → ∃ j i cs, d = 1000 + j ∧ I[j]? = some i ∧ s.b i = some cs ∧ seqO (TV.ren1 (rhoIn I)) cs = some cs' ∧ (envIn E I).β d = E.β i := by
    intro d cs' hd
    obtain ⟨j, rfl, hj⟩ := objB_inv hd
    obtain ⟨i, cs, q1, q2, q3, _⟩ := h2 j cs' hj
    exact ⟨j, i, cs, rfl, q1, q2, q3, by simp only [envIn]; rw [getD_of q1]⟩
  have hr : ∀ d e W n, objR os d = some (e, W, n) → ∃ j i, d = 1000 + j ∧ I[j]? = some i ∧ s.r i = some (e, W, n) ∧ (envIn E I).γ d = E.γ i := by
    intro d e W n hd
    obtain ⟨j, rfl, hj⟩ := objR_inv hd
    obtain ⟨i, q1, q2, q3⟩ := h3 j e W n hj
    exact ⟨j, i, rfl, q1, q3, by simp only [envIn]; rw [getD_of q1]⟩
  have inj : ∀ {j j' i : Nat}, I[j]? = some i → I[j']? = some i → j = j' := fun {j j' i} q1 q2 => by
    have a1 := pos_get hI q1
    have a2 := pos_get hI q2
    rw [a1] at a2; exact Option.some.inj a2
  refine ⟨fun d cs' hd => ?_, fun d e W n hd => ?_, fun d d' cs cs' e1 e2 e3 => ?_, fun d d' cs q k cap e1 e2 e3 => ?_, fun d d' q q' k cap cap' e1 e2 e3 e4 => ?_, h.mem.lt, ⟨rfl, rfl, rfl, Nat.le_refl _, fun _ _ _ => rfl⟩, fun k o u e1 e2 => ⟨e1, e2⟩, fun k o e1 => .inl e1, ⟨fun _ _ => rfl, fun _ _ _ => rfl, fun d e W n _ hd => ⟨n, hd, Nat.le_refl _, fun _ => rfl⟩⟩⟩
  · obtain ⟨j, i, cs, rfl, q1, q2, q3, q4⟩ := hb d cs' hd
    refine ⟨?_, .inr (.inl ⟨cs', hd, rfl⟩)⟩
    rw [q4]
    obtain ⟨b1, _⟩ := h.mem.box i cs q2
    refine ⟨b1.lt, b1.obj, b1.fz, fun m c hc => ?_, b1.out⟩
    obtain ⟨l1, l2⟩ := seqO_spec q3
    have hm : m < cs.length := by rw [l1]; exact (List.getElem?_eq_some_iff.1 hc).1
    obtain ⟨z, z1, z2⟩ := l2 m cs[m] (List.getElem?_eq_getElem hm)
    rw [hc] at z1; cases z1
    obtain ⟨v, c1, c2, c3⟩ := b1.cell m cs[m] (List.getElem?_eq_getElem hm)
    exact ⟨v, c1, c2, ren1_rel hρ (fun _ _ _ h _ => h) c3 z2⟩
  · obtain ⟨j, i, rfl, q1, q2, q3⟩ := hr d e W n hd
    rw [q3]
    rcases h.mem.row i e W n q2 with h4 | ⟨k, cap, h4, h5, h6⟩
    · exact .inl h4
    · exact .inr ⟨k, cap, h4, .inr (.inr ⟨_, cap, hd, by rw [q3]; exact h4⟩), h6.cells, h6.le, h6.max, h6.out⟩
  · obtain ⟨j, i, c1, rfl, q1, q2, q3, q4⟩ := hb d cs e1
    obtain ⟨j', i', c1', rfl, q1', q2', q3', q4'⟩ := hb d' cs' e2
    rw [q4, q4'] at e3
    obtain rfl := h.mem.bb i i' _ _ q2 q2' e3
    rw [inj q1 q1']
  · obtain ⟨j, i, c1, rfl, q1, q2, q3, q4⟩ := hb d cs e1
    obtain ⟨e, W, n⟩ := q
    obtain ⟨j', i', rfl, q1', q2', q3'⟩ := hr d' e W n e2
    rw [q4]; rw [q3'] at e3
    exact h.mem.br i i' _ _ k cap q2 q2' e3
  · obtain ⟨e, W, n⟩ := q
    obtain ⟨e', W', n'⟩ := q'
    obtain ⟨j, i, rfl, q1, q2, q3⟩ := hr d e W n e1
    obtain ⟨j', i', rfl, q1', q2', q3'⟩ := hr d' e' W' n' e2
    rw [q3] at e3; rw [q3'] at e4
    obtain rfl := h.mem.rr i i' _ _ k cap cap' q2 q2' e3 e4
    rw [inj q1 q1']

/-- What a call answers, by the caller's names. -/
def newAt (k i : Nat) : Option Nat := if i = newId k 0 then some 0 else if i = newId k 1 then some 1 else if i = newId k 2 then some 2 else if i = newId k 3 then some 3 else none
theorem newAt_id {k q : Nat} (h : q < 4) : newAt k (newId k q) = some q := by
  match q, h with
  | 0, _ => simp [newAt, newId]
  | 1, _ => simp [newAt, newId]
  | 2, _ => simp [newAt, newId]
  | 3, _ => simp [newAt, newId]
theorem newAt_some {k i q : Nat} (h : newAt k i = some q) : i = newId k q ∧ q < 4 := by
  unfold newAt at h
  split at h
  · rename_i e; cases h; exact ⟨e, by omega⟩
  · split at h
    · rename_i e; cases h; exact ⟨e, by omega⟩
    · split at h
      · rename_i e; cases h; exact ⟨e, by omega⟩
      · split at h
        · rename_i e; cases h; exact ⟨e, by omega⟩
        · cases h
def backAt (I : List Nat) (k i : Nat) : Option Nat := match pos I i with | some j => some (1000 + j) | none => (newAt k i).map (1000 + I.length + ·)
def envOut (E E' : Env) (I : List Nat) (k : Nat) : Env := { K := E'.K, β := fun i => match backAt I k i with | some d => E'.β d | none => E.β i, γ := fun i => match backAt I k i with | some d => E'.γ d | none => E.γ i, ι := E.ι }
theorem back_out (hI : I.Nodup) {k d i : Nat} (hn : ∀ q < 4, newId k q ∉ I) (h : rhoOut I k d = some i) : backAt I k i = some d := by
  unfold rhoOut at h
  split at h
  · rename_i h1
    have h1 := Nat.le_of_ble_eq_true h1
    split at h
    · rename_i x hx
      cases h
      unfold backAt
      rw [pos_get hI hx]
      simp; omega
    · rename_i hx
      split at h
      · rename_i hq
        rw [Nat.blt_eq] at hq
        cases h
        have hl : I.length ≤ d - 1000 := by simpa using hx
        unfold backAt
        cases hp : pos I (newId k (d - 1000 - I.length)) with
        | some j => exact absurd (List.mem_of_getElem? (pos_some hp)) (hn _ hq)
        | none => simp only [newAt_id hq, Option.map_some]; congr 1; omega
      · cases h
  · cases h
theorem out_back {k d i : Nat} (h : backAt I k i = some d) : rhoOut I k d = some i ∧ 1000 ≤ d := by
  unfold backAt at h
  split at h
  · rename_i j hj
    cases h
    have := pos_some hj
    refine ⟨?_, by omega⟩
    unfold rhoOut
    rw [if_pos (Nat.ble_eq_true_of_le (by omega)), Nat.add_sub_cancel_left, this]
  · obtain ⟨q, h1, rfl⟩ := Option.map_eq_some_iff.1 h
    obtain ⟨rfl, hq⟩ := newAt_some h1
    refine ⟨?_, by omega⟩
    unfold rhoOut
    rw [if_pos (Nat.ble_eq_true_of_le (by omega)), List.getElem?_eq_none (by omega)]
    simp only
    have e : 1000 + I.length + q - 1000 - I.length = q := by omega
    rw [if_pos (by rw [Nat.blt_eq, e]; exact hq), e]
theorem outs_spec {ρ : Nat → Option Nat} : ∀ {l : List MO} {j : Nat} {us : List (Nat × MO)}, outs ρ j l = some us → (∀ i m', us.lookup i = some m' → ∃ (q : Nat) (m : MO), l[q]? = some m ∧ ρ (1000 + (j + q)) = some i ∧ m.ren ρ = some m') ∧ (∀ (q : Nat) m, l[q]? = some m → ∃ i m', ρ (1000 + (j + q)) = some i ∧ m.ren ρ = some m' ∧ (i, m') ∈ us)
  | [], j, us, h => by simp [outs] at h; subst h; exact ⟨fun i m' h => by simp at h, fun q m h => by simp at h⟩
  | m :: l, j, us, h => by
    simp only [outs] at h
    split at h
    · rename_i i m' r h1 h2 h3
      cases h
      obtain ⟨q1, q2⟩ := outs_spec h3
      refine ⟨fun x y hx => ?_, fun q y hy => ?_⟩
      · simp only [List.lookup] at hx
        split at hx
        · rename_i he
          cases hx
          obtain rfl : x = i := by simpa using he
          exact ⟨0, m, rfl, h1, h2⟩
        · obtain ⟨q, m0, a1, a2, a3⟩ := q1 x y hx
          exact ⟨q + 1, m0, by simpa using a1, by rw [← a2]; congr 2; omega, a3⟩
      · cases q with
        | zero => simp at hy; subst hy; exact ⟨i, m', h1, h2, List.mem_cons_self ..⟩
        | succ q =>
          obtain ⟨x, y', a1, a2, a3⟩ := q2 q y (by simpa using hy)
          exact ⟨x, y', by rw [← a1]; congr 2; omega, a2, List.mem_cons_of_mem _ a3⟩
    · cases h
theorem lookup_of_mem {us : List (Nat × MO)} {i : Nat} {m : MO} (h : (i, m) ∈ us) : ∃ m', us.lookup i = some m' := by
  induction us with
  | nil => simp at h
  | cons p l ih =>
    obtain ⟨x, y⟩ := p
    simp only [List.lookup]
    cases he : (i == x) with
    | true => exact ⟨y, rfl⟩
    | false =>
      rcases List.mem_cons.1 h with h1 | h1
      · cases h1; simp at he
      · exact ih h1
theorem moOk_spec : ∀ {os os' : List MO}, moOk os os' = true → os'.length ≤ os.length + 4 ∧ os.length ≤ os'.length ∧ (∀ (j : Nat) cs, os[j]? = some (MO.box cs) → ∃ cs', os'[j]? = some (MO.box cs')) ∧ (∀ (j e W n : Nat), os[j]? = some (MO.row e W n) → ∃ n', os'[j]? = some (MO.row e W n') ∧ n ≤ n')
  | [], l, h => by simp only [moOk] at h; have := Nat.le_of_ble_eq_true h; exact ⟨by simpa using this, by simp, by simp, by simp⟩
  | .box c :: l, [], h => by simp [moOk] at h
  | .box c :: l, .row _ _ _ :: l', h => by simp [moOk] at h
  | .row _ _ _ :: l, [], h => by simp [moOk] at h
  | .row _ _ _ :: l, .box _ :: l', h => by simp [moOk] at h
  | .box c :: l, .box c' :: l', h => by
    simp only [moOk] at h
    obtain ⟨a1, a2, a3, a4⟩ := moOk_spec h
    refine ⟨by simp; omega, by simp; omega, fun j cs hj => ?_, fun j e W n hj => ?_⟩
    · cases j with
      | zero => exact ⟨c', rfl⟩
      | succ j => simpa using a3 j cs (by simpa using hj)
    · cases j with
      | zero => simp at hj
      | succ j => simpa using a4 j e W n (by simpa using hj)
  | .row e0 W0 n0 :: l, .row e1 W1 n1 :: l', h => by
    simp only [moOk, Bool.and_eq_true] at h
    obtain ⟨⟨⟨b1, b2⟩, b3⟩, h⟩ := h
    obtain ⟨a1, a2, a3, a4⟩ := moOk_spec h
    obtain rfl := Nat.eq_of_beq_eq_true b1
    obtain rfl := Nat.eq_of_beq_eq_true b2
    have b3 := Nat.le_of_ble_eq_true b3
    refine ⟨by simp; omega, by simp; omega, fun j cs hj => ?_, fun j e W n hj => ?_⟩
    · cases j with
      | zero => simp at hj
      | succ j => simpa using a3 j cs (by simpa using hj)
    · cases j with
      | zero => simp at hj; obtain ⟨rfl, rfl, rfl⟩ := hj; exact ⟨n1, rfl, b3⟩
      | succ j => simpa using a4 j e W n (by simpa using hj)
end
end Go.Sh
