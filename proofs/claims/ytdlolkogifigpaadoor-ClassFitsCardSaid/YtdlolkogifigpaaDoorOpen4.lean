/- The arguments of chapter 4's laws, opened: raw numbers of a class. -/
import Derived.Test.YtdlolkogifigpaaDoorWrap
import Derived.Test.YtdlolkogifigpaaDoorLaw4d
namespace Go.Proofs.YtdlolkogifigpaaDoor
open Go.ChangeShapes Go.WideShapes Go.ChangeAt Go.RowKit Go.Lib Go.Mor Go.Deep Go.Joins
open Go.ChangeMaps (open_string shut_string)

theorem list_of {α : Type} {n : Nat} {Q : Nat → α → Prop} (h : ∀ i, i < n → ∃ r, Q i r) : ∃ l : List α, l.length = n ∧ ∀ (i : Nat) r, l[i]? = some r → Q i r := by
  induction n with
  | zero => exact ⟨[], rfl, by simp⟩
  | succ n ih =>
    obtain ⟨l, hl, hq⟩ := ih fun i hi => h i (by omega)
    obtain ⟨r, hr⟩ := h n (by omega)
    refine ⟨l ++ [r], by simp [hl], fun i x hx => ?_⟩
    rw [List.getElem?_append] at hx
    split at hx
    · exact hq i x hx
    · rw [List.getElem?_singleton] at hx
      split at hx
      · injection hx with hx; subst hx
        obtain rfl : i = n := by omega
        exact hr
      · cases hx
section
variable {H : Type} {enc : TypeId × Value → H} {P : Program} {w : World} {base : Nat} {spare : Nat → Bool} {held : Bool}
/-- A slice of structs whose fields have one cell each: cell by cell. -/
theorem open_fields {t e : TypeId} {fs : Array Field} {fuel : Nat} {cs : List Value} {x : DataW H × List MemPlace} (ht : P.underlying t = some (.slice e)) (he : P.underlying e = some (.struct fs))
    (hone : oneCellFields P fs = true) (hC : P.cellsOf e = fs.size) (h : DataW.trod enc P w base spare held fuel t cs = some x) :
    (cs = [.slice none 0 0]) ∨
    ∃ (a : Addr) (len cap : Nat), cs = [.slice (some a) len cap] ∧ len ≤ cap ∧ cap ≤ maxLen ∧
      ∀ i, i < len → ∃ n, ∀ (j : Nat) (f : Field), fs[j]? = some f → ∃ (v : Value) (y : DataW H × List MemPlace), w.cell? (a.add (i * fs.size + j)) = some v ∧ DataW.trod enc P w base spare held n f.type [v] = some y := by
  rcases open_slice ht h with h0 | ⟨a, len, cap, m, n, D, Pl, hcs, hb, hl, hm, hmm, hx, hi⟩
  · exact .inl h0.1
  · refine .inr ⟨a, len, cap, hcs, hl, hm, fun i him => ?_⟩
    obtain ⟨cs', hc, ht'⟩ := hi i (by rw [hmm]; split <;> omega)
    rw [hC] at hc
    obtain ⟨ys, n', hn', hy, hlen, hyl, hf⟩ := DataW.trod_struct he ht'
    obtain ⟨_, hcl, hat⟩ := World.cells?_some hc
    refine ⟨n', fun j f hj => ?_⟩
    obtain ⟨ho, hk⟩ := hone_of hone j f hj
    have hjl : j < fs.size := (Array.getElem?_eq_some_iff.1 hj).1
    have hcell := hat j hjl
    have hv : cs'[j]? = some (cs'[j]'(by omega)) := List.getElem?_eq_getElem (by omega)
    have h1 := hf j f hj
    rw [ho, hk] at h1
    have hone' : (cs'.drop j).take 1 = [cs'[j]'(by omega)] := by
      rw [List.drop_eq_getElem_cons (by omega)]
      rfl
    rw [hone'] at h1
    have hys : ys[j]? = some (ys[j]'(by omega)) := List.getElem?_eq_getElem (by omega)
    refine ⟨_, _, ?_, h1.trans hys⟩
    rw [← Go.Deep.add_add, hcell, hv]
end
theorem add_form {a : Addr} {w : World} {k : Nat} {v : Value} (h0 : w.cell? a = some v) : a = ⟨a.block, a.off, none⟩ ∧ a.add k = ⟨a.block, a.off + k, none⟩ := by
  have := World.cell?_spot h0
  obtain ⟨b, off, spot⟩ := a
  simp at this
  subst this
  exact ⟨rfl, Go.WideShapes.add_plain ..⟩
theorem str_len {s : ByteArray} (h : s.size ≤ maxLen) : s.data.toList.length ≤ 9223372036854775807 := by
  have : s.data.toList.length = s.size := Array.length_toList
  unfold maxLen at h; omega
theorem str_data (s : ByteArray) : s = str s.data.toList := (str_of s).symm
section
variable {H : Type} {enc : TypeId × Value → H}
theorem open_rawFs {W : World} {base : Nat} {spare : Nat → Bool} {held : Bool} {fuel : Nat} {c : Value} {y : DataW H × List MemPlace} (h : DataW.trod enc Tryd.prog W base spare held fuel 22 [c] = some y) : ∃ l, IsRaw W l c := by
  rcases open_fields Tryd.underlying22 Tryd.underlying83 (by kernel_rfl) (by kernel_rfl) h with h0 | ⟨a, len, cap, hcs, hl, hm, hi⟩
  · obtain rfl : c = .slice none 0 0 := by simpa using h0
    exact ⟨[], 0, 0, 0, none, rfl, by simp, Nat.zero_le _, by simp, by simp⟩
  · obtain rfl : c = .slice (some a) len cap := by simpa using hcs
    have key : ∀ i, i < len → ∃ r : RawF, rawOk r ∧ a = ⟨a.block, a.off, none⟩ ∧ W.cell? ⟨a.block, a.off + i * 4, none⟩ = some (.int .i64 r.n) ∧ W.cell? ⟨a.block, a.off + i * 4 + 1, none⟩ = some (.int .i64 r.k)
        ∧ W.cell? ⟨a.block, a.off + i * 4 + 2, none⟩ = some (.int .i64 r.o) ∧ W.cell? ⟨a.block, a.off + i * 4 + 3, none⟩ = some (.bool r.ix) := by
      intro i hlt
      obtain ⟨n0, hf0⟩ := hi 0 (by omega)
      obtain ⟨v, y, hc0, _⟩ := hf0 0 _ rfl
      have ha : a = ⟨a.block, a.off, none⟩ := (add_form (k := 0) (by simpa [Addr.add] using hc0)).1
      have hadd : ∀ k, a.add k = ⟨a.block, a.off + k, none⟩ := fun k => (add_form (k := k) (by simpa [Addr.add] using hc0)).2
      obtain ⟨n, hf⟩ := hi i hlt
      obtain ⟨v0, y0, c0, t0⟩ := hf 0 _ rfl
      obtain ⟨v1, y1, c1, t1⟩ := hf 1 _ rfl
      obtain ⟨v2, y2, c2, t2⟩ := hf 2 _ rfl
      obtain ⟨v3, y3, c3, t3⟩ := hf 3 _ rfl
      obtain ⟨z0, e0, _, w0⟩ := DataW.trod_int Tryd.underlying3 t0
      obtain ⟨z1, e1, _, w1⟩ := DataW.trod_int Tryd.underlying3 t1
      obtain ⟨z2, e2, _, w2⟩ := DataW.trod_int Tryd.underlying3 t2
      obtain ⟨z3, e3, _⟩ := DataW.trod_bool Tryd.underlying4 t3
      simp at e0 e1 e2 e3
      subst e0 e1 e2 e3
      rw [hadd] at c0 c1 c2 c3
      have b0 := bounds_i64 w0
      have b1 := bounds_i64 w1
      have b2 := bounds_i64 w2
      exact ⟨⟨z0, z1, z2, z3⟩, ⟨b0.1, b0.2, b1.1, b1.2, b2.1, b2.2⟩, ha, c0, c1, c2, c3⟩
    obtain ⟨l, hlen, hq⟩ := list_of key
    refine ⟨l, a.block, a.off, cap, some a, by rw [hlen], by omega, hm, fun hne => ?_, fun i f hf => ?_⟩
    · obtain ⟨r, hr⟩ : ∃ r, l[0]? = some r := by
        cases l with
        | nil => exact absurd rfl hne
        | cons r q => exact ⟨r, rfl⟩
      rw [(hq 0 r hr).2.1]
    · have := hq i f hf
      exact ⟨this.1, this.2.2⟩
set_option maxRecDepth 100000 in
theorem open_raw {W : World} {b0 base : Nat} {spare : Nat → Bool} {held : Bool} {v : Value} {d : DataW H} {p : List MemPlace} (hok : Value.okWide Tryd.prog W .any b0 24 v) (h : DataW.Trod enc Tryd.prog W base spare held 24 v d p) :
    ∃ (x : Raw) (c : Value), v = .agg #[.int .i64 x.n, c] ∧ (-9223372036854775808 ≤ x.n ∧ x.n ≤ 9223372036854775807) ∧ IsRaw W x.fs c := by
  obtain ⟨c0, c1, y0, y1, m, rfl, _, _, hy0, hy1⟩ := open_agg2 Tryd.underlying24 (by kernel_rfl) (by kernel_rfl) hok h
  obtain ⟨z0, e0, _, w0⟩ := DataW.trod_int Tryd.underlying3 hy0
  obtain rfl : c0 = _ := by simpa using e0
  obtain ⟨l, hl⟩ := open_rawFs hy1
  exact ⟨⟨z0, l⟩, c1, rfl, bounds_i64 w0, hl⟩
end
end Go.Proofs.YtdlolkogifigpaaDoor
