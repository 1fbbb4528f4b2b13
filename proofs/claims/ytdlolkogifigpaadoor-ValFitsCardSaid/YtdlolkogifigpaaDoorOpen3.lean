/- The arguments of chapter 3's laws, opened: raw numbers of values; a contract of Sh as a call. -/
import Derived.Test.YtdlolkogifigpaaDoorWrap
import Derived.Test.YtdlolkogifigpaaDoorSy9
import Derived.Test.YtdlolkogifigpaaDoorSv1
set_option linter.unusedSimpArgs false
set_option linter.unusedVariables false
namespace Go.Proofs.YtdlolkogifigpaaDoor.Op3
open Go.ChangeShapes Go.WideShapes Go.ChangeAt Go.RowKit Go.Lib Go.Mor Go.Deep Go.Joins
open Go.ChangeMaps (open_string shut_string)

theorem list_of {α : Type} {n : Nat} {Q : Nat → α → Prop} (h : ∀ i, i < n → ∃ r, Q i r) : ∃ l : List α, l.length = n ∧ ∀ (i : Nat) r, l[i]? = some r → Q i r := by
  induction n with
  | zero => exact ⟨[], rfl, by simp⟩
  | succ n ih =>
    obtain ⟨l, hl, hq⟩ := ih fun i hi => h i (by omega)
    obtain ⟨r, hr⟩ := h n (by omega)
    refine ⟨l ++ [r], by simp [hl], fun i x hx => ?_⟩
    rw [List.getElem?_append] at hx
    split at hx
    · exact hq i x hx
    · rw [List.getElem?_singleton] at hx
      split at hx
      · injection hx with hx; subst hx
        obtain rfl : i = n := by omega
        exact hr
      · cases hx
section
variable {H : Type} {enc : TypeId × Value → H} {P : Program} {w : World} {base : Nat} {spare : Nat → Bool} {held : Bool}
/-- A slice of structs whose fields have one cell each: cell by cell. -/
theorem open_fields {t e : TypeId} {fs : Array Field} {fuel : Nat} {cs : List Value} {x : DataW H × List MemPlace} (ht : P.underlying t = some (.slice e)) (he : P.underlying e = some (.struct fs))
    (hone : oneCellFields P fs = true) (hC : P.cellsOf e = fs.size) (h : DataW.trod enc P w base spare held fuel t cs = some x) :
    (cs = [.slice none 0 0]) ∨
    ∃ (a : Addr) (len cap : Nat), cs = [.slice (some a) len cap] ∧ len ≤ cap ∧ cap ≤ maxLen ∧
      ∀ i, i < len → ∃ n, ∀ (j : Nat) (f : Field), fs[j]? = some f → ∃ (v : Value) (y : DataW H × List MemPlace), w.cell? (a.add (i * fs.size + j)) = some v ∧ DataW.trod enc P w base spare held n f.type [v] = some y := by
  rcases open_slice ht h with h0 | ⟨a, len, cap, m, n, D, Pl, hcs, hb, hl, hm, hmm, hx, hi⟩
  · exact .inl h0.1
  · refine .inr ⟨a, len, cap, hcs, hl, hm, fun i him => ?_⟩
    obtain ⟨cs', hc, ht'⟩ := hi i (by rw [hmm]; split <;> omega)
    rw [hC] at hc
    obtain ⟨ys, n', hn', hy, hlen, hyl, hf⟩ := DataW.trod_struct he ht'
    obtain ⟨_, hcl, hat⟩ := World.cells?_some hc
    refine ⟨n', fun j f hj => ?_⟩
    obtain ⟨ho, hk⟩ := hone_of hone j f hj
    have hjl : j < fs.size := (Array.getElem?_eq_some_iff.1 hj).1
    have hcell := hat j hjl
    have hv : cs'[j]? = some (cs'[j]'(by omega)) := List.getElem?_eq_getElem (by omega)
    have h1 := hf j f hj
    rw [ho, hk] at h1
    have hone' : (cs'.drop j).take 1 = [cs'[j]'(by omega)] := by
      rw [List.drop_eq_getElem_cons (by omega)]
      rfl
    rw [hone'] at h1
    have hys : ys[j]? = some (ys[j]'(by omega)) := List.getElem?_eq_getElem (by omega)
    refine ⟨_, _, ?_, h1.trans hys⟩
    rw [← Go.Deep.add_add, hcell, hv]
end
theorem add_form {a : Addr} {w : World} {k : Nat} {v : Value} (h0 : w.cell? a = some v) : a = ⟨a.block, a.off, none⟩ ∧ a.add k = ⟨a.block, a.off + k, none⟩ := by
  have := World.cell?_spot h0
  obtain ⟨b, off, spot⟩ := a
  simp at this
  subst this
  exact ⟨rfl, Go.WideShapes.add_plain ..⟩
theorem str_len {s : ByteArray} (h : s.size ≤ maxLen) : s.data.toList.length ≤ 9223372036854775807 := by
  have : s.data.toList.length = s.size := Array.length_toList
  unfold maxLen at h; omega
theorem str_data (s : ByteArray) : s = str s.data.toList := (str_of s).symm
end Go.Proofs.YtdlolkogifigpaaDoor.Op3
namespace Go.Proofs.YtdlolkogifigpaaDoor
open Go.ChangeShapes Go.WideShapes Go.ChangeAt Go.RowKit Go.Lib Go.Mor Go.Deep Go.Joins
open Go.Sh (RelT RelV TV PV SCalls Env MSim objB objR objX Low)
open Go.ChangeMaps (open_string shut_string)
open Go.Proofs.YtdlolkogifigpaaDoor.Op3

def envAll (w : World) : Env := ⟨fun k _ => k < w.heap.size, fun _ => 0, fun _ => none, fun _ => 0⟩
theorem objB_nil (d : Nat) : objB [] d = none := by simp [objB]
theorem objR_nil (d : Nat) : objR [] d = none := by simp [objR]
theorem globN {w : World} {a0 a1 : Addr} (h : Glob w a0 a1) : GlobN a0 a1 w.heap.size w := by
  obtain ⟨c0, t0, h0⟩ := h.b0
  obtain ⟨c1, t1, h1⟩ := h.b1
  refine ⟨h, Nat.le_refl _, heap_lt h0, heap_lt h1, ?_⟩
  have b0 := cell_lt h.e0
  have b1 := cell_lt h.e1
  have b2 := cell_lt (h.tabs.1 0 (by decide))
  have b3 := cell_lt (h.tabs.2 0 (by decide)).1
  simp only at b0 b1 b2 b3
  omega
theorem calls_of_sc {P : Program} {f : Nat} {xs : List TV} {vs : List Value} {w : World} {a0 a1 : Addr} {b : Value} (h : SCalls P (gl a0 a1 w.heap.size) f xs [] (.pv (.v b)) []) (hG : Glob w a0 a1) (hl : xs.length = vs.length)
    (hr : ∀ (j : Nat) x v, xs[j]? = some x → vs[j]? = some v → RelT w (envAll w) (objR []) x v) : Calls P f vs.toArray w fun e w' => e = .returned b ∧ Below w.heap.size w w' := by
  have hX : ∀ d k, ¬ objX (envAll w) [] d k := by
    rintro d k (⟨cs, h1, _⟩ | ⟨q, cap, h1, _⟩)
    · rw [objB_nil] at h1; cases h1
    · rw [objR_nil] at h1; cases h1
  refine (h.2 w (envAll w) vs (globN hG) ?_ (fun d k hd => absurd hd (hX d k)) hl hr).mono ?_
  · refine ⟨fun d cs hd => ?_, fun d e W n hd => ?_, fun d d' cs cs' hd => ?_, fun d d' cs q k cap hd => ?_, fun d d' q q' k cap cap' hd => ?_, fun k o hk => hk, ⟨rfl, rfl, rfl, Nat.le_refl _, fun _ _ _ => rfl⟩, fun k o u hk hu => ⟨hk, hu⟩, fun k o hk => .inl hk, ?_⟩
    · rw [objB_nil] at hd; cases hd
    · rw [objR_nil] at hd; cases hd
    · rw [objB_nil] at hd; cases hd
    · rw [objB_nil] at hd; cases hd
    · rw [objR_nil] at hd; cases hd
    · have hold : ∀ d, ¬ (Go.Sh.start w (envAll w) [] 0).old d := fun d h => by have h1 : 1000 ≤ d ∧ d < 1000 + 0 := h; omega
      constructor <;> (intros; first | (exfalso; apply hold; assumption) | rfl)
  · rintro e w' ⟨v, E', rfl, hm, hv, _⟩
    obtain rfl := Go.Sh.val_rel (y := b) hv rfl
    exact ⟨rfl, hm.low.os, hm.low.tape, hm.low.output, hm.low.size, fun k hk => hm.low.block k hk (fun d => hX d k)⟩
section
variable {H : Type} {enc : TypeId × Value → H}
theorem relV_v {w : World} {K : Nat → Nat → Prop} (x : Value) : RelV w K (.v x) x := .v x
theorem open_ones {W : World} {base : Nat} {spare : Nat → Bool} {held : Bool} {fuel : Nat} {c : Value} {y : DataW H × List MemPlace} (h : DataW.trod enc Tryd.prog W base spare held fuel 60 [c] = some y) :
    ∃ l : List R1, (∀ r ∈ l, r.ok) ∧ l.length ≤ 9223372036854775807 ∧ RelV W (envAll W).K (.sl 3 (l.map R1.row)) c := by
  rcases open_fields Tryd.underlying60 Tryd.underlying100 (by kernel_rfl) (by kernel_rfl) h with h0 | ⟨a, len, cap, hcs, hl, hm, hi⟩
  · obtain rfl : c = .slice none 0 0 := by simpa using h0
    exact ⟨[], by simp, by simp, .sl 3 [] 0 0 0 none (fun _ _ => undef) (by simp) (by simp) (by simp) (by simp) (by simp) (by simp)⟩
  · obtain rfl : c = .slice (some a) len cap := by simpa using hcs
    have key : ∀ i, i < len → ∃ r : R1, r.ok ∧ a = ⟨a.block, a.off, none⟩ ∧ W.cell? ⟨a.block, a.off + i * 3, none⟩ = some (.int .i64 r.k) ∧ W.cell? ⟨a.block, a.off + i * 3 + 1, none⟩ = some (.int .i64 r.n) ∧ W.cell? ⟨a.block, a.off + i * 3 + 2, none⟩ = some (.string (str r.s)) := by
      intro i hlt
      obtain ⟨n0, hf0⟩ := hi 0 (by omega)
      obtain ⟨v, y, hc0, _⟩ := hf0 0 _ rfl
      have ha : a = ⟨a.block, a.off, none⟩ := (add_form (k := 0) (by simpa [Addr.add] using hc0)).1
      have hadd : ∀ k, a.add k = ⟨a.block, a.off + k, none⟩ := fun k => (add_form (k := k) (by simpa [Addr.add] using hc0)).2
      obtain ⟨n, hf⟩ := hi i hlt
      obtain ⟨v0, y0, c0, t0⟩ := hf 0 _ rfl
      obtain ⟨v1, y1, c1, t1⟩ := hf 1 _ rfl
      obtain ⟨v2, y2, c2, t2⟩ := hf 2 _ rfl
      obtain ⟨z0, e0, _, w0⟩ := DataW.trod_int Tryd.underlying3 t0
      obtain ⟨z1, e1, _, w1⟩ := DataW.trod_int Tryd.underlying3 t1
      obtain ⟨z2, e2, _, w2⟩ := DataW.trod_string Tryd.underlying9 t2
      simp at e0 e1 e2
      subst e0 e1 e2
      rw [hadd] at c0 c1 c2
      refine ⟨⟨z0, z1, z2.data.toList⟩, ⟨bounds_i64 w0, bounds_i64 w1, ?_⟩, ha, c0, c1, ?_⟩
      · exact str_len w2
      · rw [str_of]; exact c2
    obtain ⟨l, hlen, hq⟩ := list_of key
    refine ⟨l, fun r hr => ?_, by unfold maxLen at hm; omega, ?_⟩
    · obtain ⟨i, hi⟩ := List.getElem?_of_mem hr
      exact (hq i r hi).1
    · have hL : (l.map R1.row).length = len := by simp [hlen]
      rw [← hL]
      have cell : ∀ (i j : Nat) cs q, (l.map R1.row)[i]? = some cs → cs[j]? = some q → ∃ u, q = .v u ∧ W.cell? ⟨a.block, a.off + i * 3 + j, none⟩ = some u ∧ Go.Sh.one u := by
        intro i j cs q h1 h2
        rw [List.getElem?_map, Option.map_eq_some_iff] at h1
        obtain ⟨r, hr, rfl⟩ := h1
        obtain ⟨_, _, c0, c1, c2⟩ := hq i r hr
        match j with
        | 0 => simp [R1.row] at h2; subst h2; exact ⟨_, rfl, c0, rfl⟩
        | 1 => simp [R1.row] at h2; subst h2; exact ⟨_, rfl, c1, rfl⟩
        | 2 => simp [R1.row] at h2; subst h2; exact ⟨_, rfl, c2, rfl⟩
        | j + 3 => simp [R1.row] at h2
      refine .sl 3 (l.map R1.row) a.block a.off cap (some a) (fun i j => (W.cell? ⟨a.block, a.off + i * 3 + j, none⟩).getD undef) (fun hne => ?_) (by omega) hm (fun cs hcs => ?_) (fun i j cs q h1 h2 => ?_) (fun i j cs q h1 h2 => ?_)
      · obtain ⟨r, hr⟩ : ∃ r, l[0]? = some r := by
          cases l with
          | nil => exact absurd rfl hne
          | cons r q => exact ⟨r, rfl⟩
        rw [(hq 0 r hr).2.1]
      · obtain ⟨r, _, rfl⟩ := List.mem_map.1 hcs; rfl
      · obtain ⟨u, _, hu, ho⟩ := cell i j cs q h1 h2
        rw [hu]; exact ⟨cell_lt (a := ⟨a.block, a.off + i * 3 + j, none⟩) hu, rfl, ho⟩
      · obtain ⟨u, rfl, hu, ho⟩ := cell i j cs q h1 h2
        rw [hu]; exact .v u
set_option maxRecDepth 100000 in
theorem open_raw3 {W : World} {b0 base : Nat} {spare : Nat → Bool} {held : Bool} {v : Value} {d : DataW H} {p : List MemPlace} (hok : Value.okWide Tryd.prog W .any b0 62 v) (h : DataW.Trod enc Tryd.prog W base spare held 62 v d p) :
    ∃ x : RawV, x.ok ∧ ∀ r, RelT W (envAll W) r x.tv v := by
  obtain ⟨c0, c1, c2, c3, y0, y1, y2, y3, m, rfl, _, _, hy0, hy1, hy2, hy3⟩ := open_agg4 Tryd.underlying62 (by kernel_rfl) (by kernel_rfl) hok h
  obtain ⟨z0, e0, _, w0⟩ := DataW.trod_int Tryd.underlying3 hy0
  obtain ⟨z1, e1, _, w1⟩ := DataW.trod_int Tryd.underlying3 hy1
  obtain ⟨z2, e2, _, w2⟩ := DataW.trod_string Tryd.underlying9 hy2
  simp at e0 e1 e2
  subst e0 e1 e2
  obtain ⟨l, hl, hlen, hr⟩ := open_ones hy3
  refine ⟨⟨z0, z1, z2.data.toList, l⟩, ⟨bounds_i64 w0, bounds_i64 w1, ?_, hl, hlen⟩, fun r => ?_⟩
  · exact str_len w2
  · unfold RawV.tv
    refine .agg _ [_, _, _, c3] rfl (fun j q u hq hu => ?_) (fun u hu => ?_)
    · match j with
      | 0 => simp at hq hu; subst hq; subst hu; exact .pv (.v _)
      | 1 => simp at hq hu; subst hq; subst hu; exact .pv (.v _)
      | 2 => simp at hq hu; subst hq; subst hu; rw [str_of]; exact .pv (.v _)
      | 3 => simp at hq hu; subst hq; subst hu; exact .pv hr
      | j + 4 => simp at hq
    · simp at hu
      rcases hu with rfl | rfl | rfl | rfl
      · rfl
      · rfl
      · rfl
      · cases hr; rfl
end
end Go.Proofs.YtdlolkogifigpaaDoor
