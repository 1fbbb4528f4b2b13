/- Slices of fields that a call owns. -/
import Derived.Laws.AppendOwnNone
import Derived.Test.YtdlolkogifigpaaDoorClass7
namespace Go.Proofs.YtdlolkogifigpaaDoor
open Go Go.RowKit Go.Mor
set_option maxHeartbeats 1000000

def cellsF (f : Fld) : List Value := [.string (str f.n), .int .i64 f.t.k, .int .i64 f.t.o, .bool f.ix]
theorem infoFld : (Tryd.prog.info? 53).map (fun i => (i.zero, i.size, i.bytes)) = some (some (.agg #[.string ⟨#[]⟩, .int .i64 0, .int .i64 0, .bool false]), 4, 40) := by kernel_rfl
/-- The slice v is the call's own (or nil) and holds the fields l. -/
def OwnF (base : Nat) (w : World) (v : Value) (l : List Fld) : Prop := w.ownsRow base 53 4 v l.length (l.flatMap cellsF)
theorem OwnF.nil (base : Nat) (w : World) : OwnF base w (.slice none 0 0) [] := ⟨rfl, .inl ⟨rfl, rfl⟩⟩
theorem OwnF.below {base : Nat} {w : World} {v : Value} {l : List Fld} (h : OwnF base w v l) : ∀ k, v.ownBlock = some k → base ≤ k := by
  rcases h.2 with ⟨rfl, _⟩ | ⟨g, cap, cur, rfl, hg, _⟩
  · intro k hk; cases hk
  · intro k hk; cases hk; exact hg
theorem OwnF.ext {base : Nat} {w w' : World} {v : Value} {l : List Fld} (h : OwnF base w v l) (hb : Below w.heap.size w w') : OwnF base w' v l := by
  refine ⟨h.1, ?_⟩
  rcases h.2 with h | ⟨g, cap, cur, h1, h2, h3, h4⟩
  · exact .inl h
  · exact .inr ⟨g, cap, cur, h1, h2, (hb.block g (heap_lt h3)).trans h3, h4⟩
theorem OwnF.grown {base : Nat} {w w' : World} {v : Value} {l : List Fld} {row : Option Nat} (h : OwnF base w v l) (hg : w.grownBy w' row) (hr : ∀ k, row = some k → v.ownBlock ≠ some k) : OwnF base w' v l := by
  refine ⟨h.1, ?_⟩
  rcases h.2 with h | ⟨g, cap, cur, rfl, h2, h3, h4⟩
  · exact .inl h
  · exact .inr ⟨g, cap, cur, rfl, h2, (hg.block g (heap_lt h3) (fun e => hr g e.symm rfl)).trans h3, h4⟩
theorem OwnF.form {base : Nat} {w : World} {v : Value} {l : List Fld} (h : OwnF base w v l) : ∃ p cap, v = .slice p l.length cap := by
  rcases h.2 with ⟨rfl, h0⟩ | ⟨g, cap, cur, h1, h2⟩
  · exact ⟨none, 0, by rw [h0]⟩
  · exact ⟨_, cap, h1⟩
theorem OwnF.ne {base : Nat} {w : World} {v : Value} {l : List Fld} (h : OwnF base w v l) {B t : Nat} {cs : Array Value} (hq : w.heap[B]? = some (.cells cs t (0, 0))) (ht : t ≠ 53) : some B ≠ v.ownBlock := by
  rcases h.2 with ⟨rfl, _⟩ | ⟨g, cap, cur, rfl, hg, hc, _⟩
  · intro k; cases k
  · intro k; cases k; rw [hq] at hc; cases hc; exact ht rfl
theorem OwnF.keep {base : Nat} {w w' : World} {v : Value} {l : List Fld} (h : OwnF base w v l) (hg : w.grownBy w' v.ownBlock) {B t : Nat} {cs : Array Value} (hq : w.heap[B]? = some (.cells cs t (0, 0))) (ht : t ≠ 53) : w'.heap[B]? = some (.cells cs t (0, 0)) :=
  (hg.block B (heap_lt hq) (h.ne hq ht)).trans hq
theorem flatF_length (l : List Fld) : (l.flatMap cellsF).length = l.length * 4 := by
  induction l with
  | nil => rfl
  | cons f r ih => simp [List.flatMap_cons, cellsF] at *; omega
theorem flatF_get (l : List Fld) (i : Nat) (f : Fld) (h : l[i]? = some f) (j : Nat) (hj : j < 4) : (l.flatMap cellsF)[i * 4 + j]? = (cellsF f)[j]? := by
  induction l generalizing i with
  | nil => simp at h
  | cons g r ih =>
    rw [List.flatMap_cons]
    cases i with
    | zero =>
      simp at h; subst h
      rw [List.getElem?_append_left (by simp [cellsF]; omega)]
      simp
    | succ i =>
      rw [List.getElem?_append_right (by simp [cellsF]; omega)]
      have : (i + 1) * 4 + j - (cellsF g).length = i * 4 + j := by simp [cellsF]; omega
      rw [this]
      exact ih i (by simpa using h)
/-- What is owned can be read. -/
theorem OwnF.isF {base : Nat} {w : World} {v : Value} {l : List Fld} (h : OwnF base w v l) : IsF (base ≤ ·) w l v := by
  rcases h.2 with ⟨rfl, h0⟩ | ⟨g, cap, cur, rfl, hg, hc, hcap, hmax, hsz, htake⟩
  · obtain rfl : l = [] := List.eq_nil_of_length_eq_zero h0
    exact IsF.none_
  · refine ⟨g, 0, cap, _, rfl, hcap, hmax, fun _ => ⟨rfl, hg⟩, fun i f hf => ?_⟩
    have hi : i < l.length := (List.getElem?_eq_some_iff.1 hf).1
    have key : ∀ j, j < 4 → w.cell? ⟨g, 0 + i * 4 + j, none⟩ = (cellsF f)[j]? := by
      intro j hj
      rw [← flatF_get l i f hf j hj, ← htake, List.getElem?_take_of_lt (by omega)]
      simp [World.cell?, hc]
    exact ⟨key 0 (by omega), key 1 (by omega), key 2 (by omega), key 3 (by omega)⟩
/-- The operation append(v, l...) on fields. -/
theorem wpList_appFs {ops : Array Oper} {rest : List Oper} {o : Oper} {a : Act} {Q : Exit → Act → World → Prop} {w : World} (hgd : o.guard = none) (sl x : Operand)
    (ho : o.op = .call { callee := .builtin .append, args := #[sl, x], argTypes := #[25, 25] })
    {base : Nat} {v c : Value} {l m : List Fld} (hown : OwnF base w v l) (hm : IsF (fun _ => True) w m c) (hn : c.ownBlock = none → c = .slice none 0 0) (hs : a.eval sl = v) (hx : a.eval x = c) (hlen : l.length + m.length ≤ 1000000) (hb : base ≤ w.heap.size)
    (h : ∀ v' w', OwnF base w' v' (l ++ m) → w.grownBy w' v.ownBlock → wpList Tryd.prog ops Q rest (a.put o.dst v') w') : wpList Tryd.prog ops Q (o :: rest) a w := by
  obtain ⟨i0, hi, hz0, hz1, hz2⟩ := info_parts infoFld
  obtain ⟨b, off, cap, p, rfl, hcap, hmax, hp, hc⟩ := hm
  cases p with
  | none =>
    obtain rfl : m = [] := by
      cases m with
      | nil => rfl
      | cons f r => exact absurd (hp (by simp)).1 (by simp)
    refine wpList_append_own_none hgd sl x 25 ho base 53 i0 4 Tryd.underlying25 hi v l.length _ hs hown (hx.trans (hn rfl)) ?_
    refine h v w ?_ ⟨rfl, rfl, rfl, Nat.le_refl _, fun _ _ _ => rfl⟩
    rw [List.append_nil]
    exact hown
  | some ad =>
    refine wpList_append_own w hgd sl x 25 ho base 53 i0 _ 4 40 Tryd.underlying25 hi hz0 hz1 hz2 rfl (by decide) v l.length _ hs hown ad m.length cap (m.flatMap cellsF) hx (flatF_length m) ?_ ?_ (by unfold maxLen; omega) (by omega) hb ?_
    · intro j u hj
      have hj' : j < m.length * 4 := by rw [← flatF_length]; exact (List.getElem?_eq_some_iff.1 hj).1
      obtain ⟨f, hf⟩ : ∃ f, m[j / 4]? = some f := ⟨_, List.getElem?_eq_getElem (by omega)⟩
      obtain ⟨hpe, _⟩ := hp (by rintro rfl; simp at hf)
      obtain rfl : ad = ⟨b, off, none⟩ := by simpa using hpe
      obtain ⟨q0, q1, q2, q3⟩ := hc _ f hf
      have hg := flatF_get m (j / 4) f hf (j % 4) (Nat.mod_lt _ (by omega))
      rw [show j / 4 * 4 + j % 4 = j by omega, hj] at hg
      have hr : j % 4 = 0 ∨ j % 4 = 1 ∨ j % 4 = 2 ∨ j % 4 = 3 := by omega
      have ha : (⟨b, off, none⟩ : Addr).add j = ⟨b, off + j / 4 * 4 + j % 4, none⟩ := by rw [Addr.add_lit, show off + j = off + j / 4 * 4 + j % 4 by omega]
      rw [ha]
      rcases hr with hr | hr | hr | hr <;> rw [hr] at hg ⊢ <;> simp [cellsF] at hg <;> subst hg <;> assumption
    · intro u hu
      obtain ⟨f, _, hu⟩ := List.mem_flatMap.1 hu
      simp [cellsF] at hu
      rcases hu with rfl | rfl | rfl | rfl <;> rfl
    · intro v' w' h1 h2 _
      refine h v' w' ?_ h2
      unfold OwnF
      simpa using h1
theorem OwnF.set {base : Nat} {w : World} {v u : Value} {l : List Fld} {C i : Nat} (h : OwnF base w v l) (hn : some C ≠ v.ownBlock) : OwnF base (w.setCell ⟨C, i, none⟩ u) v l := by
  refine ⟨h.1, ?_⟩
  rcases h.2 with h | ⟨g, cap, cur, rfl, h2, h3, h4⟩
  · exact .inl h
  · exact .inr ⟨g, cap, cur, rfl, h2, (heap_setCell_other _ _ _ _ (fun e => hn (congrArg some e.symm))).trans h3, h4⟩
theorem OwnF.nilness {base : Nat} {w : World} {v : Value} {l : List Fld} (h : OwnF base w v l) : v.ownBlock = none → v = .slice none 0 0 := by
  rcases h.2 with ⟨rfl, _⟩ | ⟨g, cap, cur, rfl, hg, _⟩
  · intro _; rfl
  · intro k; cases k
theorem OwnF.formL {base : Nat} {w : World} {v : Value} {l : List Fld} (h : OwnF base w v l) : ∃ L p cap, v = .slice p L.length cap ∧ Hid (L = l) ∧ Hid (OwnF base w (.slice p L.length cap) L) := by
  obtain ⟨p, cap, rfl⟩ := h.form
  exact ⟨l, p, cap, rfl, rfl, h⟩
/-- One field that lies in a block of its own. -/
theorem isF_one {w : World} {b : Nat} (f : Fld) (h : w.heap[b]? = some (.cells #[.string (str f.n), .int .i64 f.t.k, .int .i64 f.t.o, .bool f.ix] 53 (0, 0))) : IsF (fun _ => True) w [f] (.slice (some ⟨b, 0, none⟩) 1 1) := by
  refine ⟨b, 0, 1, _, rfl, by simp, by decide, fun _ => ⟨rfl, trivial⟩, fun i g hg => ?_⟩
  cases i with
  | zero =>
    simp at hg; subst hg
    exact blk4 h
  | succ i => simp at hg
end Go.Proofs.YtdlolkogifigpaaDoor
