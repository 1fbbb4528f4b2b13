/- Slices of records, whatever the record: how they read; those that a call owns; append onto them. -/
import Derived.Laws.AppendOwnNone
import Derived.Deep.AppendLies
import Derived.Test.YtdlolkogifigpaaDoorWire3
namespace Go.Proofs.YtdlolkogifigpaaDoor
open Go Go.RowKit Go.Mor
set_option maxHeartbeats 1000000

/-- A type of records: its number, its slices' number, its cells. -/
structure RowT (α : Type) where
  e : TypeId
  t : TypeId
  size : Nat
  bytes : Nat
  zero : Value
  cells : α → List Value
  len : ∀ x, (cells x).length = size
  one : ∀ x u, u ∈ cells x → u.oneCell' = true
  pos : 0 < size
  few : bytes ≤ 1000
  und : Tryd.prog.underlying t = some (.slice e)
  info : (Tryd.prog.info? e).map (fun i => (i.zero, i.size, i.bytes)) = some (some zero, size, bytes)
  zlen : zero.cells.size = size
variable {α : Type} (R : RowT α)
/-- The slice value c reads as the records l; its memory lies in a block that is ok. -/
def IsR (ok : Nat → Prop) (w : World) (l : List α) (c : Value) : Prop :=
  ∃ (b off cap : Nat) (p : Option Addr), c = .slice p l.length cap ∧ l.length ≤ cap ∧ cap ≤ maxLen ∧ (l ≠ [] → p = some ⟨b, off, none⟩ ∧ ok b) ∧ (p = none → c = .slice none 0 0) ∧
    ∀ (i : Nat) (x : α), l[i]? = some x → ∀ (j : Nat) (u : Value), (R.cells x)[j]? = some u → w.cell? ⟨b, off + i * R.size + j, none⟩ = some u
/-- The slice v is the call's own (or nil) and holds the records l. -/
def OwnR (base : Nat) (w : World) (v : Value) (l : List α) : Prop := w.ownsRow base R.e R.size v l.length (l.flatMap R.cells)
variable {R}
theorem IsR.keepBy {ok : Nat → Prop} {w w' : World} {l : List α} {c : Value} (h : IsR R ok w l c) (hk : ∀ a v, ok a.block → w.cell? a = some v → w'.cell? a = some v) : IsR R ok w' l c := by
  obtain ⟨b, off, cap, p, h1, h2, h3, h4, h6, h5⟩ := h
  refine ⟨b, off, cap, p, h1, h2, h3, h4, h6, fun i x hx j u hu => ?_⟩
  exact hk _ _ (h4 (by rintro rfl; simp at hx)).2 (h5 i x hx j u hu)
theorem IsR.ext {ok : Nat → Prop} {w w' : World} {l : List α} {c : Value} (h : IsR R ok w l c) (hb : Below w.heap.size w w') : IsR R ok w' l c :=
  h.keepBy fun _ _ _ hv => (hb.cell (cell_lt hv)).trans hv
theorem IsR.weaken {ok ok' : Nat → Prop} {w : World} {l : List α} {c : Value} (h : IsR R ok w l c) (hk : ∀ b, ok b → ok' b) : IsR R ok' w l c := by
  obtain ⟨b, off, cap, p, h1, h2, h3, h4, h5⟩ := h
  exact ⟨b, off, cap, p, h1, h2, h3, fun hl => ⟨(h4 hl).1, hk _ (h4 hl).2⟩, h5⟩
theorem IsR.form {ok : Nat → Prop} {w : World} {l : List α} {c : Value} (h : IsR R ok w l c) : ∃ p cap, c = .slice p l.length cap ∧ l.length ≤ cap ∧ cap ≤ maxLen := by
  obtain ⟨b, off, cap, p, h1, h2, h3, _⟩ := h
  exact ⟨p, cap, h1, h2, h3⟩
theorem IsR.at {ok : Nat → Prop} {w : World} {l : List α} {p : Option Addr} {n cap : Nat} (h : IsR R ok w l (.slice p n cap)) (hl : 0 < l.length) :
    ∃ b off, p = some ⟨b, off, none⟩ ∧ ok b ∧ b < w.heap.size ∧ ∀ (i : Nat) (x : α), l[i]? = some x → ∀ (j : Nat) (u : Value), (R.cells x)[j]? = some u → w.cell? ⟨b, off + i * R.size + j, none⟩ = some u := by
  obtain ⟨b, off, cap', p', h1, h2, h3, h4, h6, h5⟩ := h
  obtain ⟨rfl, _, _⟩ : p = p' ∧ _ := by simpa using h1
  have hne : l ≠ [] := by rintro rfl; simp at hl
  refine ⟨b, off, (h4 hne).1, (h4 hne).2, ?_, h5⟩
  obtain ⟨x, hx⟩ : ∃ x, l[0]? = some x := ⟨_, List.getElem?_eq_getElem hl⟩
  have hpos := R.pos
  obtain ⟨u, hu⟩ : ∃ u, (R.cells x)[0]? = some u := ⟨_, List.getElem?_eq_getElem (by rw [R.len]; exact hpos)⟩
  exact cell_lt (h5 0 x hx 0 u hu)
theorem IsR.cell {ok : Nat → Prop} {w : World} {l : List α} {g o n cap : Nat} (h : IsR R ok w l (.slice (some ⟨g, o, none⟩) n cap)) {i : Nat} {x : α} (hx : l[i]? = some x) {j : Nat} {u : Value} (hu : (R.cells x)[j]? = some u) : w.cell? ⟨g, o + i * R.size + j, none⟩ = some u := by
  obtain ⟨b, off, cap', p', h1, h2, h3, h4, h6, h5⟩ := h
  have hne : l ≠ [] := by rintro rfl; simp at hx
  obtain ⟨hp, _⟩ := h4 hne
  subst hp
  have h1a : (⟨g, o, none⟩ : Addr) = ⟨b, off, none⟩ := by injection h1 with h1; injection h1
  have hgb : g = b := congrArg Addr.block h1a
  have hof : o = off := congrArg Addr.off h1a
  have := h5 i x hx j u hu
  rw [← hgb, ← hof] at this
  exact this
theorem IsR.cell0 {ok : Nat → Prop} {w : World} {l : List α} {g n cap : Nat} (h : IsR R ok w l (.slice (some ⟨g, 0, none⟩) n cap)) {i : Nat} {x : α} (hx : l[i]? = some x) {j : Nat} {u : Value} (hu : (R.cells x)[j]? = some u) : w.cell? ⟨g, i * R.size + j, none⟩ = some u := by
  have := h.cell hx hu
  rwa [Nat.zero_add] at this
theorem IsR.under {ok : Nat → Prop} {w : World} {l : List α} {c : Value} (h : IsR R ok w l c) : IsR R (fun b => ok b ∧ b < w.heap.size) w l c := by
  obtain ⟨b, off, cap, p, h1, h2, h3, h4, h6, h5⟩ := h
  refine ⟨b, off, cap, p, h1, h2, h3, fun hl => ⟨(h4 hl).1, (h4 hl).2, ?_⟩, h6, h5⟩
  obtain ⟨x, hx⟩ : ∃ x, l[0]? = some x := by
    cases l with
    | nil => exact absurd rfl hl
    | cons x r => exact ⟨x, rfl⟩
  have hpos := R.pos
  obtain ⟨u, hu⟩ : ∃ u, (R.cells x)[0]? = some u := ⟨_, List.getElem?_eq_getElem (by rw [R.len]; exact hpos)⟩
  exact cell_lt (h5 0 x hx 0 u hu)
theorem IsR.low {B : Nat} {w w' : World} {l : List α} {c : Value} (h : IsR R (fun b => b < B) w l c) (hb : Below B w w') : IsR R (fun b => b < B) w' l c :=
  h.keepBy fun _ _ ho hv => (hb.cell ho).trans hv
theorem IsR.none_ {ok : Nat → Prop} {w : World} : IsR R ok w [] (.slice none 0 0) := ⟨0, 0, 0, none, rfl, by simp, Nat.zero_le _, by simp, fun _ => rfl, by simp⟩

theorem OwnR.nil (base : Nat) (w : World) : OwnR R base w (.slice none 0 0) [] := ⟨by simp, .inl ⟨rfl, rfl⟩⟩
theorem OwnR.below {base : Nat} {w : World} {v : Value} {l : List α} (h : OwnR R base w v l) : ∀ k, v.ownBlock = some k → base ≤ k := by
  rcases h.2 with ⟨rfl, _⟩ | ⟨g, cap, cur, rfl, hg, _⟩
  · intro k hk; cases hk
  · intro k hk; cases hk; exact hg
theorem OwnR.lt {base : Nat} {w : World} {v : Value} {l : List α} (h : OwnR R base w v l) : ∀ k, v.ownBlock = some k → k < w.heap.size := by
  rcases h.2 with ⟨rfl, _⟩ | ⟨g, cap, cur, rfl, hg, hc, _⟩
  · intro k hk; cases hk
  · intro k hk; cases hk; exact heap_lt hc
theorem OwnR.grown {base : Nat} {w w' : World} {v : Value} {l : List α} {row : Option Nat} (h : OwnR R base w v l) (hg : w.grownBy w' row) (hr : ∀ k, row = some k → v.ownBlock ≠ some k) : OwnR R base w' v l := by
  refine ⟨h.1, ?_⟩
  rcases h.2 with h | ⟨g, cap, cur, rfl, h2, h3, h4⟩
  · exact .inl h
  · exact .inr ⟨g, cap, cur, rfl, h2, (hg.block g (heap_lt h3) (fun e => hr g e.symm rfl)).trans h3, h4⟩
theorem OwnR.ext {base : Nat} {w w' : World} {v : Value} {l : List α} (h : OwnR R base w v l) (hb : Below w.heap.size w w') : OwnR R base w' v l := by
  refine ⟨h.1, ?_⟩
  rcases h.2 with h | ⟨g, cap, cur, h1, h2, h3, h4⟩
  · exact .inl h
  · exact .inr ⟨g, cap, cur, h1, h2, (hb.block g (heap_lt h3)).trans h3, h4⟩
theorem OwnR.form {base : Nat} {w : World} {v : Value} {l : List α} (h : OwnR R base w v l) : ∃ p cap, v = .slice p l.length cap := by
  rcases h.2 with ⟨rfl, h0⟩ | ⟨g, cap, cur, h1, h2⟩
  · exact ⟨none, 0, by rw [h0]⟩
  · exact ⟨_, cap, h1⟩
theorem OwnR.formL {base : Nat} {w : World} {v : Value} {l : List α} (h : OwnR R base w v l) : ∃ L p cap, v = .slice p L.length cap ∧ Hid (L = l) ∧ Hid (OwnR R base w (.slice p L.length cap) L) := by
  obtain ⟨p, cap, rfl⟩ := h.form
  exact ⟨l, p, cap, rfl, rfl, h⟩
theorem OwnR.ne {base : Nat} {w : World} {v : Value} {l : List α} (h : OwnR R base w v l) {B t : Nat} {cs : Array Value} (hq : w.heap[B]? = some (.cells cs t (0, 0))) (ht : t ≠ R.e) : some B ≠ v.ownBlock := by
  rcases h.2 with ⟨rfl, _⟩ | ⟨g, cap, cur, rfl, hg, hc, _⟩
  · intro k; cases k
  · intro k; cases k; rw [hq] at hc; cases hc; exact ht rfl
theorem OwnR.keep {base : Nat} {w w' : World} {v : Value} {l : List α} (h : OwnR R base w v l) (hg : w.grownBy w' v.ownBlock) {B t : Nat} {cs : Array Value} (hq : w.heap[B]? = some (.cells cs t (0, 0))) (ht : t ≠ R.e) : w'.heap[B]? = some (.cells cs t (0, 0)) :=
  (hg.block B (heap_lt hq) (h.ne hq ht)).trans hq
/-- A block below the own row's first number stays. -/
theorem OwnR.stay {base : Nat} {w w' : World} {v : Value} {l : List α} (h : OwnR R base w v l) (hg : w.grownBy w' v.ownBlock) {B : Nat} {o : Obj} (hq : w.heap[B]? = some o) (hB : B < base) : w'.heap[B]? = some o :=
  (hg.block B (heap_lt hq) (fun e => by have := h.below B e.symm; omega)).trans hq
theorem OwnR.set {base : Nat} {w : World} {v u : Value} {l : List α} {C i : Nat} (h : OwnR R base w v l) (hn : some C ≠ v.ownBlock) : OwnR R base (w.setCell ⟨C, i, none⟩ u) v l := by
  refine ⟨h.1, ?_⟩
  rcases h.2 with h | ⟨g, cap, cur, rfl, h2, h3, h4⟩
  · exact .inl h
  · exact .inr ⟨g, cap, cur, rfl, h2, (heap_setCell_other _ _ _ _ (fun e => hn (congrArg some e.symm))).trans h3, h4⟩
theorem OwnR.lower {base base' : Nat} {w : World} {v : Value} {l : List α} (h : OwnR R base w v l) (hb : base' ≤ base) : OwnR R base' w v l := by
  refine ⟨h.1, ?_⟩
  rcases h.2 with h | ⟨g, cap, cur, rfl, h2, h3⟩
  · exact .inl h
  · exact .inr ⟨g, cap, cur, rfl, by omega, h3⟩
theorem flatR_length (l : List α) : (l.flatMap R.cells).length = l.length * R.size := by
  induction l with
  | nil => simp
  | cons f r ih => rw [List.flatMap_cons, List.length_append, R.len, ih, List.length_cons, Nat.add_mul]; omega
theorem flatR_get (l : List α) (i : Nat) (x : α) (h : l[i]? = some x) (j : Nat) (hj : j < R.size) : (l.flatMap R.cells)[i * R.size + j]? = (R.cells x)[j]? := by
  induction l generalizing i with
  | nil => simp at h
  | cons g r ih =>
    rw [List.flatMap_cons]
    cases i with
    | zero =>
      simp at h; subst h
      rw [List.getElem?_append_left (by rw [R.len]; omega)]
      simp
    | succ i =>
      rw [List.getElem?_append_right (by rw [R.len, Nat.add_mul]; omega), R.len]
      have : (i + 1) * R.size + j - R.size = i * R.size + j := by rw [Nat.add_mul]; omega
      rw [this]
      exact ih i (by simpa using h)
/-- What is owned can be read. -/
theorem OwnR.isR {base : Nat} {w : World} {v : Value} {l : List α} (h : OwnR R base w v l) : IsR R (fun b => base ≤ b ∧ v.ownBlock = some b) w l v := by
  rcases h.2 with ⟨rfl, h0⟩ | ⟨g, cap, cur, rfl, hg, hc, hcap, hmax, hsz, htake⟩
  · obtain rfl : l = [] := List.eq_nil_of_length_eq_zero h0
    exact IsR.none_
  · refine ⟨g, 0, cap, _, rfl, hcap, hmax, fun _ => ⟨rfl, hg, rfl⟩, (fun h => by cases h), fun i x hx j u hu => ?_⟩
    have hi : i < l.length := (List.getElem?_eq_some_iff.1 hx).1
    have hj : j < R.size := by rw [← R.len x]; exact (List.getElem?_eq_some_iff.1 hu).1
    have hlt : i * R.size + j < l.length * R.size := by
      have := Nat.mul_le_mul_right R.size (show i + 1 ≤ l.length by omega)
      rw [Nat.add_mul] at this; omega
    rw [← hu, ← flatR_get l i x hx j hj, ← htake, List.getElem?_take_of_lt hlt]
    simp [World.cell?, hc]
theorem OwnR.at {base : Nat} {w : World} {p : Option Addr} {n cap : Nat} {l : List α} (h : OwnR R base w (.slice p n cap) l) (hl : 0 < l.length) : ∃ g, p = some ⟨g, 0, none⟩ ∧ base ≤ g ∧ g < w.heap.size := by
  rcases h.2 with ⟨h1, h0⟩ | ⟨g, cap', cur, h1, hg, hc, _⟩
  · omega
  · refine ⟨g, ?_, hg, heap_lt hc⟩
    injection h1
theorem OwnR.blk {base : Nat} {w : World} {g n cap : Nat} {l : List α} (h : OwnR R base w (.slice (some ⟨g, 0, none⟩) n cap) l) : ∃ cur, w.heap[g]? = some (.cells cur R.e (0, 0)) := by
  rcases h.2 with ⟨h1, h0⟩ | ⟨g', cap', cur, h1, hg, hc, _⟩
  · cases h1
  · obtain ⟨rfl, _, _⟩ : g = g' ∧ _ := by simpa using h1
    exact ⟨cur, hc⟩
theorem OwnR.frozen {base : Nat} {w : World} {g n cap : Nat} {l : List α} (h : OwnR R base w (.slice (some ⟨g, 0, none⟩) n cap) l) (i : Nat) : w.frozen? ⟨g, i, none⟩ = false := by
  obtain ⟨cur, hc⟩ := h.blk
  simp [World.frozen?, hc]
theorem OwnR.cell {base : Nat} {w : World} {g n cap : Nat} {l : List α} (h : OwnR R base w (.slice (some ⟨g, 0, none⟩) n cap) l) {i : Nat} {x : α} (hx : l[i]? = some x) {j : Nat} {u : Value} (hu : (R.cells x)[j]? = some u) : w.cell? ⟨g, i * R.size + j, none⟩ = some u := by
  obtain ⟨b, off, cap', p', h1, h2, h3, h4, h6, h5⟩ := h.isR
  have hne : l ≠ [] := by rintro rfl; simp at hx
  obtain ⟨hp, _⟩ := h4 hne
  subst hp
  have h1a : (⟨g, 0, none⟩ : Addr) = ⟨b, off, none⟩ := by injection h1 with h1; injection h1
  have hgb : g = b := congrArg Addr.block h1a
  have hof : 0 = off := congrArg Addr.off h1a
  have := h5 i x hx j u hu
  rw [← hgb, ← hof, Nat.zero_add] at this
  exact this
theorem OwnR.any {base : Nat} {w : World} {v : Value} {l : List α} (h : OwnR R base w v l) : IsR R (fun _ => True) w l v := h.isR.weaken fun _ _ => trivial
theorem info_partsR {P : Program} {e : TypeId} {z : Option Value} {s b : Nat} (h : (P.info? e).map (fun i => (i.zero, i.size, i.bytes)) = some (z, s, b)) : ∃ i, P.info? e = some i ∧ i.zero = z ∧ i.size = s ∧ i.bytes = b := by
  obtain ⟨i, hi, he⟩ := Option.map_eq_some_iff.1 h
  simp only [Prod.mk.injEq] at he
  exact ⟨i, hi, he.1, he.2.1, he.2.2⟩
/-- The operation append(v, m...) on records. -/
theorem wp_appR {o : Oper} {a : Act} {K : Act → World → Prop} {Q : Exit → Act → World → Prop} {w : World} (sl x : Operand)
    (ho : o.op = .call { callee := .builtin .append, args := #[sl, x], argTypes := #[R.t, R.t] })
    {base : Nat} {v c : Value} {l m : List α} (hown : OwnR R base w v l) (hm : IsR R (fun _ => True) w m c) (hs : a.eval sl = v) (hx : a.eval x = c) (hlen : l.length + m.length ≤ 1000000) (hb : base ≤ w.heap.size)
    (h : ∀ v' w', OwnR R base w' v' (l ++ m) → w.grownBy w' v.ownBlock → K (a.put o.dst v') w') : Oper.wp Tryd.prog o a w K Q := by
  obtain ⟨i0, hi, hz0, hz1, hz2⟩ := info_partsR R.info
  obtain ⟨b, off, cap, p, rfl, hcap, hmax, hp, hn, hc⟩ := hm
  cases p with
  | none =>
    obtain rfl : m = [] := by
      cases m with
      | nil => rfl
      | cons f r => exact absurd (hp (by simp)).1 (by simp)
    have hrun := run_append_owned_none (P := Tryd.prog) (w := w) base R.t o.type R.e i0 R.size R.und hi v l.length _ hown
    have hx' : a.eval x = .slice none 0 0 := hx.trans (hn rfl)
    unfold Oper.wp
    simp [execOp, ho, resolve, invoke, builtin, hs, hx', hrun, Result.andThen]
    refine h v w ?_ ⟨rfl, rfl, rfl, Nat.le_refl _, fun _ _ _ => rfl⟩
    rw [List.append_nil]
    exact hown
  | some ad =>
    refine wp_append_own w sl x R.t ho base R.e i0 _ R.size R.bytes R.und hi hz0 hz1 hz2 R.zlen R.pos v l.length _ hs hown ad m.length cap (m.flatMap R.cells) hx (flatR_length m) ?_ ?_ (by unfold maxLen; omega) ?_ hb ?_
    · intro j u hj
      have hj' : j < m.length * R.size := by rw [← flatR_length]; exact (List.getElem?_eq_some_iff.1 hj).1
      have hpos := R.pos
      have hdm : j / R.size * R.size + j % R.size = j := by rw [Nat.mul_comm]; exact Nat.div_add_mod j R.size
      have hd : j / R.size < m.length := Nat.div_lt_of_lt_mul (by rw [Nat.mul_comm]; exact hj')
      obtain ⟨f, hf⟩ : ∃ f, m[j / R.size]? = some f := ⟨_, List.getElem?_eq_getElem hd⟩
      obtain ⟨hpe, _⟩ := hp (by rintro rfl; simp at hf)
      obtain rfl : ad = ⟨b, off, none⟩ := by simpa using hpe
      have hg := flatR_get m (j / R.size) f hf (j % R.size) (Nat.mod_lt _ hpos)
      rw [hdm, hj] at hg
      have := hc _ f hf _ u hg.symm
      rw [Addr.add_lit, show off + j = off + j / R.size * R.size + j % R.size by rw [Nat.add_assoc, hdm]]
      exact this
    · intro u hu
      obtain ⟨f, _, hu⟩ := List.mem_flatMap.1 hu
      exact R.one f u hu
    · have := R.few
      have h1 : (l.length + m.length) * R.bytes ≤ 1000000 * 1000 := Nat.mul_le_mul hlen this
      have h2 : (1000000 : Nat) * 1000 ≤ 140737488355328 := by decide
      exact Nat.le_trans h1 h2
    · intro v' w' h1 h2 _
      refine h v' w' ?_ h2
      unfold OwnR
      simpa using h1
theorem wpList_appR {ops : Array Oper} {rest : List Oper} {o : Oper} {a : Act} {Q : Exit → Act → World → Prop} {w : World} (hgd : o.guard = none) (sl x : Operand)
    (ho : o.op = .call { callee := .builtin .append, args := #[sl, x], argTypes := #[R.t, R.t] })
    {base : Nat} {v c : Value} {l m : List α} (hown : OwnR R base w v l) (hm : IsR R (fun _ => True) w m c) (hs : a.eval sl = v) (hx : a.eval x = c) (hlen : l.length + m.length ≤ 1000000) (hb : base ≤ w.heap.size)
    (h : ∀ v' w', OwnR R base w' v' (l ++ m) → w.grownBy w' v.ownBlock → wpList Tryd.prog ops Q rest (a.put o.dst v') w') : wpList Tryd.prog ops Q (o :: rest) a w :=
  wpList_plain hgd fun _ hK => wp_appR sl x ho hown hm hs hx hlen hb fun v' w' h1 h2 => hK _ _ (h v' w' h1 h2)
theorem step_appR {ops : Array Oper} {o : Oper} {a : Act} {K : Act → World → Prop} {Q : Exit → Act → World → Prop} {E : Prop} {w : World} (hgd : o.guard = none) (sl x : Operand)
    (ho : o.op = .call { callee := .builtin .append, args := #[sl, x], argTypes := #[R.t, R.t] })
    {base : Nat} {v c : Value} {l m : List α} (hown : OwnR R base w v l) (hm : IsR R (fun _ => True) w m c) (hs : a.eval sl = v) (hx : a.eval x = c) (hlen : l.length + m.length ≤ 1000000) (hb : base ≤ w.heap.size)
    (h : ∀ v' w', OwnR R base w' v' (l ++ m) → w.grownBy w' v.ownBlock → K (a.put o.dst v') w') : if Region.wanted o (yielded ops a.tmps) = true then Oper.wp Tryd.prog o a w K Q else E := by
  have hw : Region.wanted o (yielded ops a.tmps) = true := by simp [Region.wanted, hgd]
  rw [if_pos hw]
  exact wp_appR sl x ho hown hm hs hx hlen hb h
/-- append of at least one record: the row stays, or it is new. -/
theorem wp_appR1 {o : Oper} {a : Act} {K : Act → World → Prop} {Q : Exit → Act → World → Prop} {w : World} (sl x : Operand)
    (ho : o.op = .call { callee := .builtin .append, args := #[sl, x], argTypes := #[R.t, R.t] })
    {base : Nat} {v c : Value} {l m : List α} (hown : OwnR R base w v l) (hm : IsR R (fun _ => True) w m c) (hm0 : 0 < m.length) (hs : a.eval sl = v) (hx : a.eval x = c) (hlen : l.length + m.length ≤ 1000000) (hb : base ≤ w.heap.size)
    (h : ∀ L g cap w', Hid (L = l ++ m) → Hid (OwnR R base w' (.slice (some ⟨g, 0, none⟩) L.length cap) L) → w.grownBy w' v.ownBlock → Hid (v.ownBlock = some g ∨ g = w.heap.size) → K (a.put o.dst (.slice (some ⟨g, 0, none⟩) L.length cap)) w') : Oper.wp Tryd.prog o a w K Q := by
  obtain ⟨i0, hi, hz0, hz1, hz2⟩ := info_partsR R.info
  obtain ⟨b, off, cap, p, rfl, hcap, hmax, hp, hn, hc⟩ := hm
  obtain ⟨hpe, _⟩ := hp (by rintro rfl; simp at hm0)
  subst hpe
  have hgo : ∀ g cap' w', w'.ownsRow base R.e R.size (.slice (some ⟨g, 0, none⟩) (l.length + m.length) cap') (l.length + m.length) (l.flatMap R.cells ++ m.flatMap R.cells) → w.grownBy w' v.ownBlock → (v.ownBlock = some g ∨ g = w.heap.size) → g < w'.heap.size → K (a.put o.dst (.slice (some ⟨g, 0, none⟩) (l.length + m.length) cap')) w' := by
    intro g cap' w' h1 h2 h3 _
    have e : l.length + m.length = (l ++ m).length := by simp
    rw [e] at h1 ⊢
    refine h (l ++ m) g cap' w' rfl ?_ h2 h3
    show OwnR R base w' _ _
    unfold OwnR
    simpa using h1
  refine wp_append_lies w sl x R.t ho base R.e i0 _ R.size R.bytes R.und hi hz0 hz1 hz2 R.zlen R.pos v l.length _ hs hown ⟨b, off, none⟩ m.length cap (m.flatMap R.cells) hx (flatR_length m) ?_ ?_ hm0 (by unfold maxLen; omega) ?_ hb w.heap.size rfl hgo
  · intro j u hj
    have hj' : j < m.length * R.size := by rw [← flatR_length]; exact (List.getElem?_eq_some_iff.1 hj).1
    have hpos := R.pos
    have hdm : j / R.size * R.size + j % R.size = j := by rw [Nat.mul_comm]; exact Nat.div_add_mod j R.size
    have hd : j / R.size < m.length := Nat.div_lt_of_lt_mul (by rw [Nat.mul_comm]; exact hj')
    obtain ⟨f, hf⟩ : ∃ f, m[j / R.size]? = some f := ⟨_, List.getElem?_eq_getElem hd⟩
    have hg := flatR_get m (j / R.size) f hf (j % R.size) (Nat.mod_lt _ hpos)
    rw [hdm, hj] at hg
    have := hc _ f hf _ u hg.symm
    rw [Addr.add_lit, show off + j = off + j / R.size * R.size + j % R.size by rw [Nat.add_assoc, hdm]]
    exact this
  · intro u hu
    obtain ⟨f, _, hu⟩ := List.mem_flatMap.1 hu
    exact R.one f u hu
  · have := R.few
    have h1 : (l.length + m.length) * R.bytes ≤ 1000000 * 1000 := Nat.mul_le_mul hlen this
    have h2 : (1000000 : Nat) * 1000 ≤ 140737488355328 := by decide
    exact Nat.le_trans h1 h2
theorem wpList_appR1 {ops : Array Oper} {rest : List Oper} {o : Oper} {a : Act} {Q : Exit → Act → World → Prop} {w : World} (hgd : o.guard = none) (sl x : Operand)
    (ho : o.op = .call { callee := .builtin .append, args := #[sl, x], argTypes := #[R.t, R.t] })
    {base : Nat} {v c : Value} {l m : List α} (hown : OwnR R base w v l) (hm : IsR R (fun _ => True) w m c) (hm0 : 0 < m.length) (hs : a.eval sl = v) (hx : a.eval x = c) (hlen : l.length + m.length ≤ 1000000) (hb : base ≤ w.heap.size)
    (h : ∀ L g cap w', Hid (L = l ++ m) → Hid (OwnR R base w' (.slice (some ⟨g, 0, none⟩) L.length cap) L) → w.grownBy w' v.ownBlock → Hid (v.ownBlock = some g ∨ g = w.heap.size) → wpList Tryd.prog ops Q rest (a.put o.dst (.slice (some ⟨g, 0, none⟩) L.length cap)) w') : wpList Tryd.prog ops Q (o :: rest) a w :=
  wpList_plain hgd fun _ hK => wp_appR1 sl x ho hown hm hm0 hs hx hlen hb fun L g cap w' h1 h2 h3 h4 => hK _ _ (h L g cap w' h1 h2 h3 h4)
/-- One record that lies in a block of its own. -/
theorem isR_one {w : World} {b t : Nat} (x : α) {cs : Array Value} (h : w.heap[b]? = some (.cells cs t (0, 0))) (hcs : cs.toList = R.cells x) : IsR R (fun _ => True) w [x] (.slice (some ⟨b, 0, none⟩) 1 1) := by
  refine ⟨b, 0, 1, _, rfl, by simp, by decide, fun _ => ⟨rfl, trivial⟩, (fun h => by cases h), fun i y hy j u hu => ?_⟩
  cases i with
  | zero =>
    simp at hy; subst hy
    rw [← hcs] at hu
    simp [World.cell?, h]
    simpa using hu
  | succ i => simp at hy
theorem flatR_set (l : List α) (i : Nat) (x y : α) {j : Nat} {u : Value} (hx : l[i]? = some x) (hy : R.cells y = (R.cells x).set j u) (hj : j < R.size) : (l.set i y).flatMap R.cells = (l.flatMap R.cells).set (i * R.size + j) u := by
  induction l generalizing i with
  | nil => simp at hx
  | cons z r ih =>
    cases i with
    | zero =>
      simp at hx; subst hx
      rw [List.set_cons_zero, List.flatMap_cons, List.flatMap_cons, hy, List.set_append_left _ _ (by rw [R.len]; omega)]
      simp
    | succ i =>
      rw [List.set_cons_succ, List.flatMap_cons, List.flatMap_cons, List.set_append_right _ _ (by rw [R.len, Nat.add_mul]; omega), R.len]
      have e : (i + 1) * R.size + j - R.size = i * R.size + j := by rw [Nat.add_mul]; omega
      rw [e, ih i (by simpa using hx)]
/-- A cell of an own record is stored to. -/
theorem OwnR.put {base : Nat} {w : World} {v u : Value} {l : List α} (h : OwnR R base w v l) {i j : Nat} {x y : α} (hx : l[i]? = some x) (hj : j < R.size) (hy : R.cells y = (R.cells x).set j u) {B : Nat} (hB : v.ownBlock = some B) :
    OwnR R base (w.setCell ⟨B, i * R.size + j, none⟩ u) v (l.set i y) := by
  have hi : i < l.length := (List.getElem?_eq_some_iff.1 hx).1
  refine ⟨by rw [flatR_length], ?_⟩
  rcases h.2 with ⟨rfl, _⟩ | ⟨g, cap, cur, rfl, hg, hc, hcap, hmax, hsz, htake⟩
  · cases hB
  · obtain rfl : g = B := by simpa [Value.ownBlock] using hB
    refine .inr ⟨g, cap, cur.setIfInBounds (i * R.size + j) u, by rw [List.length_set], hg, heap_setCell_same _ _ _ _ _ _ hc, by rw [List.length_set]; exact hcap, hmax, by simpa using hsz, ?_⟩
    have hlt : i * R.size + j < l.length * R.size := by
      have := Nat.mul_le_mul_right R.size (show i + 1 ≤ l.length by omega)
      rw [Nat.add_mul] at this; omega
    rw [List.length_set, Array.toList_setIfInBounds, List.take_set, htake]
    exact (flatR_set l i x y hx hy hj).symm
end Go.Proofs.YtdlolkogifigpaaDoor
