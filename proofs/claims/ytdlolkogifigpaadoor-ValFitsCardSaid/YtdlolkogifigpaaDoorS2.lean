/- Sh: how the world may turn under what a walk knows: memory that is made, a store. No statement of the program is proved here. -/
import Derived.Test.YtdlolkogifigpaaDoorS1
import Derived.Deep.Upon
set_option linter.unusedSimpArgs false
set_option linter.unusedVariables false
namespace Go.Sh
open Go Go.RowKit

section
variable {B : Base} {s : FS} {a : Act} {w w' : World} {E : Env}

/-- The general step: nothing that is spoken of is lost. -/
theorem Sim.step {s' : FS} {E' : Env} (h : Sim B s a w E) (ht : s'.t = s.t) (hm : MSim B s'.b s'.r w' E')
    (hk : ∀ b o u, E.K b o → w.cell? ⟨b, o, none⟩ = some u → E'.K b o ∧ w'.cell? ⟨b, o, none⟩ = some u)
    (hβ : ∀ d, s.ment d → E'.β d = E.β d ∧ E'.ι d = E.ι d)
    (hr : ∀ d e W n, s.ment d → s'.r d = some (e, W, n) → (s.r d = some (e, W, n) ∧ E'.γ d = E.γ d) ∨ (∃ m, s.r d = some (e, W, m) ∧ m < n))
    (hi : ∀ d z p, s'.i d = some (z, p) → w'.heap[E'.ι d]? = some (.stringIter z p) ∧ B.w0.heap.size ≤ E'.ι d)
    (hii : ∀ d d' q q', s'.i d = some q → s'.i d' = some q' → E'.ι d = E'.ι d' → d = d') : Sim B s' a w' E' := by
  refine ⟨h.defers, h.size, fun k x hx => ?_, hm, hi, hii⟩
  rw [ht] at hx
  obtain ⟨h1, h2⟩ := h.tmp k x hx
  exact ⟨h1, h2.mono hk (fun d hd => hβ d (.inl ⟨k, x, hx, hd⟩)) (fun d e W n hd => hr d e W n (.inl ⟨k, x, hx, hd⟩))⟩

theorem MSim.ext (h : MSim B s.b s.r w E) (hb : Below w.heap.size w w') (E' : Env) (hK : ∀ b o, E.K b o → E'.K b o) (hK' : ∀ b o, E'.K b o → E.K b o ∨ (w.heap.size ≤ b ∧ b < w'.heap.size))
    (hβ : ∀ d, (s.ment d ∨ ∃ cs, s.b d = some cs) → E'.β d = E.β d ∧ E'.ι d = E.ι d) (hγ : ∀ d q, s.r d = some q → E'.γ d = E.γ d) (hold : ∀ d, B.old d → E'.β d = E.β d ∧ E'.γ d = E.γ d) : MSim B s.b s.r w' E' := by
  have hk : ∀ b o u, E.K b o → w.cell? ⟨b, o, none⟩ = some u → E'.K b o ∧ w'.cell? ⟨b, o, none⟩ = some u := fun b o u h1 h2 =>
    ⟨hK b o h1, (hb.cell (p := ⟨b, o, none⟩) (cell_block h2)).trans h2⟩
  have hr : ∀ d e W n, s.r d = some (e, W, n) → (s.r d = some (e, W, n) ∧ E'.γ d = E.γ d) ∨ (∃ m, s.r d = some (e, W, m) ∧ m < n) := fun d e W n hd => .inl ⟨hd, hγ d _ hd⟩
  have hlow := h.low.size
  refine ⟨fun d cs hd => ?_, fun d e W n hd => ?_, fun d d' cs cs' h1 h2 h3 => ?_, fun d d' cs q b cap h1 h2 h3 => ?_, fun d d' q q' b cap cap' h1 h2 h3 h4 => ?_, fun b o hbo => ?_, ?_, fun b o u h1 h2 => ?_, fun b o h1 => ?_, ⟨fun d ho => (hold d ho).1.trans (h.pas.β d ho), fun d ho h0 => (hold d ho).2.trans (h.pas.γ d ho h0), fun d e W n ho hd => ?_⟩⟩
  · obtain ⟨h1, h2⟩ := h.box d cs hd
    have e := (hβ d (.inr ⟨cs, hd⟩)).1
    rw [e]
    refine ⟨⟨Nat.lt_of_lt_of_le h1.lt hb.size, (by rw [hb.block _ h1.lt]; exact h1.obj), fun o => (hb.frozen (p := ⟨E.β d, o, none⟩) h1.lt).trans (h1.fz o), fun j c hc => ?_, fun o hk' => ?_⟩, h2⟩
    · obtain ⟨v, c1, c2, c3⟩ := h1.cell j c hc
      refine ⟨v, (hb.cell (p := ⟨E.β d, j, none⟩) h1.lt).trans c1, c2, c3.mono hk (fun d' hd' => hβ d' (.inl (.inr ⟨d, cs, c, hd, List.mem_of_getElem? hc, hd'⟩))) (fun d e W n _ => hr d e W n)⟩
    · rcases hK' _ _ hk' with h3 | ⟨h3, _⟩
      · exact h1.out o h3
      · have := h1.lt; omega
  · rw [hγ d _ hd]
    rcases h.row d e W n hd with h1 | ⟨b, cap, h1, h2, h3⟩
    · exact .inl h1
    · obtain ⟨cur, hc, hs⟩ := h3.cells
      have hlt : b < w.heap.size := (Array.getElem?_eq_some_iff.1 hc).1
      refine .inr ⟨b, cap, h1, h2, ⟨cur, (hb.block b hlt).trans hc, hs⟩, h3.le, h3.max, fun o ho => ?_⟩
      rcases hK' _ _ ho with h4 | ⟨h4, _⟩
      · exact h3.out o h4
      · omega
  · rw [(hβ d (.inr ⟨cs, h1⟩)).1, (hβ d' (.inr ⟨cs', h2⟩)).1] at h3
    exact h.bb d d' cs cs' h1 h2 h3
  · rw [(hβ d (.inr ⟨cs, h1⟩)).1]
    rw [hγ d' q h2] at h3
    exact h.br d d' cs q b cap h1 h2 h3
  · rw [hγ d q h1] at h3
    rw [hγ d' q' h2] at h4
    exact h.rr d d' q q' b cap cap' h1 h2 h3 h4
  · rcases hK' b o hbo with h1 | ⟨_, h1⟩
    · exact Nat.lt_of_lt_of_le (h.lt b o h1) hb.size
    · exact h1
  · exact ⟨hb.os.trans h.low.os, hb.tape.trans h.low.tape, hb.output.trans h.low.output, Nat.le_trans h.low.size hb.size, fun k hk' hx => (hb.block k (Nat.lt_of_lt_of_le hk' h.low.size)).trans (h.low.block k hk' hx)⟩
  · obtain ⟨h3, h4⟩ := h.keep b o u h1 h2
    exact hk b o u h3 h4
  · rcases hK' b o h1 with h2 | ⟨h2, _⟩
    · exact h.knew b o h2
    · exact .inr (.inl (by omega))
  · rw [(hold d ho).2]; exact h.pas.row d e W n ho hd
theorem Sim.ext (h : Sim B s a w E) (hb : Below w.heap.size w w') (E' : Env) (hK : ∀ b o, E.K b o → E'.K b o) (hK' : ∀ b o, E'.K b o → E.K b o ∨ (w.heap.size ≤ b ∧ b < w'.heap.size))
    (hβ : ∀ d, (s.ment d ∨ (∃ cs, s.b d = some cs) ∨ ∃ q, s.i d = some q) → E'.β d = E.β d ∧ E'.ι d = E.ι d) (hγ : ∀ d q, s.r d = some q → E'.γ d = E.γ d) (hold : ∀ d, B.old d → E'.β d = E.β d ∧ E'.γ d = E.γ d) : Sim B s a w' E' := by
  refine h.step rfl (h.mem.ext hb E' hK hK' (fun d hd => hβ d (hd.imp id .inl)) hγ hold) (fun b o u h1 h2 => ⟨hK b o h1, (hb.cell (p := ⟨b, o, none⟩) (cell_block h2)).trans h2⟩) (fun d hd => hβ d (.inl hd)) (fun d e W n _ hd => .inl ⟨hd, hγ d _ hd⟩)
    (fun d z p hd => ?_) (fun d d' q q' h1 h2 h3 => ?_)
  · rw [(hβ d (.inr (.inr ⟨_, hd⟩))).2]
    obtain ⟨h1, h2⟩ := h.itr d z p hd
    exact ⟨(hb.block _ (Array.getElem?_eq_some_iff.1 h1).1).trans h1, h2⟩
  · rw [(hβ d (.inr (.inr ⟨_, h1⟩))).2, (hβ d' (.inr (.inr ⟨_, h2⟩))).2] at h3
    exact h.ii d d' q q' h1 h2 h3
theorem Sim.same (h : Sim B s a w E) (hb : Below w.heap.size w w') : Sim B s a w' E := h.ext hb E (fun _ _ h => h) (fun _ _ h => .inl h) (fun _ _ => ⟨rfl, rfl⟩) (fun _ _ _ => rfl) (fun _ _ => ⟨rfl, rfl⟩)

/-- An own variable is made. -/
theorem Sim.newB (h : Sim B s a w E) {d : Nat} (hno : ¬ B.old d) (hf : Fresh s d) (ty : TypeId) (cs : List TV) (vs : List Value) (hl : cs.length = vs.length) (hv : ∀ (j : Nat) c v, cs[j]? = some c → vs[j]? = some v → RelT w E s.r c v) (ho : ∀ v ∈ vs, one v)
    (hm : ∀ c ∈ cs, ¬ Ment d c) : ∃ E', E'.β d = w.heap.size ∧ Sim B (s.setB d cs) a (w.alloc (.cells vs.toArray ty)) E' := by
  obtain ⟨hf1, hf2, hf3, hf4⟩ := hf
  have hb : Below w.heap.size w (w.alloc (.cells vs.toArray ty)) := (Below.refl _ _).alloc (Nat.le_refl _) _
  let E' : Env := { E with β := fun j => if j = d then w.heap.size else E.β j }
  have hβ : ∀ d', d' ≠ d → E'.β d' = E.β d' := fun d' hd' => by simp [E', hd']
  have hd : E'.β d = w.heap.size := by simp [E']
  refine ⟨E', hd, ?_⟩
  have h' : Sim B s a (w.alloc (.cells vs.toArray ty)) E' := by
    refine h.ext hb E' (fun _ _ h => h) (fun _ _ h => .inl h) (fun d' hd' => ⟨hβ d' ?_, rfl⟩) (fun _ _ _ => rfl) (fun d' ho => ⟨hβ d' (fun e => hno (e ▸ ho)), rfl⟩)
    rintro rfl
    rcases hd' with hd' | ⟨cs', hd'⟩ | ⟨q, hd'⟩
    · exact hf1 hd'
    · rw [hf2] at hd'; cases hd'
    · rw [hf4] at hd'; cases hd'
  have hlt : ∀ b o, E.K b o → b < w.heap.size := h.mem.lt
  have hm' := h'.mem
  have key : ∀ e c, s.b e = some c → E'.β e ≠ w.heap.size := fun e c he => by
    have hne : e ≠ d := by rintro rfl; rw [hf2] at he; cases he
    rw [hβ e hne]
    have := (h.mem.box e c he).1.lt; omega
  refine ⟨h'.defers, h'.size, h'.tmp, ⟨fun e cs' he => ?_, hm'.row, fun e e' c c' h1 h2 h3 => ?_, fun e e' c q b cap h1 h2 h3 => ?_, hm'.rr, hm'.lt, hm'.low, hm'.keep, hm'.knew, hm'.pas⟩, h'.itr, h'.ii⟩
  · rcases setF_inv he with ⟨rfl, rfl⟩ | ⟨hed, he⟩
    · rw [hd]
      refine ⟨⟨by simp, ⟨_, _, _, heap_alloc_new _ _⟩, fun o => by unfold World.frozen?; rw [heap_alloc_new]; simp, fun j c hc => ?_, fun o hk => ?_⟩, .inl h.mem.low.size⟩
      · have hj : j < vs.length := by rw [← hl]; exact (List.getElem?_eq_some_iff.1 hc).1
        refine ⟨vs[j], by simp [hj], ho _ (List.getElem_mem hj), ?_⟩
        refine (hv j c vs[j] hc (List.getElem?_eq_getElem hj)).mono (fun b o u h1 h2 => ⟨h1, (hb.cell (p := ⟨b, o, none⟩) (cell_block h2)).trans h2⟩) (fun d' hd' => ⟨hβ d' ?_, rfl⟩) (fun d e W n _ hd => .inl ⟨hd, rfl⟩)
        rintro rfl
        exact hm c (List.mem_of_getElem? hc) hd'
      · have := hlt _ _ hk; omega
    · exact hm'.box e cs' he
  · rcases setF_inv h1 with ⟨x1, _⟩ | ⟨_, y1⟩ <;> rcases setF_inv h2 with ⟨x2, _⟩ | ⟨_, y2⟩
    · rw [x1, x2]
    · rw [x1, hd] at h3; exact absurd h3.symm (key e' c' y2)
    · rw [x2, hd] at h3; exact absurd h3 (key e c y1)
    · exact hm'.bb e e' c c' y1 y2 h3
  · rcases setF_inv h1 with ⟨rfl, _⟩ | ⟨_, h1⟩
    · rw [hd]
      intro hbb
      have h3' : E.γ e' = some (b, cap) := h3
      rcases h.mem.row e' q.1 q.2.1 q.2.2 h2 with ⟨h5, _⟩ | ⟨b', cap', h5, h6, h7⟩
      · rw [h5] at h3'; cases h3'
      · rw [h5] at h3'; cases h3'
        obtain ⟨cur, hc, _⟩ := h7.cells
        have := (Array.getElem?_eq_some_iff.1 hc).1
        omega
    · exact hm'.br e e' c q b cap h1 h2 h3

theorem setCells_size (b : Nat) : ∀ (vs : List Value) (o : Nat) (w : World), (w.setCells b o vs).heap.size = w.heap.size
  | [], _, _ => rfl
  | v :: r, o, w => by rw [World.setCells, setCells_size b r]; simp
theorem setCells_os (b : Nat) : ∀ (vs : List Value) (o : Nat) (w : World), (w.setCells b o vs).os = w.os ∧ (w.setCells b o vs).tape = w.tape ∧ (w.setCells b o vs).output = w.output
  | [], _, _ => ⟨rfl, rfl, rfl⟩
  | v :: r, o, w => by rw [World.setCells]; exact setCells_os b r (o + 1) (w.setCell ⟨b, o, none⟩ v)
theorem setCells_other (b : Nat) : ∀ (vs : List Value) (o : Nat) (w : World) (k : Nat), k ≠ b → (w.setCells b o vs).heap[k]? = w.heap[k]?
  | [], _, _, _, _ => rfl
  | v :: r, o, w, k, h => by
    rw [World.setCells, setCells_other b r (o + 1) _ k h]
    exact Below.heap_setCell _ _ _ _ h

theorem setCells_obj (b : Nat) : ∀ (vs : List Value) (o : Nat) (w : World), (∃ c e z, w.heap[b]? = some (.cells c e z)) → ∃ c e z, (w.setCells b o vs).heap[b]? = some (.cells c e z)
  | [], _, _, h => h
  | v :: r, o, w, ⟨c, e, z, h⟩ => by
    rw [World.setCells]
    exact setCells_obj b r (o + 1) _ ⟨_, e, z, by simp [World.setCell, Array.getElem?_modify, h]; rfl⟩
/-- The cells from off on are xs. -/
def splice {α : Type} (cs : List α) (off : Nat) (xs : List α) : List α := cs.take off ++ xs ++ cs.drop (off + xs.length)
theorem splice_length {α : Type} {cs : List α} {off : Nat} {xs : List α} (h : off + xs.length ≤ cs.length) : (splice cs off xs).length = cs.length := by
  simp [splice]; omega
theorem splice_in {α : Type} {cs : List α} {off : Nat} {xs : List α} (h : off + xs.length ≤ cs.length) {j : Nat} (hj : off ≤ j) (hj' : j < off + xs.length) : (splice cs off xs)[j]? = xs[j - off]? := by
  unfold splice
  rw [List.append_assoc, List.getElem?_append_right (by simp; omega), List.getElem?_append_left (by simp; omega)]
  simp; congr 1; omega
theorem splice_out {α : Type} {cs : List α} {off : Nat} {xs : List α} (h : off + xs.length ≤ cs.length) {j : Nat} (hj : j < off ∨ off + xs.length ≤ j) : (splice cs off xs)[j]? = cs[j]? := by
  unfold splice
  rcases hj with hj | hj
  · rw [List.append_assoc, List.getElem?_append_left (by simp; omega)]
    simp [hj]
  · rw [List.append_assoc, List.getElem?_append_right (by simp; omega), List.getElem?_append_right (by simp; omega)]
    simp only [List.length_take, List.getElem?_drop]
    congr 1; omega
theorem mem_splice {α : Type} {cs : List α} {off : Nat} {xs : List α} {c : α} (h : c ∈ splice cs off xs) : c ∈ cs ∨ c ∈ xs := by
  simp only [splice, List.mem_append] at h
  rcases h with (h | h) | h
  · exact .inl (List.mem_of_mem_take h)
  · exact .inr h
  · exact .inl (List.mem_of_mem_drop h)

/-- An own variable is stored to. -/
theorem Sim.wr (h : Sim B s a w E) {d off : Nat} {cs : List TV} (hd : s.b d = some cs) (xs : List TV) (vs : List Value) (hl : xs.length = vs.length) (hle : off + xs.length ≤ cs.length)
    (hv : ∀ (j : Nat) c v, xs[j]? = some c → vs[j]? = some v → RelT w E s.r c v) (ho : ∀ v ∈ vs, one v) : Sim B (s.setB d (splice cs off xs)) a (w.setCells (E.β d) off vs) E := by
  obtain ⟨hbox, hnew⟩ := h.mem.box d cs hd
  have hlen : vs.length = xs.length := hl.symm
  have hcell : ∀ b o, b ≠ E.β d → (w.setCells (E.β d) off vs).cell? ⟨b, o, none⟩ = w.cell? ⟨b, o, none⟩ := fun b o hne => World.cell?_setCells_out _ _ _ _ _ (fun h1 _ => absurd h1 hne)
  have hk : ∀ b o u, E.K b o → w.cell? ⟨b, o, none⟩ = some u → E.K b o ∧ (w.setCells (E.β d) off vs).cell? ⟨b, o, none⟩ = some u := fun b o u h1 h2 =>
    ⟨h1, (hcell b o (by rintro rfl; exact hbox.out o h1)).trans h2⟩
  have hm : ∀ {x : TV} {v : Value}, RelT w E s.r x v → RelT (w.setCells (E.β d) off vs) E s.r x v := fun hx => hx.mono hk (fun _ _ => ⟨rfl, rfl⟩) (fun _ _ _ _ _ hd => .inl ⟨hd, rfl⟩)
  have hsome : ∀ j, j < vs.length → (w.cell? ⟨E.β d, off + j, none⟩).isSome = true := fun j hj => by
    obtain ⟨c, hc⟩ : ∃ c, cs[off + j]? = some c := ⟨_, List.getElem?_eq_getElem (by omega)⟩
    obtain ⟨v, h1, _⟩ := hbox.cell (off + j) c hc
    rw [h1]; rfl
  have hsz := setCells_size (E.β d) vs off w
  have hb1 : ∀ {e c}, (s.setB d (splice cs off xs)).b e = some c → ∃ c, s.b e = some c := fun {e c} h1 => by
    rcases setF_inv h1 with ⟨rfl, _⟩ | ⟨_, h1⟩
    · exact ⟨cs, hd⟩
    · exact ⟨c, h1⟩
  refine h.step rfl ⟨fun e cs' he => ?_, fun e ty W n he => ?_, fun e e' c c' h1 h2 h3 => ?_, fun e e' c q b cap h1 h2 h3 => ?_, h.mem.rr, fun b o hbo => by rw [hsz]; exact h.mem.lt b o hbo, ?_, fun b o u h1 h2 => ?_, h.mem.knew, h.mem.pas⟩ hk (fun _ _ => ⟨rfl, rfl⟩) (fun _ _ _ _ _ hd => .inl ⟨hd, rfl⟩) (fun e z p he => ?_) h.ii
  · rcases setF_inv he with ⟨rfl, rfl⟩ | ⟨hed, he⟩
    · refine ⟨⟨by rw [hsz]; exact hbox.lt, setCells_obj _ _ _ _ hbox.obj, fun o => by rw [World.frozen?_setCells]; exact hbox.fz o, fun j c hc => ?_, hbox.out⟩, hnew⟩
      by_cases hj : off ≤ j ∧ j < off + xs.length
      · rw [splice_in hle hj.1 hj.2] at hc
        have hjl : j - off < vs.length := by omega
        have hcell' := World.cell?_setCells_in (E.β e) vs off w hsome (j - off) hjl
        rw [show off + (j - off) = j by omega] at hcell'
        exact ⟨_, hcell', ho _ (List.getElem_mem hjl), hm (hv _ _ _ hc (List.getElem?_eq_getElem hjl))⟩
      · rw [splice_out hle (by omega)] at hc
        obtain ⟨v, c1, c2, c3⟩ := hbox.cell j c hc
        exact ⟨v, (World.cell?_setCells_out _ _ _ _ _ (fun _ _ => by show j < off ∨ off + vs.length ≤ j; omega)).trans c1, c2, hm c3⟩
    · obtain ⟨h1, h2⟩ := h.mem.box e cs' he
      have hne : E.β e ≠ E.β d := fun hh => hed (h.mem.bb e d cs' cs he hd hh)
      refine ⟨⟨by rw [hsz]; exact h1.lt, (by rw [setCells_other _ _ _ _ _ hne]; exact h1.obj), fun o => by rw [World.frozen?_setCells]; exact h1.fz o, fun j c hc => ?_, h1.out⟩, h2⟩
      obtain ⟨v, c1, c2, c3⟩ := h1.cell j c hc
      exact ⟨v, (hcell _ _ hne).trans c1, c2, hm c3⟩
  · rcases h.mem.row e ty W n he with h1 | ⟨b, cap, h1, h2, h3⟩
    · exact .inl h1
    · obtain ⟨cur, hc, hs⟩ := h3.cells
      exact .inr ⟨b, cap, h1, h2, ⟨cur, (setCells_other _ _ _ _ _ (h.mem.br d e cs _ b cap hd he h1).symm).trans hc, hs⟩, h3.le, h3.max, h3.out⟩
  · obtain ⟨_, h1⟩ := hb1 h1
    obtain ⟨_, h2⟩ := hb1 h2
    exact h.mem.bb e e' _ _ h1 h2 h3
  · obtain ⟨_, h1⟩ := hb1 h1
    exact h.mem.br e e' _ q b cap h1 h2 h3
  · obtain ⟨o1, o2, o3⟩ := setCells_os (E.β d) vs off w
    refine ⟨o1.trans h.mem.low.os, o2.trans h.mem.low.tape, o3.trans h.mem.low.output, by rw [hsz]; exact h.mem.low.size, fun k hk' hx => ?_⟩
    refine (setCells_other _ _ _ _ _ ?_).trans (h.mem.low.block k hk' hx)
    rintro rfl
    rcases hnew with h1 | h1
    · omega
    · exact hx d h1
  · obtain ⟨h3, h4⟩ := h.mem.keep b o u h1 h2
    exact hk b o u h3 h4
  · obtain ⟨h1, h2⟩ := h.itr e z p he
    by_cases hv0 : vs = []
    · subst hv0; exact ⟨h1, h2⟩
    · refine ⟨(setCells_other _ _ _ _ _ ?_).trans h1, h2⟩
      intro hh
      rw [hh] at h1
      have hpos : 0 < vs.length := List.length_pos_iff.2 hv0
      obtain ⟨v, hv1, _⟩ := hbox.cell 0 (cs[0]'(by omega)) (List.getElem?_eq_getElem (by omega))
      simp [World.cell?, h1] at hv1
/-- What goes through a text is made. -/
theorem Sim.newI (h : Sim B s a w E) {d : Nat} (hf : Fresh s d) (z : ByteArray) : ∃ E', E'.ι d = w.heap.size ∧ Sim B (s.setI d (z, 0)) a (w.alloc (.stringIter z 0)) E' := by
  obtain ⟨hf1, hf2, hf3, hf4⟩ := hf
  have hb : Below w.heap.size w (w.alloc (.stringIter z 0)) := (Below.refl _ _).alloc (Nat.le_refl _) _
  let E' : Env := { E with ι := fun j => if j = d then w.heap.size else E.ι j }
  have hι : ∀ d', d' ≠ d → E'.ι d' = E.ι d' := fun d' hd' => by simp [E', hd']
  have hd : E'.ι d = w.heap.size := by simp [E']
  refine ⟨E', hd, ?_⟩
  have h' : Sim B s a (w.alloc (.stringIter z 0)) E' := by
    refine h.ext hb E' (fun _ _ h => h) (fun _ _ h => .inl h) (fun d' hd' => ⟨rfl, hι d' ?_⟩) (fun _ _ _ => rfl) (fun _ _ => ⟨rfl, rfl⟩)
    rintro rfl
    rcases hd' with hd' | ⟨cs', hd'⟩ | ⟨q, hd'⟩
    · exact hf1 hd'
    · rw [hf2] at hd'; cases hd'
    · rw [hf4] at hd'; cases hd'
  refine ⟨h'.defers, h'.size, h'.tmp, h'.mem, fun e y p he => ?_, fun e e' q q' h1 h2 h3 => ?_⟩
  · rcases setF_inv he with ⟨x1, x2⟩ | ⟨_, y1⟩
    · subst x1; cases x2; rw [hd]; exact ⟨heap_alloc_new _ _, h.mem.low.size⟩
    · exact h'.itr e y p y1
  · have key : ∀ e q, s.i e = some q → E'.ι e ≠ w.heap.size := fun e q he => by
      have hne : e ≠ d := by rintro rfl; rw [hf4] at he; cases he
      rw [hι e hne]
      have := (Array.getElem?_eq_some_iff.1 (h.itr e q.1 q.2 he).1).1; omega
    rcases setF_inv h1 with ⟨x1, _⟩ | ⟨_, y1⟩ <;> rcases setF_inv h2 with ⟨x2, _⟩ | ⟨_, y2⟩
    · rw [x1, x2]
    · rw [x1, hd] at h3; exact absurd h3.symm (key e' q' y2)
    · rw [x2, hd] at h3; exact absurd h3 (key e q y1)
    · exact h'.ii e e' q q' y1 y2 h3
/-- What goes through a text goes on. -/
theorem Sim.goI (h : Sim B s a w E) {d p p' : Nat} {z : ByteArray} (hd : s.i d = some (z, p)) : Sim B (s.setI d (z, p')) a { w with heap := w.heap.setIfInBounds (E.ι d) (.stringIter z p') } E := by
  obtain ⟨h0, h0'⟩ := h.itr d z p hd
  have hlt := (Array.getElem?_eq_some_iff.1 h0).1
  have hblk : ∀ k, k ≠ E.ι d → ({ w with heap := w.heap.setIfInBounds (E.ι d) (.stringIter z p') } : World).heap[k]? = w.heap[k]? := fun k hk => by
    simp [Array.getElem?_setIfInBounds_ne (Ne.symm hk)]
  have hnew : ({ w with heap := w.heap.setIfInBounds (E.ι d) (.stringIter z p') } : World).heap[E.ι d]? = some (.stringIter z p') := by simp [hlt]
  have hcell : ∀ b o, ({ w with heap := w.heap.setIfInBounds (E.ι d) (.stringIter z p') } : World).cell? ⟨b, o, none⟩ = w.cell? ⟨b, o, none⟩ := fun b o => by
    by_cases hb : b = E.ι d
    · subst hb; simp only [World.cell?, hnew, h0]
    · exact World.cell?_of_block (w := w) (a := ⟨b, o, none⟩) (hblk b hb)
  have hfz : ∀ b o, ({ w with heap := w.heap.setIfInBounds (E.ι d) (.stringIter z p') } : World).frozen? ⟨b, o, none⟩ = w.frozen? ⟨b, o, none⟩ := fun b o => by
    by_cases hb : b = E.ι d
    · subst hb; simp only [World.frozen?, hnew, h0]
    · exact World.frozen?_of_block (w := w) (a := ⟨b, o, none⟩) (hblk b hb)
  have hk : ∀ b o u, E.K b o → w.cell? ⟨b, o, none⟩ = some u → E.K b o ∧ ({ w with heap := w.heap.setIfInBounds (E.ι d) (.stringIter z p') } : World).cell? ⟨b, o, none⟩ = some u := fun b o u h1 h2 => ⟨h1, (hcell b o).trans h2⟩
  refine h.step rfl ⟨fun e cs he => ?_, fun e ty W n he => ?_, h.mem.bb, h.mem.br, h.mem.rr, fun b o hbo => by simpa using h.mem.lt b o hbo, ?_, fun b o u h1 h2 => ?_, h.mem.knew, h.mem.pas⟩ hk (fun _ _ => ⟨rfl, rfl⟩) (fun _ _ _ _ _ hd => .inl ⟨hd, rfl⟩) (fun e y q he => ?_) (fun e e' q q' h1 h2 h3 => ?_)
  · obtain ⟨h1, h2⟩ := h.mem.box e cs he
    refine ⟨⟨by simpa using h1.lt, (by obtain ⟨c, e', z', hc⟩ := h1.obj; exact ⟨c, e', z', (hblk _ (fun hh => by rw [hh, h0] at hc; cases hc)).trans hc⟩), fun o => (hfz _ _).trans (h1.fz o), fun j c hc => ?_, h1.out⟩, h2⟩
    obtain ⟨v, c1, c2, c3⟩ := h1.cell j c hc
    exact ⟨v, (hcell _ _).trans c1, c2, c3.mono hk (fun _ _ => ⟨rfl, rfl⟩) (fun _ _ _ _ _ hd => .inl ⟨hd, rfl⟩)⟩
  · rcases h.mem.row e ty W n he with h1 | ⟨b, cap, h1, h2, h3⟩
    · exact .inl h1
    · obtain ⟨cur, hc, hs⟩ := h3.cells
      have hne : b ≠ E.ι d := by rintro rfl; rw [h0] at hc; cases hc
      exact .inr ⟨b, cap, h1, h2, ⟨cur, (hblk b hne).trans hc, hs⟩, h3.le, h3.max, h3.out⟩
  · refine ⟨h.mem.low.os, h.mem.low.tape, h.mem.low.output, by simpa using h.mem.low.size, fun k hk' hx => ?_⟩
    exact (hblk k (by omega)).trans (h.mem.low.block k hk' hx)
  · obtain ⟨h3, h4⟩ := h.mem.keep b o u h1 h2
    exact hk b o u h3 h4
  · rcases setF_inv he with ⟨x1, x2⟩ | ⟨hne, y1⟩
    · subst x1; cases x2
      exact ⟨by simp [hlt], h0'⟩
    · obtain ⟨h1, h2⟩ := h.itr e y q y1
      exact ⟨(hblk _ (fun hh => hne (h.ii e d _ _ y1 hd hh))).trans h1, h2⟩
  · have hs1 : ∀ {e q}, (s.setI d (z, p')).i e = some q → ∃ q, s.i e = some q := fun {e q} h1 => by
      rcases setF_inv h1 with ⟨x1, _⟩ | ⟨_, y1⟩
      · subst x1; exact ⟨_, hd⟩
      · exact ⟨_, y1⟩
    obtain ⟨_, h1⟩ := hs1 h1
    obtain ⟨_, h2⟩ := hs1 h2
    exact h.ii e e' _ _ h1 h2 h3
end
end Go.Sh
