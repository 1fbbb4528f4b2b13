/- Sh: what a call is handed, and answers; slices as sources. No statement of the program is proved here. -/
import Derived.Test.YtdlolkogifigpaaDoorS5
set_option linter.unusedSimpArgs false
set_option linter.unusedVariables false
namespace Go.Sh
open Go Go.RowKit
set_option maxHeartbeats 2000000

/-- What is known of the package's variables. -/
structure Glob where
  G : World → Prop
  n : Nat
  st : ∀ w w', G w → (∀ k, k < n → w'.heap[k]? = w.heap[k]?) → G w'
  le : ∀ w, G w → n ≤ w.heap.size

def objB (os : List MO) (d : Nat) : Option (List TV) := if 1000 ≤ d then (match os[d - 1000]? with | some (.box cs) => some cs | _ => none) else none
def objR (os : List MO) : Rows := fun d => if 1000 ≤ d then (match os[d - 1000]? with | some (.row e W n) => some (e, W, n) | _ => none) else none
def objX (E : Env) (os : List MO) (d b : Nat) : Prop := (∃ cs, objB os d = some cs ∧ E.β d = b) ∨ (∃ q cap, objR os d = some q ∧ E.γ d = some (b, cap))
def start (w : World) (E : Env) (os : List MO) (N : Nat) : Base := ⟨w, E.K, objX E os, N, E, objR os, os.length⟩
/-- What a call leaves of what it was handed. -/
structure Left (E : Env) (os : List MO) (E' : Env) (os' : List MO) : Prop where
  beta : ∀ d, 1000 ≤ d → d < 1000 + os.length → E'.β d = E.β d
  gamma : ∀ d, 1000 ≤ d → d < 1000 + os.length → objR os d = none → E'.γ d = E.γ d
  row : ∀ d e W n, objR os d = some (e, W, n) → ∃ n', objR os' d = some (e, W, n') ∧ n ≤ n' ∧ (n = n' → E'.γ d = E.γ d)
def hasBody (P : Program) (f : Nat) : Prop := ∃ fn body, P.funcs[f]? = some fn ∧ fn.body = some body ∧ ¬ fn.name = "runtime.NumGoroutine"
/-- A call: handed values and memory it answers a value and memory, and leaves all else. -/
def SCalls (P : Program) (g : Glob) (f : Nat) (xs : List TV) (os : List MO) (y : TV) (os' : List MO) : Prop :=
  hasBody P f ∧ ∀ (w : World) (E : Env) (vs : List Value), g.G w → MSim (start w E os 0) (objB os) (objR os) w E → (∀ d b, objX E os d b → g.n ≤ b) → xs.length = vs.length →
    (∀ (j : Nat) x v, xs[j]? = some x → vs[j]? = some v → RelT w E (objR os) x v) →
    Calls P f vs.toArray w fun e w' => ∃ v E', e = .returned v ∧ MSim (start w E os 0) (objB os') (objR os') w' E' ∧ RelT w' E' (objR os') y v ∧ Left E os E' os'

section
variable {B : Base} {s : FS} {a : Act} {w w' : World} {E E' : Env} {r r' : Rows} {P : Program} {ρ : Nat → Option Nat}

structure RenOk (E : Env) (r : Rows) (ρ : Nat → Option Nat) (E' : Env) (r' : Rows) : Prop where
  at_ : ∀ d d', ρ d = some d' → E'.β d' = E.β d ∧ E'.γ d' = E.γ d ∧ ∀ q, r' d' = some q → r d = some q
theorem ren0_rel (hρ : RenOk E r ρ E' r') (hk : ∀ b o u, E.K b o → w.cell? ⟨b, o, none⟩ = some u → E'.K b o) {x y : TV} {v : Value} (h : RelT w E r x v) (hx : x.ren0 ρ = some y) : RelT w E' r' y v := by
  cases h with
  | pv h => simp only [TV.ren0] at hx; cases hx; exact .pv (h.mono fun b o u h1 h2 => ⟨hk b o u h1 h2, h2⟩)
  | unk v => simp only [TV.ren0] at hx; cases hx; exact .unk v
  | ptr d off =>
    simp only [TV.ren0] at hx
    obtain ⟨d', h1, rfl⟩ := Option.map_eq_some_iff.1 hx
    rw [← (hρ.at_ d d' h1).1]; exact .ptr d' off
  | own d W es v h hr =>
    simp only [TV.ren0] at hx; cases hx
    have h' : RelV w E'.K (.sl W es) v := h.mono fun b o u h1 h2 => ⟨hk b o u h1 h2, h2⟩
    split
    · rename_i d' h1
      refine .own d' W es v h' (fun e W' n hn => ?_)
      obtain ⟨_, h2, h3⟩ := hρ.at_ d d' h1
      rw [h2]; exact hr e W' n (h3 _ hn)
    · exact .pv h'
  | bs d off n c =>
    simp only [TV.ren0] at hx
    obtain ⟨d', h1, rfl⟩ := Option.map_eq_some_iff.1 hx
    rw [← (hρ.at_ d d' h1).1]; exact .bs d' off n c
  | _ => simp [TV.ren0] at hx
theorem seqR {f : TV → Option TV} (hf : ∀ x y v, RelT w E r x v → f x = some y → RelT w E' r' y v) {xs ys : List TV} {vs : List Value} (hl : xs.length = vs.length) (h : ∀ (j : Nat) c v, xs[j]? = some c → vs[j]? = some v → RelT w E r c v) (hs : seqO f xs = some ys) :
    ys.length = vs.length ∧ ∀ (j : Nat) c v, ys[j]? = some c → vs[j]? = some v → RelT w E' r' c v := by
  obtain ⟨h1, h2⟩ := seqO_spec hs
  refine ⟨by omega, fun j c v hc hv => ?_⟩
  have hj : j < xs.length := by rw [h1]; exact (List.getElem?_eq_some_iff.1 hc).1
  obtain ⟨z, hz1, hz2⟩ := h2 j xs[j] (List.getElem?_eq_getElem hj)
  rw [hc] at hz1; cases hz1
  exact hf _ _ _ (h j _ v (List.getElem?_eq_getElem hj) hv) hz2
theorem ren1_rel (hρ : RenOk E r ρ E' r') (hk : ∀ b o u, E.K b o → w.cell? ⟨b, o, none⟩ = some u → E'.K b o) {x y : TV} {v : Value} (h : RelT w E r x v) (hx : x.ren1 ρ = some y) : RelT w E' r' y v := by
  cases x with
  | fn f a b =>
    cases h with
    | fn g xs ys us vs h1 h2 r1 r2 =>
    simp only [TV.ren1] at hx
    split at hx
    · rename_i a' b' ha hb
      cases hx
      obtain ⟨l1, q1⟩ := seqR (fun _ _ _ => ren0_rel hρ hk) h1 r1 ha
      obtain ⟨l2, q2⟩ := seqR (fun _ _ _ => ren0_rel hρ hk) h2 r2 hb
      exact .fn f a' b' us vs l1 l2 q1 q2
    · cases hx
  | _ => exact ren0_rel hρ hk h hx
theorem ren2_rel (hρ : RenOk E r ρ E' r') (hk : ∀ b o u, E.K b o → w.cell? ⟨b, o, none⟩ = some u → E'.K b o) {x y : TV} {v : Value} (h : RelT w E r x v) (hx : x.ren2 ρ = some y) : RelT w E' r' y v := by
  cases x with
  | agg cs =>
    cases h with
    | agg cs vs hl h ho =>
    simp only [TV.ren2] at hx
    obtain ⟨l, h1, rfl⟩ := Option.map_eq_some_iff.1 hx
    obtain ⟨l1, q1⟩ := seqR (fun _ _ _ => ren1_rel hρ hk) hl h h1
    exact .agg l vs l1 q1 ho
  | _ => exact ren1_rel hρ hk h hx
theorem ren3_rel (hρ : RenOk E r ρ E' r') (hk : ∀ b o u, E.K b o → w.cell? ⟨b, o, none⟩ = some u → E'.K b o) {x y : TV} {v : Value} (h : RelT w E r x v) (hx : x.ren3 ρ = some y) : RelT w E' r' y v := by
  cases x with
  | tuple cs =>
    cases h with
    | tuple cs vs hl h =>
    simp only [TV.ren3] at hx
    obtain ⟨l, h1, rfl⟩ := Option.map_eq_some_iff.1 hx
    obtain ⟨l1, q1⟩ := seqR (fun _ _ _ => ren2_rel hρ hk) hl h h1
    exact .tuple l vs l1 q1
  | _ => exact ren2_rel hρ hk h hx

/-- What an operation that is no call does. -/
def Does (P : Program) (B : Base) (s' : FS) (x : TV) (a : Act) (w : World) (o : Oper) : Prop :=
  ∃ nx v w' E', (execOp a.eval o).run P w = .ok nx w' ∧ (nx = .value v ∨ (nx = .skip ∧ v = undef)) ∧ Sim B s' a w' E' ∧ RelT w' E' s'.r x v

theorem does_value (h : Sim B s a w E) {o : Oper} {x : TV} {v : Value} (hr : (execOp a.eval o).run P w = .ok (.value v) w) (hx : RelT w E s.r x v) : Does P B s x a w o := ⟨_, v, w, E, hr, .inl rfl, h, hx⟩
theorem scal_inv {m : Sem Value} {x : TV} {u : Upd} (h : scal P m = some (x, u)) : ∃ v, x = .pv (.v v) ∧ u = .no ∧ ∀ w, m.run P w = .ok v w := by
  simp only [scal] at h
  obtain ⟨v, h1, h2⟩ := Option.map_eq_some_iff.1 h
  cases h2
  exact ⟨v, rfl, rfl, fun w => pureRun_run h1 w⟩
theorem Sim.adopt (h : Sim B s a w E) {d : Nat} (hno : ¬ B.old d) (hf : Fresh s d) (e W : Nat) : ∃ E', E'.β = E.β ∧ E'.K = E.K ∧ E'.γ d = none ∧ Sim B (s.setR d (e, W, 0)) a w E' ∧ ∀ x v, ¬ Ment d x → RelT w E s.r x v → RelT w E' (s.setR d (e, W, 0)).r x v := by
  obtain ⟨hf1, hf2, hf3, _⟩ := hf
  let E' : Env := { E with γ := fun j => if j = d then none else E.γ j }
  have hm : ∀ x v, ¬ Ment d x → RelT w E s.r x v → RelT w E' (s.setR d (e, W, 0)).r x v := by
    intro x v hx hrel
    refine hrel.mono (fun b o u h1 h2 => ⟨h1, h2⟩) (fun _ _ => ⟨rfl, rfl⟩) (fun d' e' W' n hd' h1 => ?_)
    have hne : d' ≠ d := by rintro rfl; exact hx hd'
    simp only [FS.setR, setF_ne _ _ hne] at h1
    exact .inl ⟨h1, by simp [E', hne]⟩
  have hne : ∀ {d' : Nat} {q : Nat × Nat × Nat}, s.r d' = some q → d' ≠ d := by rintro d' q h1 rfl; rw [hf3] at h1; cases h1
  have hr' : ∀ {d' : Nat} {q : Nat × Nat × Nat}, (s.setR d (e, W, 0)).r d' = some q → (d' = d ∧ q = (e, W, 0)) ∨ s.r d' = some q := by
    intro d' q h1
    rcases setF_inv h1 with h2 | ⟨_, h2⟩
    · exact .inl h2
    · exact .inr h2
  have hg : E'.γ d = none := by simp [E']
  have hg' : ∀ {d' : Nat}, d' ≠ d → E'.γ d' = E.γ d' := fun hd => by simp [E', hd]
  refine ⟨E', rfl, rfl, hg, ⟨h.defers, h.size, fun k x hx => ⟨(h.tmp k x hx).1, hm _ _ (fun hd => hf1 (.inl ⟨k, x, hx, hd⟩)) (h.tmp k x hx).2⟩, ⟨fun d' cs hd => ?_, fun d' e' W' n hd => ?_, h.mem.bb, fun d1 d2 c q b cap h1 h2 h3 => ?_, fun d1 d2 q q' b c1 c2 h1 h2 h3 h4 => ?_, h.mem.lt, h.mem.low, h.mem.keep, h.mem.knew, ⟨h.mem.pas.β, fun d' ho h0 => by rw [hg' (fun e => hno (e ▸ ho))]; exact h.mem.pas.γ d' ho h0, fun d' e' W' n ho hd => ?_⟩⟩, h.itr, h.ii⟩, hm⟩
  · obtain ⟨h1, h2⟩ := h.mem.box d' cs hd
    refine ⟨⟨h1.lt, h1.obj, h1.fz, fun j c hc => ?_, h1.out⟩, h2⟩
    obtain ⟨v, c1, c2, c3⟩ := h1.cell j c hc
    exact ⟨v, c1, c2, hm _ _ (fun hd' => hf1 (.inr ⟨d', cs, c, hd, List.mem_of_getElem? hc, hd'⟩)) c3⟩
  · rcases hr' hd with ⟨rfl, h2⟩ | h1
    · cases h2; exact .inl ⟨hg, rfl⟩
    · rw [hg' (hne h1)]
      rcases h.mem.row d' e' W' n h1 with h2 | ⟨b, cap, h2, h3, h4⟩
      · exact .inl h2
      · exact .inr ⟨b, cap, h2, h3, h4.cells, h4.le, h4.max, h4.out⟩
  · rcases hr' h2 with ⟨rfl, _⟩ | h2
    · rw [hg] at h3; cases h3
    · rw [hg' (hne h2)] at h3; exact h.mem.br d1 d2 c q b cap h1 h2 h3
  · rcases hr' h1 with ⟨rfl, _⟩ | h1
    · rw [hg] at h3; cases h3
    · rcases hr' h2 with ⟨rfl, _⟩ | h2
      · rw [hg] at h4; cases h4
      · rw [hg' (hne h1)] at h3; rw [hg' (hne h2)] at h4
        exact h.mem.rr d1 d2 q q' b c1 c2 h1 h2 h3 h4
  · rcases hr' hd with ⟨rfl, _⟩ | h1
    · exact absurd ho hno
    · rw [hg' (hne h1)]; exact h.mem.pas.row d' e' W' n ho h1

/-- What a slice that is read holds, cell behind cell. -/
theorem news_of {W : Nat} {es : List (List PV)} {v : Value} (hW : 0 < W) (h : RelV w E.K (.sl W es) v) : ∃ (news : List Value) (f : Nat → Nat → Value), News w E.K W es news f ∧ news.length = es.length * W ∧ (∀ u ∈ news, one u) ∧
    ∃ p cap, v = .slice p es.length cap ∧ (es = [] ∨ ∃ ad, p = some ad ∧ ∀ (j : Nat) u, news[j]? = some u → w.cell? (ad.add j) = some u) := by
  obtain ⟨b, off, cap, p, f, rfl, hp, hcap, hmax, hWs, hc⟩ := relV_sl_inv h
  let news : List Value := (List.range (es.length * W)).map fun q => f (q / W) (q % W)
  have hget : ∀ (q : Nat) u, news[q]? = some u → q < es.length * W ∧ u = f (q / W) (q % W) ∧ ∃ cs c, es[q / W]? = some cs ∧ cs[q % W]? = some c := by
    intro q u hq
    have hlt : q < es.length * W := by have := (List.getElem?_eq_some_iff.1 hq).1; simpa [news] using this
    simp [news, hlt] at hq
    have hi : q / W < es.length := Nat.div_lt_of_lt_mul (by rw [Nat.mul_comm]; exact hlt)
    have hcl := hWs es[q / W] (List.getElem_mem hi)
    have hj : q % W < (es[q / W]).length := by rw [hcl]; exact Nat.mod_lt _ hW
    exact ⟨hlt, hq.symm, es[q / W], (es[q / W])[q % W], List.getElem?_eq_getElem hi, List.getElem?_eq_getElem hj⟩
  have hdm : ∀ q, q / W * W + q % W = q := fun q => by rw [Nat.mul_comm]; exact Nat.div_add_mod q W
  refine ⟨news, f, ⟨hWs, fun i j cs c h1 h2 => ?_⟩, by simp [news], fun u hu => ?_, p, cap, rfl, ?_⟩
  · have hi : i < es.length := (List.getElem?_eq_some_iff.1 h1).1
    have hj : j < W := by rw [← hWs cs (List.mem_of_getElem? h1)]; exact (List.getElem?_eq_some_iff.1 h2).1
    have hlt := idx_lt hi hj
    have e1 : (i * W + j) / W = i := by rw [Nat.mul_comm, Nat.mul_add_div hW, Nat.div_eq_of_lt hj, Nat.add_zero]
    have e2 : (i * W + j) % W = j := by rw [Nat.mul_comm, Nat.mul_add_mod, Nat.mod_eq_of_lt hj]
    obtain ⟨⟨_, _, h3⟩, h4⟩ := hc i j cs c h1 h2
    exact ⟨by simp [news, hlt, e1, e2], h3, h4⟩
  · obtain ⟨q, hq⟩ := List.getElem?_of_mem hu
    obtain ⟨_, rfl, cs, c, h1, h2⟩ := hget q u hq
    exact (hc _ _ cs c h1 h2).1.2.2
  · by_cases he : es = []
    · exact .inl he
    · refine .inr ⟨⟨b, off, none⟩, hp he, fun j u hu => ?_⟩
      obtain ⟨_, rfl, cs, c, h1, h2⟩ := hget j u hu
      rw [Addr.add_mid, show off + j = off + j / W * W + j % W by rw [Nat.add_assoc, hdm]]
      exact (hc _ _ cs c h1 h2).1.2.1
theorem src_of {W : Nat} {es : List (List PV)} {v : Value} (hW : 0 < W) (h : RelV w E.K (.sl W es) v) {tx e' : TypeId} (htx : P.underlying tx = some (.slice e')) : ∃ (news : List Value) (f : Nat → Nat → Value), News w E.K W es news f ∧ Src P W tx v es.length news w := by
  obtain ⟨news, f, h1, h2, h3, p, cap, rfl, h4⟩ := news_of hW h
  refine ⟨news, f, h1, ?_⟩
  rcases h4 with rfl | ⟨ad, rfl, h4⟩
  · have : news = [] := List.eq_nil_of_length_eq_zero (by simpa using h2)
    subst this
    cases p with
    | none => exact Src.ofNil w htx cap
    | some ad => exact Src.ofSlice w htx ad 0 cap [] (by simp) (by simp) (by simp)
  · exact Src.ofSlice w htx ad es.length cap news h2 h4 h3
theorem src_str {tx : TypeId} (b : ByteArray) (htx : P.underlying tx = some .string) : ∃ (news : List Value) (f : Nat → Nat → Value), News w E.K 1 (bytesP b) news f ∧ Src P 1 tx (.string b) (bytesP b).length news w := by
  have hl : (bytesP b).length = b.size := by unfold bytesP; rw [List.length_map, Array.length_toList]; rfl
  refine ⟨byteCells b, fun i _ => (byteCells b).getD i undef, ⟨fun cs hcs => ?_, fun i j cs c h1 h2 => ?_⟩, by rw [hl]; exact Src.ofString w htx b⟩
  · simp [bytesP] at hcs; obtain ⟨u, _, rfl⟩ := hcs; rfl
  · simp only [bytesP, List.getElem?_map] at h1
    obtain ⟨u, hu, rfl⟩ := Option.map_eq_some_iff.1 h1
    cases j with
    | succ j => simp at h2
    | zero =>
      simp at h2; subst h2
      have : (byteCells b)[i]? = some (.int .u8 u.toNat) := by simp only [byteCells, List.getElem?_map]; rw [hu]; rfl
      have hget : (byteCells b).getD i undef = .int .u8 u.toNat := by rw [List.getD_eq_getElem?_getD, this]; rfl
      rw [Nat.mul_one, Nat.add_zero, hget]
      exact ⟨this, rfl, .v _⟩
end
end Go.Sh
