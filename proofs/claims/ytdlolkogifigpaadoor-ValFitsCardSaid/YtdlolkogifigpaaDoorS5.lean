/- Sh: each operation on plain values is the operation. No statement of the program is proved here. -/
import Derived.Test.YtdlolkogifigpaaDoorS4
import Derived.Great.BuildSlice
set_option linter.unusedSimpArgs false
set_option linter.unusedVariables false
namespace Go.Sh
open Go Go.RowKit
set_option maxHeartbeats 1000000
section
variable {B : Base} {s : FS} {a : Act} {w w' : World} {E E' : Env} {r : Rows} {P : Program}

theorem arg_rel (h : Sim B s a w E) {x : Operand} {y : TV} (hx : (Arg.of x).get s = some y) : RelT w E s.r y (a.eval x) := by
  cases x with
  | tmp t => exact (h.tmp t y hx).2
  | const v => simp [Arg.of, Arg.get] at hx; subst hx; exact .pv (.v _)
  | global g => simp [Arg.of, Arg.get] at hx; subst hx; exact .pv (.v _)
  | func f => simp [Arg.of, Arg.get] at hx; subst hx; exact .pv (.v _)
theorem val1_rel {t : TV} {v y : Value} (h : RelT w E r t v) (hy : t.val1 = some y) : v = y := by
  cases h with
  | pv h => cases h with
    | v x => simpa [TV.val1] using hy
    | _ => simp [TV.val1] at hy
  | _ => simp [TV.val1] at hy
theorem val_rel {t : TV} {v y : Value} (h : RelT w E r t v) (hy : t.val = some y) : v = y := by
  cases t with
  | agg cs =>
    cases h with
    | agg cs vs hl h ho =>
      simp only [TV.val] at hy
      obtain ⟨l, h1, rfl⟩ := Option.map_eq_some_iff.1 hy
      obtain ⟨h2, h3⟩ := seqO_spec h1
      congr 2
      apply List.ext_getElem?
      intro i
      rcases Nat.lt_or_ge i cs.length with hi | hi
      · obtain ⟨y, hy1, hy2⟩ := h3 i cs[i] (List.getElem?_eq_getElem hi)
        rw [hy1, List.getElem?_eq_getElem (by omega)]
        rw [val1_rel (h i cs[i] (vs[i]'(by omega)) (List.getElem?_eq_getElem hi) (List.getElem?_eq_getElem (by omega))) hy2]
      · rw [List.getElem?_eq_none (by omega), List.getElem?_eq_none (by omega)]
  | _ => exact val1_rel h hy
theorem get_val (h : Sim B s a w E) {x : Operand} {y : Value} (hx : ((Arg.of x).get s).bind TV.val = some y) : a.eval x = y := by
  obtain ⟨t, h1, h2⟩ := Option.bind_eq_some_iff.1 hx
  exact val_rel (arg_rel h h1) h2

/-- Values and their cells, one by one. -/
structure RelL (w : World) (E : Env) (r : Rows) (cs : List TV) (vs : List Value) : Prop where
  len : cs.length = vs.length
  at_ : ∀ (j : Nat) c v, cs[j]? = some c → vs[j]? = some v → RelT w E r c v
  ones : ∀ v ∈ vs, one v
theorem cells_rel {t : TV} {v : Value} {cs : List TV} (h : RelT w E r t v) (hc : t.cells = some cs) : ∃ vs : List Value, v.cells = vs.toArray ∧ RelL w E r cs vs := by
  have one1 : ∀ (t : TV) (v : Value), RelT w E r t v → v.oneCell' = true → ∃ vs : List Value, v.cells = vs.toArray ∧ RelL w E r [t] vs := by
    intro t v h ho
    refine ⟨[v], ?_, ⟨rfl, fun j c u h1 h2 => ?_, fun u hu => ?_⟩⟩
    · cases v <;> first | rfl | cases ho
    · cases j with
      | zero => simp at h1 h2; subst h1; subst h2; exact h
      | succ j => simp at h1
    · simp at hu; subst hu; exact ho
  cases h with
  | pv h =>
    cases h with
    | v x =>
      simp only [TV.cells] at hc
      split at hc
      · rename_i ho; cases hc; exact one1 _ _ (.pv (.v _)) ho
      · cases hc
    | sl W es b off cap p f hp hcap hmax hW hc' hs =>
      simp only [TV.cells] at hc; cases hc
      exact one1 _ _ (.pv (.sl W es b off cap p f hp hcap hmax hW hc' hs)) rfl
    | el cs b off f h1 h2 => simp only [TV.cells] at hc; cases hc; exact one1 _ _ (.pv (.el cs b off f h1 h2)) rfl
    | fn g xs ys us vs h1 h2 r1 r2 => simp only [TV.cells] at hc; cases hc; exact one1 _ _ (.pv (.fn g xs ys us vs h1 h2 r1 r2)) rfl
  | unk v => simp [TV.cells] at hc
  | bs d off n c => simp only [TV.cells] at hc; cases hc; exact one1 _ _ (.bs d off n c) rfl
  | it d => simp only [TV.cells] at hc; cases hc; exact one1 _ _ (.it d) rfl
  | fn g xs ys us vs h1 h2 r1 r2 => simp only [TV.cells] at hc; cases hc; exact one1 _ _ (.fn g xs ys us vs h1 h2 r1 r2) rfl
  | ptr d off => simp only [TV.cells] at hc; cases hc; exact one1 _ _ (.ptr d off) rfl
  | own d W es v h1 h2 =>
    simp only [TV.cells] at hc; cases hc
    obtain ⟨_, _, _, _, _, rfl, _⟩ := relV_sl_inv h1
    exact one1 _ _ (.own d W es _ h1 h2) rfl
  | agg cs vs hl h ho => simp only [TV.cells] at hc; cases hc; exact ⟨vs, rfl, hl, h, ho⟩
  | tuple cs vs hl h => simp [TV.cells] at hc
theorem toPV_rel {t : TV} {v : Value} {p : PV} (h : RelT w E r t v) (hp : t.toPV = some p) : RelV w E.K p v := by
  cases h with
  | pv h => simp [TV.toPV] at hp; subst hp; exact h
  | own d W es v h1 h2 => simp [TV.toPV] at hp; subst hp; exact h1
  | _ => simp [TV.toPV] at hp
theorem pvs_rel {t : TV} {v : Value} {ps : List PV} (h : RelT w E r t v) (hp : t.pvs = some ps) : ∃ vs : List Value, v.cells = vs.toArray ∧ ps.length = vs.length ∧ (∀ (j : Nat) c u, ps[j]? = some c → vs[j]? = some u → RelV w E.K c u ∧ one u) := by
  obtain ⟨cs, h1, h2⟩ := Option.bind_eq_some_iff.1 hp
  obtain ⟨vs, h3, h4⟩ := cells_rel h h1
  obtain ⟨h5, h6⟩ := seqO_spec h2
  refine ⟨vs, h3, by rw [← h5, h4.len], fun j c u hc hu => ?_⟩
  have hj : j < cs.length := by rw [h5]; exact (List.getElem?_eq_some_iff.1 hc).1
  obtain ⟨y, hy1, hy2⟩ := h6 j cs[j] (List.getElem?_eq_getElem hj)
  rw [hc] at hy1; cases hy1
  exact ⟨toPV_rel (h4.at_ j _ u (List.getElem?_eq_getElem hj) hu) hy2, h4.ones u (List.mem_of_getElem? hu)⟩
theorem nil_elems {W : Nat} {es : List (List PV)} {v : Value} (he : TV.elems W (.pv (.v v)) = some es) : v = .slice none 0 0 ∧ es = [] := by
  unfold TV.elems at he
  split at he <;> simp_all
theorem elems_rel {t : TV} {v : Value} {W : Nat} {es : List (List PV)} (h : RelT w E r t v) (he : t.elems W = some es) : RelV w E.K (.sl W es) v := by
  cases t with
  | pv p =>
    cases p with
    | v x =>
      cases h with
      | pv h =>
      cases h
      obtain ⟨rfl, rfl⟩ := nil_elems he
      exact .sl W [] 0 0 0 none (fun _ _ => undef) (by simp) (by simp) (Nat.zero_le _) (by simp) (by simp) (by simp)
    | sl W' es' =>
      simp only [TV.elems] at he
      split at he
      · rename_i hw; obtain rfl := Nat.eq_of_beq_eq_true hw; cases he
        cases h with
        | pv h => exact h
      · cases he
    | el => simp [TV.elems] at he
    | fn => simp [TV.elems] at he
  | own d W' es' =>
    simp only [TV.elems] at he
    split at he
    · rename_i hw; obtain rfl := Nat.eq_of_beq_eq_true hw; cases he
      cases h with
      | own _ _ _ _ h1 h2 => exact h1
    · cases he
  | _ => simp [TV.elems] at he
theorem slen_rel {t : TV} {v : Value} {n : Nat} (h : RelT w E r t v) (he : t.slen = some n) : ∃ p c, v = .slice p n c := by
  cases h with
  | pv h =>
    cases h with
    | v =>
      cases v <;> simp [TV.slen] at he
      rename_i p m c
      subst he
      exact ⟨p, c, rfl⟩
    | sl W' es' b off cap p f hp hcap hmax hW hc' hs => simp [TV.slen] at he; subst he; exact ⟨p, cap, rfl⟩
    | _ => simp [TV.slen] at he
  | bs d off n' c => simp [TV.slen] at he; subst he; exact ⟨_, c, rfl⟩
  | own d W' es' v h1 h2 =>
    simp [TV.slen] at he
    obtain ⟨b, off, cap, p, f, rfl, _⟩ := relV_sl_inv h1
    subst he
    exact ⟨p, cap, rfl⟩
  | _ => simp [TV.slen] at he
theorem int_rel {t : TV} {v : Value} {i : Int} (h : RelT w E r t v) (he : t.int = some i) : ∃ k, v = .int k i := by
  cases h with
  | pv h =>
    cases h with
    | v => cases v <;> simp [TV.int] at he; subst he; exact ⟨_, rfl⟩
    | _ => simp [TV.int] at he
  | _ => simp [TV.int] at he
theorem str_rel {t : TV} {v : Value} {b : ByteArray} (h : RelT w E r t v) (he : t.str = some b) : v = .string b := by
  cases h with
  | pv h =>
    cases h with
    | v => cases v <;> simp [TV.str] at he; subst he; rfl
    | _ => simp [TV.str] at he
  | _ => simp [TV.str] at he

theorem RelL.splice {cs xs : List TV} {vs us : List Value} (h1 : RelL w E r cs vs) (h2 : RelL w E r xs us) {off : Nat} (hle : off + xs.length ≤ cs.length) : RelL w E r (splice cs off xs) (splice vs off us) := by
  have l1 := h1.len
  have l2 := h2.len
  refine ⟨by rw [splice_length hle, splice_length (by omega), l1], fun j c v hc hv => ?_, fun v hv => ?_⟩
  · by_cases hj : off ≤ j ∧ j < off + xs.length
    · rw [splice_in hle hj.1 hj.2] at hc
      rw [splice_in (by omega) hj.1 (by omega)] at hv
      exact h2.at_ _ _ _ hc hv
    · rw [splice_out hle (by omega)] at hc
      rw [splice_out (by omega) (by omega)] at hv
      exact h1.at_ _ _ _ hc hv
  · rcases mem_splice hv with h | h
    · exact h1.ones v h
    · exact h2.ones v h
theorem RelL.drop {cs : List TV} {vs : List Value} (h : RelL w E r cs vs) (k : Nat) : RelL w E r (cs.drop k) (vs.drop k) :=
  ⟨by simp [h.len], fun j c v hc hv => h.at_ (k + j) c v (by simpa using hc) (by simpa using hv), fun v hv => h.ones v (List.mem_of_mem_drop hv)⟩
theorem RelL.take {cs : List TV} {vs : List Value} (h : RelL w E r cs vs) (k : Nat) : RelL w E r (cs.take k) (vs.take k) :=
  ⟨by simp [h.len], fun j c v hc hv => by
    have hj : j < k := by have := (List.getElem?_eq_some_iff.1 hc).1; simp at this; omega
    exact h.at_ j c v (by simpa [hj] using hc) (by simpa [hj] using hv), fun v hv => h.ones v (List.mem_of_mem_take hv)⟩
theorem RelL.agg {cs : List TV} {vs : List Value} (h : RelL w E r cs vs) : RelT w E r (.agg cs) (.agg vs.toArray) := .agg cs vs h.len h.at_ h.ones
theorem RelL.ofVals {vs : List Value} (h : ∀ v ∈ vs, one v) : RelL w E r (vs.map fun v => .pv (.v v)) vs :=
  ⟨by simp, fun j c v hc hv => by simp [hv] at hc; subst hc; exact .pv (.v v), h⟩
theorem box_rel {b : Nat} {cs : List TV} (h : BoxAt w E r b cs) : ∃ vs : List Value, RelL w E r cs vs ∧ ∀ (j : Nat) v, vs[j]? = some v → w.cell? ⟨b, j, none⟩ = some v := by
  refine ⟨(List.range cs.length).map fun j => (w.cell? ⟨b, j, none⟩).getD undef, ⟨by simp, fun j c v hc hv => ?_, fun v hv => ?_⟩, fun j v hv => ?_⟩
  · obtain ⟨u, h1, h2, h3⟩ := h.cell j c hc
    have hj := (List.getElem?_eq_some_iff.1 hc).1
    simp [hj, h1] at hv; subst hv; exact h3
  · obtain ⟨j, hj, rfl⟩ := List.mem_map.1 hv
    have hj' : j < cs.length := by simpa using hj
    obtain ⟨u, h1, h2, h3⟩ := h.cell j cs[j] (List.getElem?_eq_getElem hj')
    simpa [h1] using h2
  · have hj : j < cs.length := by have := (List.getElem?_eq_some_iff.1 hv).1; simpa using this
    obtain ⟨u, h1, h2, h3⟩ := h.cell j cs[j] (List.getElem?_eq_getElem hj)
    simp [hj, h1] at hv; subst hv; exact h1

theorem foldSet : ∀ (vs : List Value) (off k : Nat) (cs : Array Value), off + k + vs.length ≤ cs.size → ((vs.zipIdx k).foldl (fun (cs : Array Value) (cj : Value × Nat) => cs.setIfInBounds (off + cj.2) cj.1) cs).toList = splice cs.toList (off + k) vs
  | [], off, k, cs, _ => by simp [splice]
  | v :: r, off, k, cs, h => by
    simp only [List.zipIdx_cons, List.foldl_cons]
    rw [foldSet r off (k + 1) _ (by simp at h ⊢; omega)]
    apply List.ext_getElem?
    intro j
    simp only [List.length_cons] at h
    have hl : cs.toList.length = cs.size := by simp
    have e1 : off + (k + 1) + r.length ≤ (cs.setIfInBounds (off + k) v).toList.length := by simp; omega
    have e2 : off + k + (v :: r).length ≤ cs.toList.length := by simp; omega
    by_cases h1 : j = off + k
    · subst h1
      rw [splice_out e1 (by omega), splice_in e2 (by omega) (by simp)]
      have hlt : off + k < cs.size := by omega
      simp [hlt]
    · by_cases h2 : off + (k + 1) ≤ j ∧ j < off + (k + 1) + r.length
      · rw [splice_in e1 h2.1 h2.2, splice_in e2 (by omega) (by simp; omega)]
        rw [show j - (off + k) = (j - (off + (k + 1))) + 1 by omega]
        simp
      · rw [splice_out e1 (by omega), splice_out e2 (by simp; omega)]
        rw [Array.toList_setIfInBounds, List.getElem?_set_ne (by omega)]
theorem fill_rel {place : Nat → Option (Nat × Nat)} : ∀ {parts : List (Nat × Value)} {ps : List (Nat × Nat × List TV)} {cs cs' : List TV} {vs : List Value}, RelL w E r cs vs → parts.length = ps.length →
    (∀ (j : Nat) p q, parts[j]? = some p → ps[j]? = some q → place p.1 = some (q.1, q.2.1) ∧ ∃ us : List Value, p.2.cells = us.toArray ∧ RelL w E r q.2.2 us) → fillT cs ps = some cs' →
    ∃ vs' : List Value, Instr.fill place vs.toArray parts = some vs'.toArray ∧ RelL w E r cs' vs'
  | [], ps, cs, cs', vs, h, hl, hp, hf => by
    cases ps with
    | nil => simp [fillT] at hf; subst hf; exact ⟨vs, rfl, h⟩
    | cons q qs => simp at hl
  | (i, v) :: parts, ps, cs, cs', vs, h, hl, hp, hf => by
    cases ps with
    | nil => simp at hl
    | cons q qs =>
      obtain ⟨off, size, xs⟩ := q
      simp only [fillT] at hf
      split at hf
      · rename_i hc
        obtain ⟨h1, us, h2, h3⟩ := hp 0 (i, v) (off, size, xs) rfl rfl
        dsimp only at h1 h2 h3
        have l1 := h.len
        have l2 := h3.len
        obtain ⟨vs', h4, h5⟩ := fill_rel (parts := parts) (place := place) (h.splice h3 (off := off) (by omega)) (by simpa using hl) (fun j p q hj1 hj2 => hp (j + 1) p q (by simpa using hj1) (by simpa using hj2)) hf
        refine ⟨vs', ?_, h5⟩
        simp only [Instr.fill, h1, h2]
        have hcond : (us.toArray.size ≠ size || off + us.toArray.size > vs.toArray.size) = false := by simp; omega
        rw [hcond]
        simp only [Bool.false_eq_true, if_false]
        have hfold := foldSet us off 0 vs.toArray (by simp; omega)
        simp only [Nat.add_zero] at hfold
        have : us.toArray.zipIdx.foldl (fun (cs : Array Value) (cj : Value × Nat) => cs.setIfInBounds (off + cj.2) cj.1) vs.toArray = (splice vs off us).toArray := by
          apply Array.ext'
          rw [← hfold]
          simp
        rw [← h4, ← this]
      · cases hf
end
end Go.Sh
