/- Sh: what a caller knows behind a call. No statement of the program is proved here. -/
import Derived.Test.YtdlolkogifigpaaDoorS7
set_option linter.unusedSimpArgs false
set_option linter.unusedVariables false
namespace Go.Sh
open Go Go.RowKit
set_option maxHeartbeats 2000000
section
variable {B : Base} {s : FS} {a : Act} {w w' : World} {E E' : Env} {P : Program} {I : List Nat}

/-- Where an own variable, an own slice may lie behind a call: in new memory, or where it lay. -/
def BoxWas (s : FS) (w : World) (E : Env) (i b : Nat) : Prop := w.heap.size ≤ b ∨ ∃ cs, s.b i = some cs ∧ E.β i = b
def RowWas (s : FS) (w : World) (E : Env) (i b : Nat) : Prop := w.heap.size ≤ b ∨ ∃ q cap, s.r i = some q ∧ E.γ i = some (b, cap)

theorem call_post (h : Sim B s a w E) (hI : I.Nodup) (hIm : ∀ i ∈ I, s.ment i) {k : Nat} (hm0 : B.m ≤ 1000) (hfr : ∀ q < 4, Fresh s (newId k q)) {os os' : List MO} (hos : seqO (fun d => (s.mo d).bind (MO.ren (rhoIn I))) I = some os)
    (hok : moOk os os' = true) {us : List (Nat × MO)} (hus : outs (rhoOut I k) 0 os' = some us) (hm : MSim (start w (envIn E I) os 0) (objB os') (objR os') w' E') (hl : Left (envIn E I) os E' os') (dst : Option Nat) :
    Sim B (s.upd dst (.mem us)) a w' (envOut E E' I k) ∧ RenOk E' (objR os') (rhoOut I k) (envOut E E' I k) (s.upd dst (.mem us)).r := by
  obtain ⟨hlen, hB, hR⟩ := handed hos
  obtain ⟨ok1, ok2, ok3, ok4⟩ := moOk_spec hok
  have hn : ∀ q < 4, newId k q ∉ I := fun q hq hmem => (hfr q hq).1 (hIm _ hmem)
  obtain ⟨o1, o2⟩ := outs_spec hus
  simp only [Nat.zero_add] at o1 o2
  -- names
  have hback : ∀ {d i}, rhoOut I k d = some i → backAt I k i = some d := fun hd => back_out hI hn hd
  have hL : ∀ {i m'}, us.lookup i = some m' → ∃ (q : Nat) (m : MO), os'[q]? = some m ∧ backAt I k i = some (1000 + q) ∧ rhoOut I k (1000 + q) = some i ∧ m.ren (rhoOut I k) = some m' := fun hi => by
    obtain ⟨q, m, a1, a2, a3⟩ := o1 _ _ hi
    exact ⟨q, m, a1, hback a2, a2, a3⟩
  have hposIn : ∀ {i}, i ∈ I → ∃ j, I[j]? = some i ∧ pos I i = some j ∧ backAt I k i = some (1000 + j) ∧ j < os.length := fun {i} hi => by
    obtain ⟨j, hj⟩ := List.getElem?_of_mem hi
    have hp := pos_get hI hj
    exact ⟨j, hj, hp, by simp [backAt, hp], by rw [← hlen]; exact (List.getElem?_eq_some_iff.1 hj).1⟩
  have hLin : ∀ {i}, i ∈ I → ∃ m', us.lookup i = some m' := fun {i} hi => by
    obtain ⟨j, h1, h2, h3, h4⟩ := hposIn hi
    obtain ⟨i', m', b1, b2, b3⟩ := o2 j _ (List.getElem?_eq_getElem (show j < os'.length by omega))
    have : rhoOut I k (1000 + j) = some i := (out_back h3).1
    rw [this] at b1; cases b1
    exact lookup_of_mem b3
  have hold : ∀ i, (∀ q < 4, i ≠ newId k q) → i ∉ I → backAt I k i = none := fun i h1 h2 => by
    unfold backAt
    cases hp : pos I i with
    | some j => exact absurd (List.mem_of_getElem? (pos_some hp)) h2
    | none =>
      cases hq : newAt k i with
      | none => rfl
      | some q => obtain ⟨e, hq⟩ := newAt_some hq; exact absurd e (h1 q hq)
  have hmold : ∀ {i}, s.ment i → ∀ q < 4, i ≠ newId k q := fun hi q hq e => (hfr q hq).1 (e ▸ hi)
  have hbold : ∀ {i cs}, s.b i = some cs → ∀ q < 4, i ≠ newId k q := fun hi q hq e => by have := (hfr q hq).2.1; rw [← e, hi] at this; cases this
  have hrold : ∀ {i x}, s.r i = some x → ∀ q < 4, i ≠ newId k q := fun hi q hq e => by have := (hfr q hq).2.2.1; rw [← e, hi] at this; cases this
  have hβ : ∀ {i}, (∀ q < 4, i ≠ newId k q) → (envOut E E' I k).β i = E.β i := fun {i} hi => by
    by_cases hmem : i ∈ I
    · obtain ⟨j, h1, h2, h3, h4⟩ := hposIn hmem
      simp only [envOut, h3]
      rw [hl.beta (1000 + j) (by omega) (by omega)]
      simp only [envIn]; rw [getD_of h1]
    · simp only [envOut, hold i hi hmem]
  have hγout : ∀ {i}, (∀ q < 4, i ≠ newId k q) → i ∉ I → (envOut E E' I k).γ i = E.γ i := fun {i} hi hmem => by simp only [envOut, hold i hi hmem]
  have hγin : ∀ {i j}, I[j]? = some i → (envIn E I).γ (1000 + j) = E.γ i := fun hj => by simp only [envIn]; rw [getD_of hj]
  have hβin : ∀ {i j}, I[j]? = some i → (envIn E I).β (1000 + j) = E.β i := fun hj => by simp only [envIn]; rw [getD_of hj]
  have hγbox : ∀ {i}, (∀ q < 4, i ≠ newId k q) → (∀ e W n, us.lookup i ≠ some (.row e W n)) → (envOut E E' I k).γ i = E.γ i := fun {i} hi hnr => by
    by_cases hmem : i ∈ I
    · obtain ⟨j, h1, h2, h3, h4⟩ := hposIn hmem
      obtain ⟨m', hm'⟩ := hLin hmem
      obtain ⟨q, m, a1, a2, a3, a4⟩ := hL hm'
      have hq : q = j := by rw [h3] at a2; have := Option.some.inj a2; omega
      subst hq
      have hrn : objR os (1000 + q) = none := by
        cases hx : objR os (1000 + q) with
        | none => rfl
        | some x =>
          obtain ⟨e, W, n⟩ := x
          obtain ⟨j', hj', hj2⟩ := objR_inv hx
          obtain rfl : q = j' := by omega
          obtain ⟨n', hn', _⟩ := ok4 q e W n hj2
          rw [hn'] at a1; cases a1
          simp only [MO.ren] at a4; cases a4
          exact absurd hm' (hnr _ _ _)
      simp only [envOut, h3]
      rw [hl.gamma (1000 + q) (by omega) (by omega) hrn]
      exact hγin h1
    · exact hγout hi hmem
  have hren : RenOk E' (objR os') (rhoOut I k) (envOut E E' I k) (s.upd dst (.mem us)).r := by
    refine ⟨fun d i hd => ?_⟩
    have hb := hback hd
    refine ⟨by simp only [envOut, hb], by simp only [envOut, hb], fun q hq => ?_⟩
    obtain ⟨e, W, n⟩ := q
    obtain ⟨j, rfl⟩ : ∃ j, d = 1000 + j := ⟨d - 1000, by have := (out_back hb).2; omega⟩
    simp only [FS.upd, memR] at hq
    split at hq
    · rename_i e' W' n' hlk
      cases hq
      obtain ⟨q, m, a1, a2, a3, a4⟩ := hL hlk
      rw [hb] at a2
      obtain rfl : j = q := by have := Option.some.inj a2; omega
      cases m with
      | box cs => simp only [MO.ren] at a4; obtain ⟨_, _, h6⟩ := Option.map_eq_some_iff.1 a4; cases h6
      | row e W n => simp only [MO.ren] at a4; cases a4; exact objR_eq a1
    · rename_i hnr
      exfalso
      by_cases hmem : i ∈ I
      · obtain ⟨j', h1, h2, h3, h4⟩ := hposIn hmem
        obtain ⟨m', hm'⟩ := hLin hmem
        obtain ⟨q, m, a1, a2, a3, a4⟩ := hL hm'
        obtain rfl : j' = q := by rw [h3] at a2; have := Option.some.inj a2; omega
        cases hx : os[j'] with
        | box cs =>
          obtain ⟨i', c, b1, b2, b3, b4⟩ := hB j' cs (by rw [← hx]; exact List.getElem?_eq_getElem h4)
          rw [h1] at b1; cases b1
          rw [b4] at hq; cases hq
        | row e0 W0 n0 =>
          obtain ⟨n', hn', _⟩ := ok4 j' e0 W0 n0 (by rw [← hx]; exact List.getElem?_eq_getElem h4)
          rw [hn'] at a1; cases a1
          simp only [MO.ren] at a4; cases a4
          exact hnr _ _ _ hm'
      · have hnew : ∃ q, q < 4 ∧ i = newId k q := by
          unfold backAt at hb
          cases hp : pos I i with
          | some j => exact absurd (List.mem_of_getElem? (pos_some hp)) hmem
          | none =>
            rw [hp] at hb
            obtain ⟨q, h1, _⟩ := Option.map_eq_some_iff.1 hb
            obtain ⟨e, hq'⟩ := newAt_some h1
            exact ⟨q, hq', e⟩
        obtain ⟨q, hq1, rfl⟩ := hnew
        rw [(hfr q hq1).2.2.1] at hq; cases hq
  refine ⟨?_, hren⟩
  have hk : ∀ b o u, E.K b o → w.cell? ⟨b, o, none⟩ = some u → (envOut E E' I k).K b o ∧ w'.cell? ⟨b, o, none⟩ = some u := hm.keep
  have hrr : ∀ d e W n, s.ment d → (s.upd dst (.mem us)).r d = some (e, W, n) → (s.r d = some (e, W, n) ∧ (envOut E E' I k).γ d = E.γ d) ∨ (∃ m, s.r d = some (e, W, m) ∧ m < n) := by
    intro d e W n hd hr
    simp only [FS.upd, memR] at hr
    split at hr
    · rename_i e' W' n' hlk
      cases hr
      obtain ⟨q, m, a1, a2, a3, a4⟩ := hL hlk
      have hmem : d ∈ I := by
        apply Classical.byContradiction
        intro hno
        rw [hold d (hmold hd) hno] at a2; cases a2
      obtain ⟨j, h1, h2, h3, h4⟩ := hposIn hmem
      obtain rfl : j = q := by rw [h3] at a2; have := Option.some.inj a2; omega
      cases m with
      | box cs => simp only [MO.ren] at a4; obtain ⟨_, _, h6⟩ := Option.map_eq_some_iff.1 a4; cases h6
      | row e1 W1 n1 =>
        simp only [MO.ren] at a4; cases a4
        cases hx : os[j] with
        | box cs =>
          obtain ⟨cs', hcs'⟩ := ok3 j cs (by rw [← hx]; exact List.getElem?_eq_getElem h4)
          rw [hcs'] at a1; cases a1
        | row e0 W0 n0 =>
          have hxo : os[j]? = some (.row e0 W0 n0) := by rw [← hx]; exact List.getElem?_eq_getElem h4
          obtain ⟨i', b1, b2, b3⟩ := hR j e0 W0 n0 hxo
          rw [h1] at b1; cases b1
          obtain ⟨n', c1, c2, c3⟩ := hl.row (1000 + j) e0 W0 n0 (objR_eq hxo)
          rw [objR_eq a1] at c1
          have c1' := Option.some.inj c1
          simp only [Prod.mk.injEq] at c1'
          obtain ⟨rfl, rfl, rfl⟩ := c1'
          rcases Nat.lt_or_ge n0 n with hlt | hge
          · exact .inr ⟨n0, b3, hlt⟩
          · obtain rfl : n0 = n := by omega
            refine .inl ⟨b3, ?_⟩
            simp only [envOut, h3]
            rw [c3 rfl]; exact hγin h1
    · rename_i hnr
      exact .inl ⟨hr, hγbox (hmold hd) (fun e W n => hnr e W n)⟩
  have hmono : ∀ {x : TV} {v : Value}, (∀ d, Ment d x → s.ment d) → RelT w E s.r x v → RelT w' (envOut E E' I k) (s.upd dst (.mem us)).r x v := fun hx hv =>
    hv.mono hk (fun d hd => ⟨hβ (hmold (hx d hd)), rfl⟩) (fun d e W n hd => hrr d e W n (hx d hd))
  -- blocks that were handed
  have hXbox : ∀ {d b}, objX (envIn E I) os d b → (∃ i cs, s.b i = some cs ∧ i ∈ I ∧ E.β i = b) ∨ (∃ i q cap, s.r i = some q ∧ i ∈ I ∧ s.b i = none ∧ E.γ i = some (b, cap)) := by
    intro d b hx
    rcases hx with ⟨cs, h1, h2⟩ | ⟨⟨e, W, n⟩, cap, h1, h2⟩
    · obtain ⟨j, rfl, hj⟩ := objB_inv h1
      obtain ⟨i, c, b1, b2, _⟩ := hB j cs hj
      exact .inl ⟨i, c, b2, List.mem_of_getElem? b1, by rw [← hβin b1]; exact h2⟩
    · obtain ⟨j, rfl, hj⟩ := objR_inv h1
      obtain ⟨i, b1, b2, b3⟩ := hR j e W n hj
      exact .inr ⟨i, _, cap, b3, List.mem_of_getElem? b1, b2, by rw [← hγin b1]; exact h2⟩
  have hrowlt : ∀ {i q b cap}, s.r i = some q → E.γ i = some (b, cap) → ∃ c e, w.heap[b]? = some (.cells c e (0, 0)) := by
    intro i q b cap h1 h2
    rcases h.mem.row i q.1 q.2.1 q.2.2 h1 with ⟨h3, _⟩ | ⟨b', c', h3, _, h5⟩
    · rw [h3] at h2; cases h2
    · rw [h3] at h2; cases h2
      obtain ⟨cur, hc, _⟩ := h5.cells
      exact ⟨cur, _, hc⟩
  have hboxsame : ∀ {i cs}, s.b i = some cs → i ∉ I → ∀ d, ¬ objX (envIn E I) os d (E.β i) := by
    intro i cs h1 h2 d hx
    rcases hXbox hx with ⟨i', c, b1, b2, b3⟩ | ⟨i', q, cap, b1, b2, _, b3⟩
    · have := h.mem.bb i' i _ _ b1 h1 b3; subst this; exact h2 b2
    · exact h.mem.br i i' _ _ _ cap h1 b1 b3 rfl
  have hrowsame : ∀ {i q b cap}, s.r i = some q → (i ∉ I ∨ ∃ cs, s.b i = some cs) → E.γ i = some (b, cap) → ∀ d, ¬ objX (envIn E I) os d b := by
    intro i q b cap h1 h2 h3 d hx
    rcases hXbox hx with ⟨i', c, b1, b2, b3⟩ | ⟨i', q', cap', b1, b2, b4, b3⟩
    · exact h.mem.br i' i _ _ _ cap b1 h1 h3 b3
    · have := h.mem.rr i i' _ _ _ _ _ h1 b1 h3 b3
      subst this
      rcases h2 with h2 | ⟨cs, h2⟩
      · exact h2 b2
      · rw [h2] at b4; cases b4
  -- own variables, own slices behind the call
  have hboxI : ∀ {i cs'}, (s.upd dst (.mem us)).b i = some cs' → (∃ (q : Nat) (c0 : List TV), os'[q]? = some (.box c0) ∧ rhoOut I k (1000 + q) = some i ∧ seqO (TV.ren1 (rhoOut I k)) c0 = some cs' ∧ (envOut E E' I k).β i = E'.β (1000 + q)) ∨ (s.b i = some cs' ∧ i ∉ I ∧ (envOut E E' I k).β i = E.β i) := by
    intro i cs' hi
    simp only [FS.upd, memB] at hi
    split at hi
    · rename_i c hlk
      cases hi
      obtain ⟨q, m, a1, a2, a3, a4⟩ := hL hlk
      cases m with
      | row e W n => simp [MO.ren] at a4
      | box c0 =>
        simp only [MO.ren] at a4
        obtain ⟨l, h6, h7⟩ := Option.map_eq_some_iff.1 a4
        cases h7
        exact .inl ⟨q, c0, a1, a3, h6, by simp only [envOut, a2]⟩
    · rename_i hnb
      refine .inr ⟨hi, fun hmem => ?_, hβ (hbold hi)⟩
      obtain ⟨m', hm'⟩ := hLin hmem
      obtain ⟨j, h1, h2, h3, h4⟩ := hposIn hmem
      obtain ⟨q, m, a1, a2, a3, a4⟩ := hL hm'
      obtain rfl : j = q := by rw [h3] at a2; have := Option.some.inj a2; omega
      cases hx : os[j] with
      | row e0 W0 n0 =>
        obtain ⟨i', b1, b2, b3⟩ := hR j e0 W0 n0 (by rw [← hx]; exact List.getElem?_eq_getElem h4)
        rw [h1] at b1; cases b1
        rw [hi] at b2; cases b2
      | box cs =>
        obtain ⟨cs2, hcs2⟩ := ok3 j cs (by rw [← hx]; exact List.getElem?_eq_getElem h4)
        rw [hcs2] at a1; cases a1
        simp only [MO.ren] at a4
        obtain ⟨l, h6, h7⟩ := Option.map_eq_some_iff.1 a4
        subst h7
        exact hnb _ hm'
  have hrowI : ∀ {i e W n}, (s.upd dst (.mem us)).r i = some (e, W, n) → (∃ q : Nat, os'[q]? = some (.row e W n) ∧ rhoOut I k (1000 + q) = some i ∧ (envOut E E' I k).γ i = E'.γ (1000 + q)) ∨ (s.r i = some (e, W, n) ∧ (i ∉ I ∨ ∃ cs, s.b i = some cs) ∧ (envOut E E' I k).γ i = E.γ i) := by
    intro i e W n hi
    simp only [FS.upd, memR] at hi
    split at hi
    · rename_i e' W' n' hlk
      cases hi
      obtain ⟨q, m, a1, a2, a3, a4⟩ := hL hlk
      cases m with
      | box c0 => simp only [MO.ren] at a4; obtain ⟨_, _, h6⟩ := Option.map_eq_some_iff.1 a4; cases h6
      | row e1 W1 n1 =>
        simp only [MO.ren] at a4; cases a4
        exact .inl ⟨q, a1, a3, by simp only [envOut, a2]⟩
    · rename_i hnr
      refine .inr ⟨hi, ?_, hγbox (hrold hi) (fun e W n => hnr e W n)⟩
      by_cases hmem : i ∈ I
      · right
        obtain ⟨m', hm'⟩ := hLin hmem
        obtain ⟨j, h1, h2, h3, h4⟩ := hposIn hmem
        obtain ⟨q, m, a1, a2, a3, a4⟩ := hL hm'
        obtain rfl : j = q := by rw [h3] at a2; have := Option.some.inj a2; omega
        cases hx : os[j] with
        | box cs =>
          obtain ⟨i', c, b1, b2, _⟩ := hB j cs (by rw [← hx]; exact List.getElem?_eq_getElem h4)
          rw [h1] at b1; cases b1
          exact ⟨c, b2⟩
        | row e0 W0 n0 =>
          obtain ⟨n', hn', _⟩ := ok4 j e0 W0 n0 (by rw [← hx]; exact List.getElem?_eq_getElem h4)
          rw [hn'] at a1; cases a1
          simp only [MO.ren] at a4; cases a4
          exact absurd hm' (hnr _ _ _)
      · exact .inl hmem
  have hboxW : ∀ {q : Nat} {c0 i}, os'[q]? = some (.box c0) → rhoOut I k (1000 + q) = some i → BoxWas s w E i (E'.β (1000 + q)) := by
    intro q c0 i h1 h2
    rcases (hm.box (1000 + q) c0 (objB_eq h1)).2 with h3 | h3
    · exact .inl h3
    · right
      rcases h3 with ⟨cs, h4, h5⟩ | ⟨⟨e, W, n⟩, cap, h4, h5⟩
      · obtain ⟨j, hj, hj2⟩ := objB_inv h4
        obtain rfl : q = j := by omega
        obtain ⟨i', c, b1, b2, _⟩ := hB q cs hj2
        have : backAt I k i' = some (1000 + q) := by simp [backAt, pos_get hI b1]
        have := (out_back this).1
        rw [h2] at this; cases this
        exact ⟨c, b2, by rw [← h5]; exact (hβin b1).symm⟩
      · obtain ⟨j, hj, hj2⟩ := objR_inv h4
        obtain rfl : q = j := by omega
        obtain ⟨n', hn', _⟩ := ok4 q e W n hj2
        rw [h1] at hn'; cases hn'
  have hrowW : ∀ {q e W n i b cap : Nat}, os'[q]? = some (.row e W n) → rhoOut I k (1000 + q) = some i → E'.γ (1000 + q) = some (b, cap) → RowWas s w E i b := by
    intro q e W n i b cap h1 h2 h0
    rcases hm.row (1000 + q) e W n (objR_eq h1) with ⟨h3, _⟩ | ⟨b', c', h3, h4, _⟩
    · rw [h3] at h0; cases h0
    · rw [h3] at h0; cases h0
      rcases h4 with h4 | h4
      · exact .inl h4
      · right
        rcases h4 with ⟨cs, h5, h6⟩ | ⟨⟨e1, W1, n1⟩, cap', h5, h6⟩
        · obtain ⟨j, hj, hj2⟩ := objB_inv h5
          obtain rfl : q = j := by omega
          obtain ⟨cs', hn'⟩ := ok3 q cs hj2
          rw [h1] at hn'; cases hn'
        · obtain ⟨j, hj, hj2⟩ := objR_inv h5
          obtain rfl : q = j := by omega
          obtain ⟨i', b1, b2, b3⟩ := hR q e1 W1 n1 hj2
          have : backAt I k i' = some (1000 + q) := by simp [backAt, pos_get hI b1]
          have := (out_back this).1
          rw [h2] at this; cases this
          exact ⟨_, cap', b3, by rw [← h6]; exact (hγin b1).symm⟩
  have hw0 := h.mem.low.size
  have hdd : ∀ {q q' i : Nat}, rhoOut I k (1000 + q) = some i → rhoOut I k (1000 + q') = some i → q = q' := fun h1 h2 => by
    have a1 := hback h1
    rw [hback h2] at a1; have := Option.some.inj a1; omega
  have hoold : ∀ {d}, B.old d → ∀ q < 4, d ≠ newId k q := fun ho q hq e => by have := ho.2; unfold newId at e; omega
  have hXlow : ∀ {d b}, objX (envIn E I) os d b → B.w0.heap.size ≤ b ∨ ∃ d, B.X d b := by
    intro d b hx
    rcases hXbox hx with ⟨i', c, b1, b2, b3⟩ | ⟨i', q, cap, b1, b2, _, b3⟩
    · rcases (h.mem.box i' c b1).2 with h1 | h1
      · rw [b3] at h1; exact .inl h1
      · rw [b3] at h1; exact .inr ⟨_, h1⟩
    · rcases h.mem.row i' q.1 q.2.1 q.2.2 b1 with ⟨h3, _⟩ | ⟨b', c', h3, h4, _⟩
      · rw [h3] at b3; cases b3
      · rw [h3] at b3; cases b3
        rcases h4 with h4 | h4
        · exact .inl h4
        · exact .inr ⟨_, h4⟩
  refine h.step rfl ⟨fun i cs' hi => ?_, fun i e W n hi => ?_, fun i i' cs cs' e1 e2 e3 => ?_, fun i i' cs q b cap e1 e2 e3 => ?_, fun i i' q q' b cap cap' e1 e2 e3 e4 => ?_, hm.lt, ?_, fun b o u h1 h2 => ?_, fun b o h1 => ?_, ⟨fun d ho => (hβ (hoold ho)).trans (h.mem.pas.β d ho), fun d ho h0 => ?_, fun d e W n ho hd => ?_⟩⟩ hk (fun d hd => ⟨hβ (hmold hd), rfl⟩) (fun d e W n hd => hrr d e W n hd) (fun d z p hd => ?_) h.ii
  · rcases hboxI hi with ⟨q, c0, a1, a2, a3, a4⟩ | ⟨a1, a2, a3⟩
    · rw [a4]
      obtain ⟨b1, b2⟩ := hm.box (1000 + q) c0 (objB_eq a1)
      refine ⟨⟨b1.lt, b1.obj, b1.fz, fun j c hc => ?_, b1.out⟩, ?_⟩
      · obtain ⟨l1, l2⟩ := seqO_spec a3
        have hj : j < c0.length := by rw [l1]; exact (List.getElem?_eq_some_iff.1 hc).1
        obtain ⟨z, z1, z2⟩ := l2 j c0[j] (List.getElem?_eq_getElem hj)
        rw [hc] at z1; cases z1
        obtain ⟨v, c1, c2, c3⟩ := b1.cell j c0[j] (List.getElem?_eq_getElem hj)
        exact ⟨v, c1, c2, ren1_rel hren (fun _ _ _ h _ => h) c3 z2⟩
      · rcases hboxW a1 a2 with h1 | ⟨cs, h1, h2⟩
        · exact .inl (by omega)
        · rw [← h2]; exact (h.mem.box i cs h1).2
    · rw [a3]
      obtain ⟨b1, b2⟩ := h.mem.box i cs' a1
      have hsame : w'.heap[E.β i]? = w.heap[E.β i]? := hm.low.block _ b1.lt (hboxsame a1 a2)
      refine ⟨⟨Nat.lt_of_lt_of_le b1.lt hm.low.size, by rw [hsame]; exact b1.obj, fun o => (World.frozen?_of_block (w := w) (a := ⟨E.β i, o, none⟩) hsame).trans (b1.fz o), fun j c hc => ?_, fun o ho => ?_⟩, b2⟩
      · obtain ⟨v, c1, c2, c3⟩ := b1.cell j c hc
        exact ⟨v, (World.cell?_of_block (w := w) (a := ⟨E.β i, j, none⟩) hsame).trans c1, c2, hmono (fun d hd => .inr ⟨i, cs', c, a1, List.mem_of_getElem? hc, hd⟩) c3⟩
      · rcases hm.knew _ _ ho with h1 | h1 | ⟨d, h1⟩
        · exact b1.out o h1
        · have := b1.lt; have h1 : w.heap.size ≤ E.β i := h1; omega
        · exact hboxsame a1 a2 d h1
  · rcases hrowI hi with ⟨q, a1, a2, a3⟩ | ⟨a1, a2, a3⟩
    · rw [a3]
      rcases hm.row (1000 + q) e W n (objR_eq a1) with h1 | ⟨b, cap, h1, h2, h3⟩
      · exact .inl h1
      · refine .inr ⟨b, cap, h1, ?_, h3.cells, h3.le, h3.max, h3.out⟩
        rcases hrowW a1 a2 h1 with h4 | ⟨q0, cap0, h4, h5⟩
        · exact .inl (by omega)
        · rcases h.mem.row i q0.1 q0.2.1 q0.2.2 h4 with ⟨h6, _⟩ | ⟨b', c', h6, h7, _⟩
          · rw [h6] at h5; cases h5
          · rw [h6] at h5; cases h5; exact h7
    · rw [a3]
      rcases h.mem.row i e W n a1 with h1 | ⟨b, cap, h1, h2, h3⟩
      · exact .inl h1
      · obtain ⟨cur, hc, hs⟩ := h3.cells
        have hlt := (Array.getElem?_eq_some_iff.1 hc).1
        have hX := hrowsame a1 a2 h1
        refine .inr ⟨b, cap, h1, h2, ⟨cur, (hm.low.block b hlt hX).trans hc, hs⟩, h3.le, h3.max, fun o ho => ?_⟩
        rcases hm.knew _ _ ho with h4 | h4 | ⟨d, h4⟩
        · exact h3.out o h4
        · have h4 : w.heap.size ≤ b := h4; omega
        · exact absurd h4 (hX d)
  · rcases hboxI e1 with ⟨q, c0, a1, a2, a3, a4⟩ | ⟨a1, a2, a3⟩ <;> rcases hboxI e2 with ⟨q', c0', b1, b2, b3, b4⟩ | ⟨b1, b2, b3⟩
    · rw [a4, b4] at e3
      have := hm.bb _ _ _ _ (objB_eq a1) (objB_eq b1) e3
      obtain rfl : q = q' := by omega
      rw [a2] at b2; exact Option.some.inj b2
    · rw [a4, b3] at e3
      have := (h.mem.box i' _ b1).1.lt
      rcases hboxW a1 a2 with h1 | ⟨c, h1, h2⟩
      · omega
      · exact h.mem.bb i i' _ _ h1 b1 (h2.trans e3)
    · rw [a3, b4] at e3
      have := (h.mem.box i _ a1).1.lt
      rcases hboxW b1 b2 with h1 | ⟨c, h1, h2⟩
      · omega
      · exact h.mem.bb i i' _ _ a1 h1 (e3.trans h2.symm)
    · rw [a3, b3] at e3
      exact h.mem.bb i i' _ _ a1 b1 e3
  · obtain ⟨e, W, n⟩ := q
    rcases hboxI e1 with ⟨q, c0, a1, a2, a3, a4⟩ | ⟨a1, a2, a3⟩ <;> rcases hrowI e2 with ⟨q', b1, b2, b3⟩ | ⟨b1, b2, b3⟩
    · rw [a4]; rw [b3] at e3
      exact hm.br _ _ _ _ b cap (objB_eq a1) (objR_eq b1) e3
    · rw [a4]; rw [b3] at e3
      obtain ⟨c, e', hc⟩ := hrowlt b1 e3
      have := (Array.getElem?_eq_some_iff.1 hc).1
      rcases hboxW a1 a2 with h1 | ⟨c, h1, h2⟩
      · omega
      · rw [← h2]; exact h.mem.br i i' _ _ b cap h1 b1 e3
    · rw [a3]; rw [b3] at e3
      have := (h.mem.box i _ a1).1.lt
      rcases hrowW b1 b2 e3 with h1 | ⟨q0, cap0, h1, h2⟩
      · omega
      · exact h.mem.br i i' _ _ b cap0 a1 h1 h2
    · rw [a3]; rw [b3] at e3
      exact h.mem.br i i' _ _ b cap a1 b1 e3
  · obtain ⟨e, W, n⟩ := q
    obtain ⟨e', W', n'⟩ := q'
    rcases hrowI e1 with ⟨q, a1, a2, a3⟩ | ⟨a1, a2, a3⟩ <;> rcases hrowI e2 with ⟨q', b1, b2, b3⟩ | ⟨b1, b2, b3⟩
    · rw [a3] at e3; rw [b3] at e4
      have := hm.rr _ _ _ _ b cap cap' (objR_eq a1) (objR_eq b1) e3 e4
      obtain rfl : q = q' := by omega
      rw [a2] at b2; exact Option.some.inj b2
    · rw [a3] at e3; rw [b3] at e4
      obtain ⟨c, e', hc⟩ := hrowlt b1 e4
      have := (Array.getElem?_eq_some_iff.1 hc).1
      rcases hrowW a1 a2 e3 with h1 | ⟨q0, cap0, h1, h2⟩
      · omega
      · exact h.mem.rr i i' _ _ b cap0 cap' h1 b1 h2 e4
    · rw [a3] at e3; rw [b3] at e4
      obtain ⟨c, e', hc⟩ := hrowlt a1 e3
      have := (Array.getElem?_eq_some_iff.1 hc).1
      rcases hrowW b1 b2 e4 with h1 | ⟨q0, cap0, h1, h2⟩
      · omega
      · exact h.mem.rr i i' _ _ b cap cap0 a1 h1 e3 h2
    · rw [a3] at e3; rw [b3] at e4
      exact h.mem.rr i i' _ _ b cap cap' a1 b1 e3 e4
  · refine ⟨hm.low.os.trans h.mem.low.os, hm.low.tape.trans h.mem.low.tape, hm.low.output.trans h.mem.low.output, Nat.le_trans hw0 hm.low.size, fun b hb hx => ?_⟩
    refine (hm.low.block b (Nat.lt_of_lt_of_le hb hw0) (fun d hd => ?_)).trans (h.mem.low.block b hb hx)
    rcases hXlow hd with h1 | ⟨d', h1⟩
    · omega
    · exact hx d' h1
  · obtain ⟨h3, h4⟩ := h.mem.keep b o u h1 h2
    exact hm.keep b o u h3 h4
  · rcases hm.knew b o h1 with h2 | h2 | ⟨d, h2⟩
    · exact h.mem.knew b o h2
    · exact .inr (.inl (Nat.le_trans hw0 h2))
    · rcases hXlow h2 with h3 | h3
      · exact .inr (.inl h3)
      · exact .inr (.inr h3)
  · refine (hγbox (hoold ho) (fun e W n hlk => ?_)).trans (h.mem.pas.γ d ho h0)
    obtain ⟨q, m, a1, a2, a3, a4⟩ := hL hlk
    have hmem : d ∈ I := by
      apply Classical.byContradiction
      intro hno
      rw [hold d (hoold ho) hno] at a2; cases a2
    obtain ⟨j, h1, h2, h3, h4⟩ := hposIn hmem
    obtain rfl : j = q := by rw [h3] at a2; have := Option.some.inj a2; omega
    cases m with
    | box cs => simp only [MO.ren] at a4; obtain ⟨_, _, h6⟩ := Option.map_eq_some_iff.1 a4; cases h6
    | row e1 W1 n1 =>
      cases hx : os[j] with
      | box cs =>
        obtain ⟨cs', hcs'⟩ := ok3 j cs (by rw [← hx]; exact List.getElem?_eq_getElem h4)
        rw [hcs'] at a1; cases a1
      | row e0 W0 n0 =>
        obtain ⟨i', b1, b2, b3⟩ := hR j e0 W0 n0 (by rw [← hx]; exact List.getElem?_eq_getElem h4)
        rw [h1] at b1; cases b1
        obtain ⟨n2, c1, _⟩ := h.mem.pas.row d e0 W0 n0 ho b3
        rw [h0] at c1; cases c1
  · rcases hrowI hd with ⟨q, a1, a2, a3⟩ | ⟨a1, a2, a3⟩
    · have hb := hback a2
      have hmem : d ∈ I := by
        apply Classical.byContradiction
        intro hno
        rw [hold d (hoold ho) hno] at hb; cases hb
      obtain ⟨j, h1, h2, h3, h4⟩ := hposIn hmem
      obtain rfl : j = q := by rw [h3] at hb; have := Option.some.inj hb; omega
      cases hx : os[j] with
      | box cs =>
        obtain ⟨cs', hcs'⟩ := ok3 j cs (by rw [← hx]; exact List.getElem?_eq_getElem h4)
        rw [hcs'] at a1; cases a1
      | row e0 W0 n0 =>
        have hxo : os[j]? = some (.row e0 W0 n0) := by rw [← hx]; exact List.getElem?_eq_getElem h4
        obtain ⟨i', b1, b2, b3⟩ := hR j e0 W0 n0 hxo
        rw [h1] at b1; cases b1
        obtain ⟨n', c1, c2, c3⟩ := hl.row (1000 + j) e0 W0 n0 (objR_eq hxo)
        rw [objR_eq a1] at c1
        have c1' := Option.some.inj c1
        simp only [Prod.mk.injEq] at c1'
        obtain ⟨rfl, rfl, rfl⟩ := c1'
        obtain ⟨n2, d1, d2, d3⟩ := h.mem.pas.row d e W n0 ho b3
        refine ⟨n2, d1, by omega, fun he => ?_⟩
        have e1 : n2 = n0 := by omega
        have e2 : n0 = n := by omega
        rw [a3, c3 e2, hγin h1]; exact d3 e1
    · rw [a3]; exact h.mem.pas.row d e W n ho a1
  · obtain ⟨h1, h2⟩ := h.itr d z p hd
    refine ⟨(hm.low.block _ (Array.getElem?_eq_some_iff.1 h1).1 (fun d' hx => ?_)).trans h1, h2⟩
    rcases hXbox hx with ⟨i', c, b1, b2, b3⟩ | ⟨i', q, cap, b1, b2, _, b3⟩
    · obtain ⟨c', e', z', ho⟩ := (h.mem.box i' c b1).1.obj
      rw [b3, h1] at ho; cases ho
    · obtain ⟨c', e', hc⟩ := hrowlt b1 b3
      rw [h1] at hc; cases hc
end
end Go.Sh
