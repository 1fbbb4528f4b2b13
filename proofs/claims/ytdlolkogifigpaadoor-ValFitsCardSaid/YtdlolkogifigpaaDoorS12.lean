/- Sh: regions: what an operation looks at, and turns. No statement of the program is proved here. -/
import Derived.Test.YtdlolkogifigpaaDoorS11
set_option linter.unusedSimpArgs false
set_option linter.unusedVariables false
namespace Go.Sh
open Go Go.RowKit
set_option maxHeartbeats 4000000

structure SOper where
  dst : Option Nat
  guard : Option (Nat × Bool)
  fp : Option Nat
  op : SOp

def readsL (xs : List Arg) : List Nat := xs.flatMap Arg.reads
def readsO (x : Option Arg) : List Nat := match x with | some x => x.reads | none => []
def SOp.reads : SOp → List Nat
  | .mov x | .un _ x | .cvi _ x | .cvs x | .b2s x | .slen x | .box x | .fld _ _ _ x | .fldA _ x | .ld _ _ x | .len x | .ext x _ | .nchk x | .rng x | .nxt x | .mks _ _ x => x.reads
  | .pick c a b => c.reads ++ a.reads ++ b.reads
  | .bin _ _ x y | .imm _ x y | .sidx x y | .st _ x y | .idxA _ x y | .app _ _ _ x y | .appS _ _ x y | .appN _ _ _ x y | .appNS _ _ x y => x.reads ++ y.reads
  | .bsl _ xs | .call _ _ xs => readsL xs
  | .callv x _ xs => x.reads ++ readsL xs
  | .mkf _ a b => readsL a ++ readsL b
  | .ssub x lo hi | .sub _ x lo hi => x.reads ++ readsO lo ++ readsO hi
  | .new _ => []
  | .build _ ps => readsL (ps.map (·.2.2))
def SOper.reads (o : SOper) : List Nat := (match o.guard with | some (g, _) => [g] | none => []) ++ o.op.reads
/-- An operation looks at own variables; turns some; looks at own slices; at what goes through texts. -/
def SOp.rb : SOp → Bool
  | .ld .. | .st .. => true
  | .call _ m _ | .callv _ m _ => !Nat.beq m 0
  | _ => false
def SOp.wb : SOp → Bool
  | .st .. => true
  | .call _ m _ | .callv _ m _ => !Nat.beq m 0
  | _ => false
def SOp.wr : SOp → Bool
  | .app .. | .appS .. => true
  | .call _ m _ | .callv _ m _ => !Nat.beq m 0
  | _ => false
def SOp.wi : SOp → Bool
  | .nxt .. => true
  | _ => false
/-- The one own variable that an operation looks at, or turns. -/
def SOp.foot (s : FS) : SOp → Option Nat
  | .ld _ _ x | .st _ x _ => match x.get s with | some (.ptr d _) => some d | _ => none
  | _ => none
theorem wb_rb {o : SOp} (h : o.wb = true) : o.rb = true := by cases o <;> first | exact h | cases h | rfl

section
variable {P : Program} {C : Oracle} {s s' : FS} {dst : Option Nat} {d : Nat}

theorem get_congr {x : Arg} (h : ∀ k ∈ x.reads, s'.t k = s.t k) : x.get s' = x.get s := by
  cases x with
  | tmp t => exact h t (by simp [Arg.reads])
  | val v => rfl
theorem getL_congr {α : Type} {xs : List Arg} (h : ∀ k ∈ readsL xs, s'.t k = s.t k) (f : TV → Option α) : seqO (fun x : Arg => (x.get s').bind f) xs = seqO (fun x : Arg => (x.get s).bind f) xs :=
  seqO_congr fun x hx => by rw [get_congr fun k hk => h k (List.mem_flatMap.2 ⟨x, hx, hk⟩)]
theorem getl_congr {xs : List Arg} (h : ∀ k ∈ readsL xs, s'.t k = s.t k) : seqO (fun x : Arg => x.get s') xs = seqO (fun x : Arg => x.get s) xs :=
  seqO_congr fun x hx => get_congr fun k hk => h k (List.mem_flatMap.2 ⟨x, hx, hk⟩)
theorem bound_congr {x : Option Arg} (h : ∀ k ∈ readsO x, s'.t k = s.t k) (n : Nat) : bound s' n x = bound s n x := by
  cases x with
  | none => rfl
  | some x => simp only [bound]; rw [get_congr h]
theorem reach_congr {rows : Bool} (hb : ∀ d, s.ment d → s'.b d = s.b d) (hr : ∀ d, s.ment d → s'.r d = s.r d) : ∀ (n : Nat) (l seen : List Nat), (∀ d ∈ l, s.ment d) → reach s' rows n l seen = reach s rows n l seen
  | 0, _, _, _ => by simp only [reach]
  | n + 1, [], _, _ => by simp only [reach]
  | n + 1, d :: l, seen, h => by
    have hd := h d (List.mem_cons_self ..)
    have hl : ∀ x ∈ l, s.ment x := fun x hx => h x (List.mem_cons_of_mem _ hx)
    simp only [reach, hb d hd, hr d hd]
    split
    · exact reach_congr hb hr n l seen hl
    · split
      · rename_i cs hcs
        refine reach_congr hb hr n _ _ (fun x hx => ?_)
        rcases List.mem_append.1 hx with hx | hx
        · obtain ⟨c, hc, hx⟩ := List.mem_flatMap.1 hx
          exact .inr ⟨d, cs, c, hcs, hc, ids1_ment hx⟩
        · exact hl x hx
      · split
        · exact reach_congr hb hr n l _ hl
        · exact reach_congr hb hr n l seen hl
theorem callEff_congr {k f mode : Nat} {xs : List TV} (hm : ∀ x ∈ xs, ∀ d, Ment d x → s.ment d) (hb : (!Nat.beq mode 0) = true → ∀ d, s.ment d → s'.b d = s.b d) (hr : (!Nat.beq mode 0) = true → ∀ d, s.ment d → s'.r d = s.r d) : callEff C s' k f mode xs = callEff C s k f mode xs := by
  unfold callEff
  cases h0 : Nat.beq mode 0 with
  | true => simp [seqO]
  | false =>
    simp only [h0, Bool.not_false, forall_const] at hb hr
    have hids : ∀ d ∈ xs.flatMap TV.ids2, s.ment d := fun d hd => by
      obtain ⟨x, hx, hd⟩ := List.mem_flatMap.1 hd
      exact hm x hx d (ids2_ment hd)
    have e1 := reach_congr (rows := Nat.beq mode 2) hb hr 64 (xs.flatMap TV.ids2) [] hids
    have e2 := (reach_spec (s := s) (rows := Nat.beq mode 2) 64 (xs.flatMap TV.ids2) [] (by simp) (by simp) hids).2
    simp only [Bool.false_eq_true, if_false, e1]
    have e3 : seqO (fun d => (s'.mo d).bind (MO.ren (rhoIn (reach s (Nat.beq mode 2) 64 (xs.flatMap TV.ids2) [])))) (reach s (Nat.beq mode 2) 64 (xs.flatMap TV.ids2) []) = seqO (fun d => (s.mo d).bind (MO.ren (rhoIn (reach s (Nat.beq mode 2) 64 (xs.flatMap TV.ids2) [])))) (reach s (Nat.beq mode 2) 64 (xs.flatMap TV.ids2) []) :=
      seqO_congr fun x hx => by unfold FS.mo; rw [hb x (e2 x hx), hr x (e2 x hx)]
    rw [e3]
theorem seq_ment {xs : List Arg} {ts : List TV} (h : seqO (fun x : Arg => x.get s) xs = some ts) : ∀ x ∈ ts, ∀ d, Ment d x → s.ment d := by
  intro x hx d hd
  obtain ⟨l1, h1⟩ := seqO_spec h
  obtain ⟨j, hj⟩ := List.getElem?_of_mem hx
  have hjl : j < xs.length := by rw [l1]; exact (List.getElem?_eq_some_iff.1 hj).1
  obtain ⟨y, hy1, hy2⟩ := h1 j xs[j] (List.getElem?_eq_getElem hjl)
  rw [hj] at hy1; cases hy1
  exact get_ment hy2 hd
theorem callee_ment {t : TV} {f : Nat} {fa fb : List TV} (ht : t.callee = some (f, fa, fb)) : ∀ x, (x ∈ fa ∨ x ∈ fb) → ∀ d, Ment d x → Ment d t := by
  unfold TV.callee at ht
  split at ht
  · cases ht; exact fun x hx d hd => hx.elim (fun hx => .fn1 hx hd) (fun hx => .fn2 hx hd)
  · cases ht
    intro x hx d hd
    rcases hx with hx | hx
    · obtain ⟨p, _, rfl⟩ := List.mem_map.1 hx; cases hd
    · obtain ⟨p, _, rfl⟩ := List.mem_map.1 hx; cases hd
  · cases ht; simp
  · cases ht
theorem callv_ment {x : Arg} {t : TV} {f : Nat} {fa fb vs : List TV} {xs : List Arg} (h1 : (x.get s).bind TV.callee = some (f, fa, fb)) (h2 : seqO (fun x : Arg => x.get s) xs = some vs) : ∀ y ∈ fa ++ vs ++ fb, ∀ d, Ment d y → s.ment d := by
  obtain ⟨tc, hc1, hc2⟩ := Option.bind_eq_some_iff.1 h1
  intro y hy d hd
  rcases List.mem_append.1 hy with hy | hy
  · rcases List.mem_append.1 hy with hy | hy
    · exact get_ment hc1 (callee_ment hc2 y (.inl hy) d hd)
    · exact seq_ment h2 y hy d hd
  · exact get_ment hc1 (callee_ment hc2 y (.inr hy) d hd)

theorem eff_congr {o : SOp} (h : ∀ k ∈ o.reads, s'.t k = s.t k) (hb : o.rb = true → ∀ d, s.ment d → (∀ k, o.foot s = some k → d = k) → s'.b d = s.b d) (hr : o.wr = true → ∀ d, s.ment d → s'.r d = s.r d) (hi : o.wi = true → ∀ d, s.ment d → s'.i d = s.i d) : eff P C dst o s' = eff P C dst o s := by
  cases o with
  | mov x | un _ x | cvi _ x | cvs x | b2s x | slen x | box x | fld _ _ _ x | fldA _ x | len x | ext x _ | nchk x | rng x | mks _ _ x => simp only [eff, get_congr (x := x) h]
  | pick c a b =>
    simp only [SOp.reads, List.mem_append] at h
    have e1 := get_congr (x := c) fun k hk => h k (.inl (.inl hk))
    have e2 := get_congr (x := a) fun k hk => h k (.inl (.inr hk))
    have e3 := get_congr (x := b) fun k hk => h k (.inr hk)
    simp only [eff, e1]
    split
    · rename_i t _; cases t <;> simp [e2, e3]
    · rfl
  | bin _ _ x y | imm _ x y | sidx x y | idxA _ x y | appN _ _ _ x y | appNS _ _ x y =>
    simp only [SOp.reads, List.mem_append] at h
    have e1 := get_congr (x := x) fun k hk => h k (.inl hk)
    have e2 := get_congr (x := y) fun k hk => h k (.inr hk)
    simp only [eff, e1, e2]
  | bsl _ xs => simp only [eff, getL_congr h]
  | mkf _ a b =>
    simp only [SOp.reads, List.mem_append] at h
    simp only [eff, getl_congr (xs := a) fun k hk => h k (.inl hk), getl_congr (xs := b) fun k hk => h k (.inr hk)]
  | call f m xs =>
    simp only [eff, getl_congr (xs := xs) h]
    cases hx : seqO (fun x : Arg => x.get s) xs with
    | none => rfl
    | some vs => simp only [Option.bind_some]; exact callEff_congr (seq_ment hx) (fun h0 d hd => hb h0 d hd (fun k hk => by cases hk)) hr
  | callv x m xs =>
    simp only [SOp.reads, List.mem_append] at h
    have e1 := get_congr (x := x) fun k hk => h k (.inl hk)
    simp only [eff, e1, getl_congr (xs := xs) fun k hk => h k (.inr hk)]
    split
    · rename_i f fa fb vs h1 h2
      exact callEff_congr (callv_ment (t := .unk) h1 h2) (fun h0 d hd => hb h0 d hd (fun k hk => by cases hk)) hr
    · rfl
  | ssub x lo up | sub _ x lo up =>
    simp only [SOp.reads, List.mem_append] at h
    have e1 := get_congr (x := x) fun k hk => h k (.inl (.inl hk))
    simp only [eff, e1, bound_congr (x := lo) fun k hk => h k (.inl (.inr hk)), bound_congr (x := up) fun k hk => h k (.inr hk)]
  | new _ => rfl
  | build z ps =>
    have : partsT s' ps = partsT s ps := seqO_congr fun p hp => by
      rw [get_congr fun k hk => h k (List.mem_flatMap.2 ⟨p.2.2, List.mem_map.2 ⟨p, hp, rfl⟩, hk⟩)]
    simp only [eff, this]
  | ld a n x =>
    have e1 := get_congr (x := x) h
    simp only [eff, e1]
    split
    · rename_i d off hx
      rw [hb rfl d (get_ment hx (.ptr _)) (fun k hk => by simp only [SOp.foot, hx] at hk; exact Option.some.inj hk)]
    · rfl
    · rfl
  | st n x y =>
    simp only [SOp.reads, List.mem_append] at h
    have e1 := get_congr (x := x) fun k hk => h k (.inl hk)
    have e2 := get_congr (x := y) fun k hk => h k (.inr hk)
    simp only [eff, e1, e2]
    split
    · rename_i d off hx
      rw [hb rfl d (get_ment hx (.ptr _)) (fun k hk => by simp only [SOp.foot, hx] at hk; exact Option.some.inj hk)]
    · rfl
  | nxt x =>
    have e1 := get_congr (x := x) h
    simp only [eff, e1]
    split
    · rename_i d hx
      rw [hi rfl d (get_ment hx .it)]
    · rfl
  | app e W b x y =>
    simp only [SOp.reads, List.mem_append] at h
    have e1 := get_congr (x := x) fun k hk => h k (.inl hk)
    have e2 := get_congr (x := y) fun k hk => h k (.inr hk)
    simp only [eff, e1, e2]
    split
    · rename_i d W' es es2 hx _
      rw [hr rfl d (get_ment hx (.own _ _))]
    · rfl
  | appS e b x y =>
    simp only [SOp.reads, List.mem_append] at h
    have e1 := get_congr (x := x) fun k hk => h k (.inl hk)
    have e2 := get_congr (x := y) fun k hk => h k (.inr hk)
    simp only [eff, e1, e2]
    split
    · rename_i d W' es es2 hx _
      rw [hr rfl d (get_ment hx (.own _ _))]
    · rfl

/-- What is turned of own variables, own slices, what goes through texts. -/
def ovB (dst : Option Nat) : Upd → Nat → Option (List TV)
  | .box cs, d => if dst = some d then some cs else none
  | .wr e cs, d => if d = e then some cs else none
  | .mem us, d => match us.lookup d with | some (.box cs) => some cs | _ => none
  | _, _ => none
def ovR : Upd → Nat → Option (Nat × Nat × Nat)
  | .row e q, d => if d = e then some q else none
  | .mem us, d => match us.lookup d with | some (.row e W n) => some (e, W, n) | _ => none
  | _, _ => none
def ovI : Upd → Nat → Option (ByteArray × Nat)
  | .it e q, d => if d = e then some q else none
  | _, _ => none
theorem upd_b (u : Upd) : (s.upd dst u).b d = match ovB dst u d with | some cs => some cs | none => s.b d := by
  cases u with
  | box cs =>
    cases dst with
    | none => rfl
    | some e => simp only [FS.upd, FS.setB, setF, ovB, Option.some.injEq]; by_cases h : d = e <;> simp [h, Ne.symm, eq_comm]
  | wr e cs => simp only [FS.upd, FS.setB, setF, ovB]; split <;> rfl
  | mem us =>
    simp only [FS.upd, memB, ovB]
    cases us.lookup d with
    | none => rfl
    | some m => cases m <;> rfl
  | _ => rfl
theorem upd_r (u : Upd) : (s.upd dst u).r d = match ovR u d with | some q => some q | none => s.r d := by
  cases u with
  | row e q => simp only [FS.upd, FS.setR, setF, ovR]; split <;> rfl
  | mem us =>
    simp only [FS.upd, memR, ovR]
    cases us.lookup d with
    | none => rfl
    | some m => cases m <;> rfl
  | box cs => cases dst <;> rfl
  | _ => rfl
theorem upd_i (u : Upd) : (s.upd dst u).i d = match ovI u d with | some q => some q | none => s.i d := by
  cases u with
  | it e q => simp only [FS.upd, FS.setI, setF, ovI]; split <;> rfl
  | box cs => cases dst <;> rfl
  | _ => rfl
theorem upd_t (u : Upd) : (s.upd dst u).t = s.t := by cases u <;> first | rfl | (cases dst <;> rfl)
theorem put_t {k : Nat} {x : TV} : (s.put dst x).t k = if dst = some k then some x else s.t k := by
  cases dst with
  | none => simp [FS.put]
  | some d =>
    simp only [FS.put, FS.setT, setF, Option.some.injEq]
    by_cases h : k = d
    · simp [h]
    · simp [h, Ne.symm h]
theorem put_b {x : TV} : (s.put dst x).b = s.b := by cases dst <;> rfl
theorem put_r {x : TV} : (s.put dst x).r = s.r := by cases dst <;> rfl
theorem put_i {x : TV} : (s.put dst x).i = s.i := by cases dst <;> rfl

/-- What an operation's turns are: of what it makes, or of what is spoken of. -/
structure Shape (s : FS) (dst : Option Nat) (o : SOp) (x : TV) (u : Upd) : Prop where
  b : ∀ d cs, ovB dst u d = some cs → d ∈ o.news dst ∨ (o.wb = true ∧ s.ment d ∧ ∀ k, o.foot s = some k → d = k)
  r : ∀ d q, ovR u d = some q → d ∈ o.news dst ∨ (o.wr = true ∧ s.ment d)
  i : ∀ d q, ovI u d = some q → d ∈ o.news dst ∨ (o.wi = true ∧ s.ment d)
  x : ∀ d, Ment d x → s.ment d ∨ d ∈ o.news dst
  m : ∀ d e cs c, ovB dst u e = some cs → c ∈ cs → Ment d c → s.ment d ∨ d ∈ o.news dst
theorem Shape.no {o : SOp} {x : TV} (h : ∀ d, Ment d x → s.ment d ∨ d ∈ o.news dst) : Shape s dst o x .no :=
  ⟨fun _ _ h => (by cases h), fun _ _ h => (by cases h), fun _ _ h => (by cases h), h, fun _ _ _ _ h => (by cases h)⟩
theorem map_shape {α : Type} {o : SOp} {q : Option α} {f : α → TV} {x : TV} {u : Upd} (h : q.map (fun v => (f v, Upd.no)) = some (x, u)) (hx : ∀ v, q = some v → ∀ d, Ment d (f v) → s.ment d ∨ d ∈ o.news dst) : Shape s dst o x u := by
  obtain ⟨v, h1, h⟩ := Option.map_eq_some_iff.1 h
  cases h
  exact .no (hx v h1)
theorem scal_shape {o : SOp} {m : Sem Value} {x : TV} {u : Upd} (h : scal P m = some (x, u)) : Shape s dst o x u := by
  obtain ⟨v, rfl, rfl, _⟩ := scal_inv h
  exact .no (fun d hd => by cases hd)
theorem pv_no {p : PV} {A : Prop} (h : Ment d (.pv p)) : A := by cases h
theorem argCells_ment {x : Arg} {c : TV} {cs : List TV} (h : (x.get s).bind TV.cells = some cs) (hc : c ∈ cs) (hm : Ment d c) : s.ment d := by
  obtain ⟨t, h1, h2⟩ := Option.bind_eq_some_iff.1 h
  exact get_ment h1 (cells_ment h2 hc hm)
theorem fillT_mem {c : TV} : ∀ {ps : List (Nat × Nat × List TV)} {cs cs' : List TV}, fillT cs ps = some cs' → c ∈ cs' → c ∈ cs ∨ ∃ p ∈ ps, c ∈ p.2.2
  | [], cs, cs', h, hc => by simp [fillT] at h; subst h; exact .inl hc
  | (off, size, xs) :: ps, cs, cs', h, hc => by
    simp only [fillT] at h
    split at h
    · rcases fillT_mem h hc with h1 | ⟨p, hp, h1⟩
      · rcases mem_splice h1 with h2 | h2
        · exact .inl h2
        · exact .inr ⟨_, List.mem_cons_self .., h2⟩
      · exact .inr ⟨p, List.mem_cons_of_mem _ hp, h1⟩
    · cases h
theorem ren0_ment {ρ : Nat → Option Nat} {t y : TV} (h : t.ren0 ρ = some y) (hm : Ment d y) : ∃ d', ρ d' = some d := by
  cases t <;> simp only [TV.ren0] at h
  · cases h; cases hm
  · cases h; cases hm
  · obtain ⟨d', h1, rfl⟩ := Option.map_eq_some_iff.1 h; cases hm; exact ⟨_, h1⟩
  · cases h
    split at hm
    · rename_i d' h1; cases hm; exact ⟨_, h1⟩
    · cases hm
  · obtain ⟨d', h1, rfl⟩ := Option.map_eq_some_iff.1 h; cases hm; exact ⟨_, h1⟩
  all_goals cases h
theorem seq_ren_ment {ρ : Nat → Option Nat} {f : TV → Option TV} (hf : ∀ t y, f t = some y → Ment d y → ∃ d', ρ d' = some d) {xs ys : List TV} (h : seqO f xs = some ys) {c : TV} (hc : c ∈ ys) (hm : Ment d c) : ∃ d', ρ d' = some d := by
  obtain ⟨l1, h1⟩ := seqO_spec h
  obtain ⟨j, hj⟩ := List.getElem?_of_mem hc
  have hjl : j < xs.length := by rw [l1]; exact (List.getElem?_eq_some_iff.1 hj).1
  obtain ⟨y, hy1, hy2⟩ := h1 j xs[j] (List.getElem?_eq_getElem hjl)
  rw [hj] at hy1; cases hy1
  exact hf _ _ hy2 hm
theorem ren1_ment {ρ : Nat → Option Nat} {t y : TV} (h : t.ren1 ρ = some y) (hm : Ment d y) : ∃ d', ρ d' = some d := by
  cases t with
  | fn f a b =>
    simp only [TV.ren1] at h
    split at h
    · rename_i a' b' h1 h2
      cases h
      cases hm with
      | fn1 hc hm => exact seq_ren_ment (fun _ _ => ren0_ment) h1 hc hm
      | fn2 hc hm => exact seq_ren_ment (fun _ _ => ren0_ment) h2 hc hm
    · cases h
  | _ => simp only [TV.ren1] at h; exact ren0_ment h hm
theorem ren2_ment {ρ : Nat → Option Nat} {t y : TV} (h : t.ren2 ρ = some y) (hm : Ment d y) : ∃ d', ρ d' = some d := by
  cases t with
  | agg cs =>
    simp only [TV.ren2] at h
    obtain ⟨l, h1, rfl⟩ := Option.map_eq_some_iff.1 h
    cases hm with
    | agg hc hm => exact seq_ren_ment (fun _ _ => ren1_ment) h1 hc hm
  | _ => simp only [TV.ren2] at h; exact ren1_ment h hm
theorem ren3_ment {ρ : Nat → Option Nat} {t y : TV} (h : t.ren3 ρ = some y) (hm : Ment d y) : ∃ d', ρ d' = some d := by
  cases t with
  | tuple cs =>
    simp only [TV.ren3] at h
    obtain ⟨l, h1, rfl⟩ := Option.map_eq_some_iff.1 h
    cases hm with
    | tuple hc hm => exact seq_ren_ment (fun _ _ => ren2_ment) h1 hc hm
  | _ => simp only [TV.ren3] at h; exact ren2_ment h hm
theorem rhoOut_inv {I : List Nat} {k d d' : Nat} (h : rhoOut I k d' = some d) : d ∈ I ∨ ∃ q, q < 4 ∧ d = newId k q := by
  unfold rhoOut at h
  split at h
  · split at h
    · rename_i i hi; cases h; exact .inl (List.mem_of_getElem? hi)
    · split at h
      · rename_i hq; rw [Nat.blt_eq] at hq; cases h; exact .inr ⟨_, hq, rfl⟩
      · cases h
  · cases h
theorem call_shape {k f mode : Nat} {xs : List TV} {x : TV} {u : Upd} {o : SOp} (hm : ∀ x ∈ xs, ∀ d, Ment d x → s.ment d) (hk : k = dstId dst) (hnews : o.news dst = [newId k 0, newId k 1, newId k 2, newId k 3]) (hwb : o.wb = !Nat.beq mode 0) (hwr : o.wr = !Nat.beq mode 0) (hft : o.foot s = none) (h : callEff C s k f mode xs = some (x, u)) : Shape s dst o x u := by
  obtain ⟨xs', os, y, os', us, h1, h2, h3, h4, h5, h6, rfl⟩ := callEff_inv h
  obtain ⟨hI, hIm⟩ := handI_spec (s := s) mode hm
  have key : ∀ d d', rhoOut (handI s mode xs) k d' = some d → d ∈ o.news dst ∨ ((!Nat.beq mode 0) = true ∧ s.ment d) := by
    intro d d' hd
    rcases rhoOut_inv hd with h | ⟨q, hq, rfl⟩
    · right
      refine ⟨?_, hIm d h⟩
      cases h0 : Nat.beq mode 0 with
      | false => rfl
      | true => simp [handI, h0] at h
    · left
      rw [hnews]
      match q, hq with
      | 0, _ => simp
      | 1, _ => simp
      | 2, _ => simp
      | 3, _ => simp
  have key' : ∀ d d', rhoOut (handI s mode xs) k d' = some d → s.ment d ∨ d ∈ o.news dst := fun d d' hd => (key d d' hd).elim .inr (fun h => .inl h.2)
  have hlk : ∀ i m, us.lookup i = some m → ∃ d' m0, rhoOut (handI s mode xs) k d' = some i ∧ MO.ren (rhoOut (handI s mode xs) k) m0 = some m := fun i m hi => by
    obtain ⟨q, m0, _, a2, a3⟩ := (outs_spec h6).1 i m hi
    exact ⟨_, m0, a2, a3⟩
  refine ⟨fun d cs hd => ?_, fun d q hd => ?_, fun d q hd => (by cases hd), fun d hd => ?_, fun d e cs c he hc hd => ?_⟩
  · simp only [ovB] at hd
    split at hd
    · rename_i hl
      obtain ⟨d', m0, a1, _⟩ := hlk _ _ hl
      rw [hwb]; exact (key d d' a1).imp id (fun h => ⟨h.1, h.2, fun k hk => by rw [hft] at hk; cases hk⟩)
    · cases hd
  · simp only [ovR] at hd
    split at hd
    · rename_i hl
      obtain ⟨d', m0, a1, _⟩ := hlk _ _ hl
      rw [hwr]; exact key d d' a1
    · cases hd
  · obtain ⟨d', a1⟩ := ren3_ment h5 hd
    exact key' d d' a1
  · simp only [ovB] at he
    split at he
    · rename_i hl
      cases he
      obtain ⟨d', m0, _, a2⟩ := hlk _ _ hl
      cases m0 with
      | row e W n => simp [MO.ren] at a2
      | box c0 =>
        simp only [MO.ren] at a2
        obtain ⟨l, a3, a4⟩ := Option.map_eq_some_iff.1 a2
        cases a4
        obtain ⟨d', a5⟩ := seq_ren_ment (ρ := rhoOut (handI s mode xs) k) (f := TV.ren1 (rhoOut (handI s mode xs) k)) (fun _ _ h1 h2 => ren1_ment h1 h2) a3 hc hd
        exact key' d d' a5
    · cases he
theorem eff_shape {o : SOp} {x : TV} {u : Upd} (h : eff P C dst o s = some (x, u)) : Shape s dst o x u := by
  cases o with
  | mov y => exact map_shape (f := fun c => c) h (fun v hv d hd => .inl (get_ment hv hd))
  | pick c y z =>
    simp only [eff] at h
    split at h
    · exact map_shape (f := fun c => c) h (fun v hv d hd => .inl (get_ment hv hd))
    · cases h
  | bin op t a b =>
    simp only [eff] at h
    split at h
    · cases h
    · exact scal_shape h
    · cases h
  | un op a =>
    simp only [eff] at h
    split at h
    · exact scal_shape h
    · cases h
  | cvi k a => exact map_shape h (fun v hv d hd => by cases hd)
  | cvs a => exact map_shape h (fun v hv d hd => by cases hd)
  | b2s a => exact map_shape h (fun v hv d hd => by cases hd)
  | slen a => exact map_shape h (fun v hv d hd => by cases hd)
  | len a => exact map_shape h (fun v hv d hd => by cases hd)
  | imm mx a b =>
    simp only [eff] at h
    split at h
    · cases h; exact .no (fun d hd => by cases hd)
    · cases h
  | sidx a b =>
    simp only [eff] at h
    split at h
    · split at h
      · exact map_shape h (fun v hv d hd => by cases hd)
      · cases h
    · cases h
  | ssub a b c =>
    simp only [eff] at h
    split at h
    · split at h
      · split at h
        · cases h; exact .no (fun d hd => by cases hd)
        · cases h
      · cases h
    · cases h
  | new z =>
    simp only [eff] at h
    split at h
    · cases h
      refine ⟨fun d cs hd => ?_, fun _ _ h => (by cases h), fun _ _ h => (by cases h), fun d hd => ?_, fun d e cs c he hc hd => ?_⟩
      · simp only [ovB] at hd
        split at hd
        · rename_i e; cases e; exact .inl (by simp [SOp.news])
        · cases hd
      · cases hd; exact .inr (by simp [SOp.news])
      · simp only [ovB] at he
        split at he
        · cases he
          obtain ⟨v, _, rfl⟩ := List.mem_map.1 hc
          cases hd
        · cases he
    · cases h
  | box y =>
    simp only [eff] at h
    split at h
    · obtain ⟨cs', h1, h2⟩ := Option.map_eq_some_iff.1 h
      cases h2
      refine ⟨fun d cs hd => ?_, fun _ _ h => (by cases h), fun _ _ h => (by cases h), fun d hd => ?_, fun d e cs c he hc hd => ?_⟩
      · simp only [ovB] at hd
        split at hd
        · rename_i e; cases e; exact .inl (by simp [SOp.news])
        · cases hd
      · cases hd; exact .inr (by simp [SOp.news])
      · simp only [ovB] at he
        split at he
        · cases he; exact .inl (argCells_ment h1 hc hd)
        · cases he
    · cases h
  | mks bytes z n =>
    simp only [eff] at h
    split at h
    · split at h
      · cases h
        refine ⟨fun d cs hd => ?_, fun _ _ h => (by cases h), fun _ _ h => (by cases h), fun d hd => ?_, fun d e cs c he hc hd => ?_⟩
        · simp only [ovB] at hd
          split at hd
          · rename_i e; cases e; exact .inl (by simp [SOp.news])
          · cases hd
        · cases hd; exact .inr (by simp [SOp.news])
        · simp only [ovB] at he
          split at he
          · cases he
            obtain ⟨l, h1, h2⟩ := List.mem_flatten.1 hc
            rw [List.eq_of_mem_replicate h1] at h2
            obtain ⟨v, _, rfl⟩ := List.mem_map.1 h2
            cases hd
          · cases he
      · cases h
    · cases h
  | build z ps =>
    simp only [eff] at h
    obtain ⟨qs, h1, h⟩ := Option.bind_eq_some_iff.1 h
    refine map_shape h (fun v hv d hm => ?_)
    cases hm with
    | agg hc hm =>
    rcases fillT_mem hv hc with h3 | ⟨p, hp, h3⟩
    · obtain ⟨w, _, rfl⟩ := List.mem_map.1 h3
      cases hm
    · obtain ⟨k, hk⟩ := List.getElem?_of_mem hp
      obtain ⟨l1, hs1⟩ := seqO_spec h1
      have hkl : k < ps.length := by rw [l1]; exact (List.getElem?_eq_some_iff.1 hk).1
      obtain ⟨y, hy1, hy2⟩ := hs1 k ps[k] (List.getElem?_eq_getElem hkl)
      rw [hk] at hy1; cases hy1
      obtain ⟨xs, hx1, rfl⟩ := Option.map_eq_some_iff.1 hy2
      exact .inl (argCells_ment hx1 h3 hm)
  | bsl W xs =>
    simp only [eff] at h
    obtain ⟨_, _, h⟩ := Option.bind_eq_some_iff.1 h
    split at h
    · cases h; exact .no (fun d hd => by cases hd)
    · cases h
  | fld a off size y =>
    simp only [eff] at h
    split at h
    · rename_i cs hy
      split at h
      · split at h
        · cases h
          refine .no (fun d hm => ?_)
          cases hm with
          | agg hc hm => exact .inl (get_ment hy (.agg (List.mem_of_mem_drop (List.mem_of_mem_take hc)) hm))
        · cases h
      · exact map_shape (f := fun c => c) h (fun v hv d hm => .inl (get_ment hy (.agg (List.mem_of_getElem? hv) hm)))
    · cases h
  | fldA off y =>
    simp only [eff] at h
    split at h
    · rename_i d' o' hy
      cases h
      exact .no (fun d hm => by cases hm; exact .inl (get_ment hy (.ptr _)))
    · cases h
      exact .no (fun d hm => by cases hm)
    · cases h
  | ld a size y =>
    simp only [eff] at h
    split at h
    · rename_i d' o' hy
      obtain ⟨cs, hb, h⟩ := Option.bind_eq_some_iff.1 h
      split at h
      · split at h
        · cases h
          refine .no (fun d hm => ?_)
          cases hm with
          | agg hc hm => exact .inl (.inr ⟨d', cs, _, hb, List.mem_of_mem_drop (List.mem_of_mem_take hc), hm⟩)
        · cases h
      · exact map_shape (f := fun c => c) h (fun v hv d hm => .inl (.inr ⟨d', cs, _, hb, List.mem_of_getElem? hv, hm⟩))
    · split at h
      · split at h
        · cases h
          refine .no (fun d hm => ?_)
          cases hm with
          | agg hc hm =>
            obtain ⟨p, _, rfl⟩ := List.mem_map.1 hc
            cases hm
        · cases h
      · exact map_shape h (fun v hv d hm => by cases hm)
    · cases h
  | st n y z =>
    simp only [eff] at h
    split at h
    · rename_i d' o' hy
      obtain ⟨cs, hb, h⟩ := Option.bind_eq_some_iff.1 h
      obtain ⟨xs, hxs, h⟩ := Option.bind_eq_some_iff.1 h
      split at h
      · cases h
        refine ⟨fun d cs' hd => ?_, fun _ _ h => (by cases h), fun _ _ h => (by cases h), fun d hd => (by cases hd), fun d e cs' c he hc hd => ?_⟩
        · simp only [ovB] at hd
          split at hd
          · rename_i e; subst e; exact .inr ⟨rfl, get_ment hy (.ptr _), fun k hk => by simp only [SOp.foot, hy] at hk; exact Option.some.inj hk⟩
          · cases hd
        · simp only [ovB] at he
          split at he
          · cases he
            rcases mem_splice hc with h1 | h1
            · exact .inl (.inr ⟨_, cs, c, hb, h1, hd⟩)
            · exact .inl (argCells_ment hxs h1 hd)
          · cases he
      · cases h
    · cases h
  | idxA W y i =>
    simp only [eff] at h
    split at h
    · rename_i hy _
      split at h
      · cases h; exact .no (fun d hm => by cases hm; exact .inl (get_ment hy (.bs _ _ _)))
      · cases h
    · split at h
      · exact map_shape h (fun v hv d hm => by cases hm)
      · cases h
    · cases h
  | sub W y lo hi =>
    simp only [eff] at h
    split at h
    · rename_i hy
      split at h
      · split at h
        · cases h
          refine .no (fun d hm => ?_)
          split at hm <;> (cases hm; exact .inl (get_ment hy (.bs _ _ _)))
        · cases h
      · cases h
    · split at h
      · split at h
        · split at h
          · cases h; exact .no (fun d hm => by cases hm)
          · cases h
        · cases h
      · cases h
    · cases h
  | app e W b y z =>
    simp only [eff] at h
    split at h
    · rename_i d' W' es es2 hy _
      split at h
      · cases h
        refine ⟨fun _ _ h => (by cases h), fun d q hd => ?_, fun _ _ h => (by cases h), fun d hm => ?_, fun _ _ _ _ h => (by cases h)⟩
        · simp only [ovR] at hd
          split at hd
          · rename_i e; subst e; exact .inr ⟨rfl, get_ment hy (.own _ _)⟩
          · cases hd
        · cases hm; exact .inl (get_ment hy (.own _ _))
      · cases h
    · cases h
  | appS e b y z =>
    simp only [eff] at h
    split at h
    · rename_i d' W' es es2 hy _
      split at h
      · cases h
        refine ⟨fun _ _ h => (by cases h), fun d q hd => ?_, fun _ _ h => (by cases h), fun d hm => ?_, fun _ _ _ _ h => (by cases h)⟩
        · simp only [ovR] at hd
          split at hd
          · rename_i e; subst e; exact .inr ⟨rfl, get_ment hy (.own _ _)⟩
          · cases hd
        · cases hm; exact .inl (get_ment hy (.own _ _))
      · cases h
    · cases h
  | appN e W b y z =>
    simp only [eff] at h
    split at h
    · split at h
      · cases h
        refine ⟨fun _ _ h => (by cases h), fun d q hd => ?_, fun _ _ h => (by cases h), fun d hm => ?_, fun _ _ _ _ h => (by cases h)⟩
        · simp only [ovR] at hd
          split at hd
          · rename_i e; subst e; exact .inl (by simp [SOp.news])
          · cases hd
        · cases hm; exact .inr (by simp [SOp.news])
      · cases h
    · cases h
  | appNS e b y z =>
    simp only [eff] at h
    split at h
    · split at h
      · cases h
        refine ⟨fun _ _ h => (by cases h), fun d q hd => ?_, fun _ _ h => (by cases h), fun d hm => ?_, fun _ _ _ _ h => (by cases h)⟩
        · simp only [ovR] at hd
          split at hd
          · rename_i e; subst e; exact .inl (by simp [SOp.news])
          · cases hd
        · cases hm; exact .inr (by simp [SOp.news])
      · cases h
    · cases h
  | call f m xs =>
    simp only [eff] at h
    obtain ⟨vs, hv, h⟩ := Option.bind_eq_some_iff.1 h
    exact call_shape (seq_ment hv) rfl rfl rfl rfl rfl h
  | callv y m xs =>
    simp only [eff] at h
    split at h
    · rename_i h1 h2
      exact call_shape (callv_ment (t := .unk) h1 h2) rfl rfl rfl rfl rfl h
    · cases h
  | ext y i =>
    simp only [eff] at h
    split at h
    · rename_i ts hy
      exact map_shape (f := fun c => c) h (fun v hv d hm => .inl (get_ment hy (.tuple (List.mem_of_getElem? hv) hm)))
    · cases h
  | nchk y =>
    simp only [eff] at h
    split at h
    · rename_i hy
      cases h; exact .no (fun d hm => .inl (get_ment hy hm))
    · rename_i hy
      cases h; exact .no (fun d hm => .inl (get_ment hy hm))
    · cases h
  | mkf f a b =>
    simp only [eff] at h
    split at h
    · rename_i h1 h2
      cases h
      refine .no (fun d hm => ?_)
      cases hm with
      | fn1 hc hm => exact .inl (seq_ment h1 _ hc d hm)
      | fn2 hc hm => exact .inl (seq_ment h2 _ hc d hm)
    · cases h
  | rng y =>
    simp only [eff] at h
    split at h
    · cases h
      refine ⟨fun _ _ h => (by cases h), fun _ _ h => (by cases h), fun d q hd => ?_, fun d hm => ?_, fun _ _ _ _ h => (by cases h)⟩
      · simp only [ovI] at hd
        split at hd
        · rename_i e; subst e; exact .inl (by simp [SOp.news])
        · cases hd
      · cases hm; exact .inr (by simp [SOp.news])
    · cases h
  | nxt y =>
    simp only [eff] at h
    split at h
    · rename_i hy
      split at h
      · split at h
        · cases h
          refine ⟨fun _ _ h => (by cases h), fun _ _ h => (by cases h), fun d q hd => ?_, fun d hm => ?_, fun _ _ _ _ h => (by cases h)⟩
          · simp only [ovI] at hd
            split at hd
            · rename_i e; subst e; exact .inr ⟨rfl, get_ment hy .it⟩
            · cases hd
          · cases hm with
            | tuple hc hm => simp at hc; rcases hc with rfl | rfl | rfl <;> cases hm
        · cases h
          refine .no (fun d hm => ?_)
          cases hm with
          | tuple hc hm => simp at hc; subst hc; cases hm
      · cases h
    · cases h
end
end Go.Sh
