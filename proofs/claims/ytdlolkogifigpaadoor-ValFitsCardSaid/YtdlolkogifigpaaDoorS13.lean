/- Sh: regions: operations that are apart may change places; whatever the order. No statement of the program is proved here. -/
import Derived.Test.YtdlolkogifigpaaDoorS12
set_option linter.unusedSimpArgs false
set_option linter.unusedVariables false
namespace Go.Sh
open Go Go.RowKit
set_option maxHeartbeats 4000000
section
variable {P : Program} {C C' : Oracle} {s s' : FS}

/-- What an operation does, if it looks where it is said to look. -/
def footOk (o : SOper) (s : FS) : Bool := match o.fp with
  | none => true
  | some d => match o.op.foot s with | some k => Nat.beq k d | none => false
def effF (P : Program) (C : Oracle) (o : SOper) (s : FS) : Option (TV × Upd) := match footOk o s with | true => eff P C o.dst o.op s | false => none
theorem effF_eff {o : SOper} {e : TV × Upd} (h : effF P C o s = some e) : eff P C o.dst o.op s = some e ∧ ∀ d, o.fp = some d → o.op.foot s = some d := by
  unfold effF at h
  split at h
  · rename_i hf
    refine ⟨h, fun d hd => ?_⟩
    unfold footOk at hf
    rw [hd] at hf
    simp only [] at hf
    split at hf
    · rename_i k hk; rw [hk, Nat.eq_of_beq_eq_true hf]
    · cases hf
  · cases h
/-- What an operation does, if it is done. -/
def effG (P : Program) (C : Oracle) (o : SOper) (s : FS) : Option (TV × Upd) :=
  match o.guard with
  | some (g, want) => match s.t g with
    | some (.pv (.v (.bool b))) => if b == want then effF P C o s else some (.pv (.v undef), .no)
    | some (.pv (.v _)) => some (.pv (.v undef), .no)
    | _ => none
  | none => effF P C o s
def FS.after (s : FS) (o : SOper) (e : TV × Upd) : FS := (s.upd o.dst e.2).put o.dst e.1
def step (P : Program) (C : Oracle) (o : SOper) (s : FS) : Option FS := (effG P C o s).map (s.after o)
def SOper.news (o : SOper) : List Nat := o.op.news o.dst

def unlike : Option Nat → Option Nat → Bool
  | some a, some b => !Nat.beq a b
  | _, _ => false
def noClash (o p : SOper) : Bool := (unlike o.fp p.fp || (!(o.op.wb && p.op.rb) && !(p.op.wb && o.op.rb))) && !(o.op.wr && p.op.wr) && !(o.op.wi && p.op.wi)
def apart (o p : SOper) : Bool :=
  (match o.dst with | some d => !p.reads.contains d && p.dst != some d | none => true) && (match p.dst with | some d => !o.reads.contains d && o.dst != some d | none => true) && noClash o p
theorem apart_symm {o p : SOper} (h : apart o p = true) : apart p o = true := by
  unfold apart noClash at *
  simp only [Bool.and_eq_true, Bool.or_eq_true] at h ⊢
  obtain ⟨⟨h1, h2⟩, ⟨h3, h5⟩, h6⟩ := h
  refine ⟨⟨h2, h1⟩, ⟨?_, ?_⟩, ?_⟩
  · rcases h3 with h3 | ⟨h3, h4⟩
    · left
      cases ho : o.fp with
      | none => rw [ho] at h3; cases h3
      | some a =>
        cases hp : p.fp with
        | none => rw [ho, hp] at h3; cases h3
        | some b =>
          rw [ho, hp] at h3
          simp only [unlike, Bool.not_eq_true'] at h3 ⊢
          cases hb : Nat.beq b a with
          | false => rfl
          | true => rw [Nat.eq_of_beq_eq_true hb, Nat.beq_refl] at h3; cases h3
    · exact .inr ⟨h4, h3⟩
  · rw [Bool.and_comm]; exact h5
  · rw [Bool.and_comm]; exact h6
theorem unlike_spec {a b : Option Nat} (h : unlike a b = true) : ∃ x y, a = some x ∧ b = some y ∧ x ≠ y := by
  cases a with
  | none => cases h
  | some x =>
    cases b with
    | none => cases h
    | some y =>
      simp only [unlike, Bool.not_eq_true'] at h
      exact ⟨x, y, rfl, rfl, by rintro rfl; rw [Nat.beq_refl] at h; cases h⟩
def FreshO (o : SOper) (s : FS) : Prop := ∀ d ∈ o.news, Fresh s d

theorem effG_cases {o : SOper} {e : TV × Upd} (h : effG P C o s = some e) : e = (.pv (.v undef), .no) ∨ effF P C o s = some e := by
  unfold effG at h
  split at h
  · split at h
    · split at h
      · exact .inr h
      · cases h; exact .inl rfl
    · cases h; exact .inl rfl
    · cases h
  · exact .inr h
theorem effG_shape {o : SOper} {e : TV × Upd} (h : effG P C o s = some e) : Shape s o.dst o.op e.1 e.2 := by
  rcases effG_cases h with rfl | h
  · exact .no (fun d hd => by cases hd)
  · exact eff_shape (x := e.1) (u := e.2) (effF_eff h).1
theorem foot_congr {o : SOp} (h : ∀ k ∈ o.reads, s'.t k = s.t k) : o.foot s' = o.foot s := by
  cases o with
  | ld a n x => simp only [SOp.foot, get_congr (x := x) h]
  | st n x y => simp only [SOp.reads, List.mem_append] at h; simp only [SOp.foot, get_congr (x := x) fun k hk => h k (.inl hk)]
  | _ => rfl
theorem effG_congr {o : SOper} (h : ∀ k ∈ o.reads, s'.t k = s.t k) (hb : o.op.rb = true → ∀ d, s.ment d → (∀ k, o.fp = some k → d = k) → s'.b d = s.b d) (hr : o.op.wr = true → ∀ d, s.ment d → s'.r d = s.r d) (hi : o.op.wi = true → ∀ d, s.ment d → s'.i d = s.i d) : effG P C o s' = effG P C o s := by
  have hrd : ∀ k ∈ o.op.reads, s'.t k = s.t k := fun k hk => h k (by simp [SOper.reads, hk])
  have hft : footOk o s' = footOk o s := by unfold footOk; rw [foot_congr hrd]
  have he : effF P C o s' = effF P C o s := by
    unfold effF
    rw [hft]
    cases hf : footOk o s with
    | false => rfl
    | true =>
      refine eff_congr hrd (fun h0 d hd hk => hb h0 d hd (fun k hk' => ?_)) hr hi
      unfold footOk at hf
      rw [hk'] at hf
      simp only [] at hf
      split at hf
      · rename_i q hq; have := hk q hq; rw [this]; exact Nat.eq_of_beq_eq_true hf
      · cases hf
  unfold effG
  cases hg : o.guard with
  | none => simp only [he]
  | some gw =>
    obtain ⟨g, want⟩ := gw
    simp only [he, h g (by simp [SOper.reads, hg])]
/-- An operation does the same behind another one that is apart from it. -/
theorem effG_apart {o p : SOper} (hap : apart o p = true) (hf : FreshO o s) {e : TV × Upd} (he : effG P C o s = some e) : effG P C' p (s.after o e) = effG P C' p s := by
  unfold apart noClash at hap
  simp only [Bool.and_eq_true, Bool.not_eq_true', Bool.or_eq_true] at hap
  obtain ⟨⟨h1, h2⟩, ⟨h34, h5⟩, h6⟩ := hap
  have hS := effG_shape he
  have hfo : ∀ d cs, ovB o.dst e.2 d = some cs → d ∈ o.op.news o.dst ∨ (o.op.wb = true ∧ ∀ k, o.fp = some k → d = k) := by
    intro d cs hd
    rcases effG_cases he with rfl | he'
    · cases hd
    · rcases hS.b d cs hd with h | ⟨h, _, h'⟩
      · exact .inl h
      · exact .inr ⟨h, fun k hk => h' k ((effF_eff he').2 k hk)⟩
  have hne : ∀ d, s.ment d → d ∉ o.op.news o.dst := fun d hd hn => (hf d hn).1 hd
  refine effG_congr (fun k hk => ?_) (fun hb d hd hdk => ?_) (fun hr d hd => ?_) (fun hi d hd => ?_)
  · unfold FS.after
    rw [put_t, upd_t, if_neg]
    intro hd
    rw [hd] at h1
    simp at h1
    exact h1.1 hk
  · unfold FS.after
    rw [put_b, upd_b]
    cases ho : ovB o.dst e.2 d with
    | none => rfl
    | some cs =>
      rcases hfo d cs ho with h | ⟨h, h'⟩
      · exact absurd h (hne d hd)
      · rcases h34 with hu | ⟨h3, _⟩
        · obtain ⟨x, y, e1, e2, e3⟩ := unlike_spec hu
          exact absurd ((h' x e1).symm.trans (hdk y e2)) e3
        · simp [h, hb] at h3
  · unfold FS.after
    rw [put_r, upd_r]
    cases ho : ovR e.2 d with
    | none => rfl
    | some cs =>
      rcases hS.r d cs ho with h | ⟨h, _⟩
      · exact absurd h (hne d hd)
      · simp [h, hr] at h5
  · unfold FS.after
    rw [put_i, upd_i]
    cases ho : ovI e.2 d with
    | none => rfl
    | some cs =>
      rcases hS.i d cs ho with h | ⟨h, _⟩
      · exact absurd h (hne d hd)
      · simp [h, hi] at h6
theorem FS.ext' {a b : FS} (h1 : ∀ k, a.t k = b.t k) (h2 : ∀ k, a.b k = b.b k) (h3 : ∀ k, a.r k = b.r k) (h4 : ∀ k, a.i k = b.i k) : a = b := by
  cases a; cases b
  simp only [FS.mk.injEq]
  exact ⟨funext h1, funext h2, funext h3, funext h4⟩
/-- Who makes memory has names of its own. -/
def mkOk (a b : SOper) : Bool := a.news.all fun d => !b.news.contains d
theorem mkOk_spec {a b : SOper} (h : mkOk a b = true) {d : Nat} (h1 : d ∈ a.news) (h2 : d ∈ b.news) : False := by
  have := List.all_eq_true.1 h d h1
  simp [h2] at this
/-- Two operations that are apart: whatever the order. -/
theorem after_comm {o p : SOper} (hap : apart o p = true) (hmk : mkOk o p = true) (hfo : FreshO o s) (hfp : FreshO p s) {e f : TV × Upd} (he : effG P C o s = some e) (hf : effG P C' p s = some f) : (s.after o e).after p f = (s.after p f).after o e := by
  unfold apart noClash at hap
  simp only [Bool.and_eq_true, Bool.not_eq_true', Bool.or_eq_true] at hap
  obtain ⟨⟨h1, h2⟩, ⟨h34, h5⟩, h6⟩ := hap
  have hdd : ∀ k, o.dst = some k → p.dst ≠ some k := by
    intro k hk hp
    rw [hk] at h1
    simp [hp] at h1
  have hSo := effG_shape he
  have hSp := effG_shape hf
  have clash : ∀ {d : Nat} {A Bo : Bool}, (d ∈ o.op.news o.dst ∨ (A = true ∧ s.ment d)) → (d ∈ p.op.news p.dst ∨ (Bo = true ∧ s.ment d)) → (A && Bo) = false → False := by
    intro d A Bo q1 q2 hq
    rcases q1 with q1 | ⟨q1, q1'⟩ <;> rcases q2 with q2 | ⟨q2, q2'⟩
    · exact mkOk_spec hmk q1 q2
    · exact (hfo d q1).1 q2'
    · exact (hfp d q2).1 q1'
    · simp [q1, q2] at hq
  refine FS.ext' (fun k => ?_) (fun k => ?_) (fun k => ?_) (fun k => ?_)
  · unfold FS.after
    simp only [put_t, upd_t]
    by_cases q1 : o.dst = some k
    · have := hdd k q1; simp [q1, this]
    · simp [q1]
  · unfold FS.after
    simp only [put_b, upd_b]
    cases q1 : ovB o.dst e.2 k with
    | none => rfl
    | some x =>
      cases q2 : ovB p.dst f.2 k with
      | none => rfl
      | some y =>
        exfalso
        rcases h34 with hu | ⟨h3, _⟩
        · obtain ⟨x', y', e1, e2, e3⟩ := unlike_spec hu
          have k1 : ∀ (o : SOper) (C : Oracle) (e : TV × Upd), effG P C o s = some e → ∀ cs, ovB o.dst e.2 k = some cs → ∀ z, o.fp = some z → k ∈ o.op.news o.dst ∨ k = z := by
            intro o C e he cs hd z hz
            rcases effG_cases he with rfl | he'
            · cases hd
            · rcases (effG_shape he).b k cs hd with h | ⟨_, _, h'⟩
              · exact .inl h
              · exact .inr (h' z ((effF_eff he').2 z hz))
          have nn : ∀ (o : SOper) (z : Nat) (e : TV × Upd) (C : Oracle), effG P C o s = some e → o.fp = some z → ∀ cs, ovB o.dst e.2 k = some cs → k ∈ o.op.news o.dst → False := by
            intro o z e C he hz cs hd hn
            rcases effG_cases he with rfl | he'
            · cases hd
            · have := (effF_eff he').2 z hz
              cases hop : o.op <;> rw [hop] at this hn <;> simp [SOp.foot, SOp.news] at this hn
          rcases k1 o C e he _ q1 x' e1 with a1 | a1
          · exact nn o x' e C he e1 _ q1 a1
          · rcases k1 p C' f hf _ q2 y' e2 with a2 | a2
            · exact nn p y' f C' hf e2 _ q2 a2
            · exact e3 (a1.symm.trans a2)
        · refine clash ((hSo.b k _ q1).imp id (fun h => ⟨h.1, h.2.1⟩)) ((hSp.b k _ q2).imp id (fun h => ⟨h.1, h.2.1⟩)) ?_
          cases hw : p.op.wb with
          | false => simp
          | true => have := wb_rb hw; simp [this] at h3; simp [h3]
  · unfold FS.after
    simp only [put_r, upd_r]
    cases q1 : ovR e.2 k with
    | none => rfl
    | some x =>
      cases q2 : ovR f.2 k with
      | none => rfl
      | some y => exact (clash (hSo.r k _ q1) (hSp.r k _ q2) h5).elim
  · unfold FS.after
    simp only [put_i, upd_i]
    cases q1 : ovI e.2 k with
    | none => rfl
    | some x =>
      cases q2 : ovI f.2 k with
      | none => rfl
      | some y => exact (clash (hSo.i k _ q1) (hSp.i k _ q2) h6).elim
theorem step_comm {o p : SOper} (hap : apart o p = true) (hmk : mkOk o p = true) (hfo : FreshO o s) (hfp : FreshO p s) {s1 s2 : FS} (h1 : step P C o s = some s1) (h2 : step P C' p s1 = some s2) : ∃ s1', step P C' p s = some s1' ∧ step P C o s1' = some s2 := by
  obtain ⟨e, he, rfl⟩ := Option.map_eq_some_iff.1 h1
  obtain ⟨f, hf, rfl⟩ := Option.map_eq_some_iff.1 h2
  rw [effG_apart hap hfo he] at hf
  refine ⟨s.after p f, by unfold step; rw [hf]; rfl, ?_⟩
  unfold step
  rw [effG_apart (apart_symm hap) hfp hf, he, after_comm hap hmk hfo hfp he hf]; rfl
theorem fresh_after {o p : SOper} (hf : FreshO p s) (hmk : mkOk o p = true) {s1 : FS} (h : step P C o s = some s1) : FreshO p s1 := by
  obtain ⟨e, he, rfl⟩ := Option.map_eq_some_iff.1 h
  have hS := effG_shape he
  intro d hd
  obtain ⟨f1, f2, f3, f4⟩ := hf d hd
  have hno : d ∉ o.op.news o.dst := fun h => mkOk_spec hmk h hd
  have hm : ∀ {A : Prop}, (s.ment d ∨ d ∈ o.op.news o.dst) → A := fun h => h.elim (fun h => absurd h f1) (fun h => absurd h hno)
  refine ⟨?_, ?_, ?_, ?_⟩
  · rintro (⟨k, y, hk, hy⟩ | ⟨k, cs, c, hk, hc, hy⟩)
    · unfold FS.after at hk
      rw [put_t, upd_t] at hk
      split at hk
      · cases hk; exact hm (hS.x d hy)
      · exact f1 (.inl ⟨k, y, hk, hy⟩)
    · unfold FS.after at hk
      rw [put_b, upd_b] at hk
      cases ho : ovB o.dst e.2 k with
      | none => rw [ho] at hk; exact f1 (.inr ⟨k, cs, c, hk, hc, hy⟩)
      | some x => rw [ho] at hk; cases hk; exact hm (hS.m d k cs c ho hc hy)
  · unfold FS.after
    rw [put_b, upd_b]
    cases ho : ovB o.dst e.2 d with
    | none => exact f2
    | some x => exact hm ((hS.b d x ho).elim .inr (fun h => .inl h.2.1))
  · unfold FS.after
    rw [put_r, upd_r]
    cases ho : ovR e.2 d with
    | none => exact f3
    | some x => exact hm ((hS.r d x ho).elim .inr (fun h => .inl h.2))
  · unfold FS.after
    rw [put_i, upd_i]
    cases ho : ovI e.2 d with
    | none => exact f4
    | some x => exact hm ((hS.i d x ho).elim .inr (fun h => .inl h.2))
end

def dstOk (N : Nat) : Option Nat → Bool
  | some d => Nat.blt d N
  | none => true
def transGuard (ops : Array Oper) : Option (Nat × Bool) → Option (Option (Nat × Bool))
  | none => some none
  | some (j, want) => match (ops[j]?).bind (·.dst) with
    | some d => some (some (d, want))
    | none => none
def transOper (P : Program) (N : Nat) (H : Option Nat → Nat) (fp : Option Nat) (ops : Array Oper) (o : Oper) : Option SOper :=
  match transGuard ops o.guard, transOp P o (H o.dst) with
  | some g, some op => if dstOk N o.dst then some ⟨o.dst, g, fp, op⟩ else none
  | _, _ => none
def direct (ops : Array Oper) (a i : Nat) : Bool := match ops[i]? with
  | some o => o.after.any fun e => Region.binds .any e && Nat.beq e.on a
  | none => false
def ahead (ops : Array Oper) : Nat → Nat → Nat → Bool
  | 0, a, i => direct ops a i
  | f + 1, a, i => direct ops a i || (match ops[i]? with
    | some o => o.after.any fun e => Region.binds .any e && ahead ops f a e.on
    | none => false)
def pairOk (ops : Array Oper) (draw : Bool) (sops : List SOper) (i j : Nat) : Bool :=
  match sops[i]?, sops[j]? with
  | some a, some b => mkOk a b && (!draw || apart a b || ahead ops 4 i j)
  | _, _ => false
def regionOk (ops : Array Oper) (draw : Bool) (sops : List SOper) : Bool :=
  ((List.range sops.length).all fun j => (List.range j).all fun i => pairOk ops draw sops i j) &&
  (!draw || (List.range sops.length).all fun i => match ops[i]? with | some o => o.after.all fun e => !Region.binds .any e || Nat.blt e.on i | none => true)

/-- The operations, one by one. -/
def transOps (P : Program) (N : Nat) (H : Option Nat → Nat) (fps : Nat → Option Nat) (ops : Array Oper) : Nat → List Oper → Option (List SOper)
  | _, [] => some []
  | j, o :: l => match transOper P N H (fps j) ops o, transOps P N H fps ops (j + 1) l with
    | some x, some r => some (x :: r)
    | _, _ => none
theorem transOps_spec {P : Program} {N : Nat} {H : Option Nat → Nat} {fps : Nat → Option Nat} {ops : Array Oper} : ∀ {l : List Oper} {j : Nat} {sops : List SOper}, transOps P N H fps ops j l = some sops → l.length = sops.length ∧ ∀ (i : Nat) o, l[i]? = some o → ∃ so, sops[i]? = some so ∧ transOper P N H (fps (j + i)) ops o = some so
  | [], j, sops, h => by simp [transOps] at h; subst h; simp
  | o :: l, j, sops, h => by
    simp only [transOps] at h
    split at h
    · rename_i x r h1 h2
      cases h
      obtain ⟨a1, a2⟩ := transOps_spec h2
      refine ⟨by simp [a1], fun i p hp => ?_⟩
      cases i with
      | zero => simp at hp; subst hp; exact ⟨x, rfl, h1⟩
      | succ i =>
        obtain ⟨so, b1, b2⟩ := a2 i p (by simpa using hp)
        exact ⟨so, by simpa using b1, by rw [← b2]; congr 2; omega⟩
    · cases h
def transRegion (P : Program) (N : Nat) (H : Option Nat → Nat) (fps : Nat → Option Nat) (ops : Array Oper) (draw : Bool) : Option (List SOper) :=
  match transOps P N H fps ops 0 ops.toList with
  | some sops => if regionOk ops draw sops then some sops else none
  | none => none

section
variable {P : Program} {H : Option Nat → Nat} {ops : Array Oper} {B : Base} {C : Oracle} {sops : List SOper} {g : Glob}

def SoundC (P : Program) (g : Glob) (C : Oracle) : Prop := ∀ f xs os y os', C f xs os = some (y, os') → SCalls P g f xs os y os'
/-- A step, by calls that are known. -/
def Stp (P : Program) (g : Glob) (o : SOper) (s s' : FS) : Prop := ∃ C, SoundC P g C ∧ step P C o s = some s'

theorem sim_step (hm0 : B.m ≤ 1000) (hN : B.N ≤ 1000) (hG : g.G B.w0) (hX : ∀ d b, B.X d b → g.n ≤ b) (hC : SoundC P g C) {s s' : FS} {a : Act} {w : World} {E : Env} (h : Sim B s a w E) {i : Nat} {o : Oper} {so : SOper} {fp : Option Nat} (hi : ops[i]? = some o) (ht : transOper P B.N H fp ops o = some so) (hf : FreshO so s) (hs : step P C so s = some s')
    {K : Act → World → Prop} {Q : Exit → Act → World → Prop} (hK : ∀ a' w' E', Sim B s' a' w' E' → K a' w') : wpOp P ops Q i K a w := by
  unfold transOper at ht
  split at ht <;> try (cases ht; done)
  rename_i gd op hg hop
  split at ht <;> try (cases ht; done)
  rename_i hd
  cases ht
  have hdst : ∀ k, o.dst = some k → k < B.N := by
    intro k hk
    rw [hk] at hd
    simp only [dstOk, Nat.blt_eq] at hd
    exact hd
  obtain ⟨e, he, rfl⟩ := Option.map_eq_some_iff.1 hs
  have hdo : effF P C ⟨o.dst, gd, fp, op⟩ s = some e → o.wp P a w K Q := fun he' =>
    sim_op (C := C) h hm0 hN hG hX hop hdst hf hC (x := e.1) (u := e.2) (effF_eff he').1 (fun v w' E' hS => hK _ _ _ hS)
  unfold wpOp
  simp only [hi]
  unfold effG at he
  cases hgo : o.guard with
  | none =>
    rw [hgo] at hg
    simp only [transGuard, Option.some.injEq] at hg
    subst hg
    simp only at he
    rw [if_pos (by simp [Region.wanted, hgo])]
    exact .inl (hdo he)
  | some jw =>
    obtain ⟨j, want⟩ := jw
    rw [hgo] at hg
    simp only [transGuard] at hg
    split at hg <;> try (cases hg; done)
    rename_i d hjd
    cases hg
    simp only at he
    have hskip : ∀ v, a.tmps[d]? = some v → (∀ b, v = .bool b → (b == want) = false) → e = (.pv (.v undef), .no) → (if Region.wanted o (yielded ops a.tmps) = true then o.wp P a w K Q ∨ (o.asks P a w ∧ LetsOut Q) else K (a.put o.dst undef) w) := by
      intro v hv hb he'
      rw [if_neg]
      · rw [he'] at hK
        exact hK _ _ E (h.put hdst (.pv (.v undef)))
      · simp only [Region.wanted, hgo, yielded, hjd, Option.bind_some, hv]
        cases v <;> simp
        rename_i b
        intro hbw
        have := hb b rfl
        simp [hbw] at this
    have hval : ∀ v, s.t d = some (.pv (.v v)) → a.tmps[d]? = some v := by
      intro v hv
      obtain ⟨h1, h2⟩ := h.tmp d _ hv
      have h3 := val_rel (y := v) h2 rfl
      have hlt : d < a.tmps.size := by rw [h.size]; exact h1
      rw [Array.getD_eq_getD_getElem?, Array.getElem?_eq_getElem hlt] at h3
      rw [Array.getElem?_eq_getElem hlt]
      exact congrArg some h3
    split at he
    · rename_i b hb
      have hv := hval _ hb
      split at he
      · rename_i hbw
        rw [if_pos]
        · exact .inl (hdo he)
        · simp only [Region.wanted, hgo, yielded, hjd, Option.bind_some, hv]
          simpa using hbw
      · rename_i hbw
        cases he
        exact hskip _ hv (fun b' hb' => by cases hb'; simpa using hbw) rfl
    · rename_i v hnb hv
      cases he
      exact hskip _ (hval _ hv) (fun b' hb' => absurd hb' (fun h => hnb b' h)) rfl
    · cases he

def RunI (P : Program) (g : Glob) (sops : List SOper) : List Nat → FS → FS → Prop
  | [], s, sf => s = sf
  | i :: l, s, sf => ∃ o s1, sops[i]? = some o ∧ Stp P g o s s1 ∧ RunI P g sops l s1 sf
def MkAll (sops : List SOper) : Prop := ∀ (i j : Nat) a b, i ≠ j → sops[i]? = some a → sops[j]? = some b → mkOk a b = true
theorem mkOk_symm {a b : SOper} (h : mkOk a b = true) : mkOk b a = true := by
  unfold mkOk
  refine List.all_eq_true.2 fun d hd => ?_
  cases hc : a.news.contains d with
  | false => rfl
  | true => exact (mkOk_spec h (by simpa using hc) hd).elim
theorem mkAll_of {draw : Bool} (h : regionOk ops draw sops = true) : MkAll sops := by
  unfold regionOk at h
  rw [Bool.and_eq_true] at h
  have key : ∀ (i j : Nat) a b, i < j → sops[i]? = some a → sops[j]? = some b → mkOk a b = true := by
    intro i j a b hij ha hb
    have hj : j < sops.length := (List.getElem?_eq_some_iff.1 hb).1
    have := List.all_eq_true.1 (List.all_eq_true.1 h.1 j (by simpa using hj)) i (by simpa using hij)
    unfold pairOk at this
    rw [ha, hb] at this
    simp only [Bool.and_eq_true] at this
    exact this.1
  intro i j a b hne ha hb
  rcases Nat.lt_or_gt_of_ne hne with hlt | hlt
  · exact key i j a b hlt ha hb
  · exact mkOk_symm (key j i b a hlt hb ha)
def FreshI (sops : List SOper) (l : List Nat) (s : FS) : Prop := ∀ i ∈ l, ∀ o, sops[i]? = some o → FreshO o s
theorem freshI_step (hmk : MkAll sops) {l : List Nat} {i : Nat} {o : SOper} {s s1 : FS} (hi : sops[i]? = some o) (hl : i ∉ l) (hf : FreshI sops l s) (hs : Stp P g o s s1) : FreshI sops l s1 := by
  intro j hj p hp
  obtain ⟨C, _, hs⟩ := hs
  exact fresh_after (hf j hj p hp) (hmk i j o p (by rintro rfl; exact hl hj) hi hp) hs
theorem swap_front (hmk : MkAll sops) {i : Nat} {o : SOper} (hi : sops[i]? = some o) {Bl : List Nat} {sf : FS} : ∀ (A : List Nat) (s : FS), (A ++ i :: Bl).Nodup → (∀ a ∈ A, ∀ oa, sops[a]? = some oa → apart oa o = true) → FreshI sops (A ++ i :: Bl) s →
    RunI P g sops (A ++ i :: Bl) s sf → ∃ s1, Stp P g o s s1 ∧ RunI P g sops (A ++ Bl) s1 sf
  | [], s, _, _, _, h => by
    obtain ⟨o', s1, h0, h1, h2⟩ := h
    rw [hi] at h0; cases h0
    exact ⟨s1, h1, h2⟩
  | a :: A, s, hnd, hap, hf, h => by
    obtain ⟨oa, sa, hoa, h1, h2⟩ := h
    simp only [List.cons_append, List.nodup_cons] at hnd
    have hfa : FreshI sops (A ++ i :: Bl) sa := freshI_step hmk hoa hnd.1 (fun j hj => hf j (List.mem_cons_of_mem _ hj)) h1
    obtain ⟨s1', h3, h4⟩ := swap_front hmk hi A sa hnd.2 (fun b hb => hap b (List.mem_cons_of_mem _ hb)) hfa h2
    obtain ⟨C1, c1, h1⟩ := h1
    obtain ⟨C2, c2, h3⟩ := h3
    obtain ⟨s1, h5, h6⟩ := step_comm (hap a (List.mem_cons_self ..) oa hoa) (hmk a i oa o (by rintro rfl; exact hnd.1 (List.mem_append_right _ (List.mem_cons_self ..))) hoa hi) (hf a (List.mem_cons_self ..) oa hoa) (hf i (List.mem_cons_of_mem _ (List.mem_append_right _ (List.mem_cons_self ..))) o hi) h1 h3
    exact ⟨s1, ⟨C2, c2, h5⟩, oa, s1', hoa, ⟨C1, c1, h6⟩, h4⟩
/-- What is listed has all ahead of it listed. -/
def ClosedL (ops : Array Oper) (listed : Array Bool) : Prop := ∀ i o, ops[i]? = some o → listed.getD i true = true → ∀ e ∈ o.after, Region.binds .any e = true → listed.getD e.on false = true
theorem ahead_listed {listed : Array Bool} (hcl : ClosedL ops listed) (hsz : listed.size = ops.size) : ∀ (f a i : Nat), (∀ o, ops[i]? = some o → ∀ e ∈ o.after, Region.binds .any e = true → listed.getD e.on false = true) → ahead ops f a i = true → listed.getD a false = true := by
  have hdir : ∀ a i, (∀ o, ops[i]? = some o → ∀ e ∈ o.after, Region.binds .any e = true → listed.getD e.on false = true) → direct ops a i = true → listed.getD a false = true := by
    intro a i h hd
    unfold direct at hd
    split at hd
    · rename_i o ho
      obtain ⟨e, he1, he2⟩ := Array.any_eq_true'.1 hd
      rw [Bool.and_eq_true] at he2
      have := h o ho e he1 he2.1
      rwa [Nat.eq_of_beq_eq_true he2.2] at this
    · cases hd
  intro f
  induction f with
  | zero => exact hdir
  | succ f ih =>
    intro a i h hr
    simp only [ahead, Bool.or_eq_true] at hr
    rcases hr with hr | hr
    · exact hdir a i h hr
    · split at hr
      · rename_i o ho
        obtain ⟨e, he1, he2⟩ := Array.any_eq_true'.1 hr
        rw [Bool.and_eq_true] at he2
        have hl := h o ho e he1 he2.1
        refine ih a e.on (fun o' ho' e' he' hb' => hcl e.on o' ho' ?_ e' he' hb') he2.2
        have hlt : e.on < listed.size := by
          rcases Nat.lt_or_ge e.on listed.size with h1 | h1
          · exact h1
          · simp [Array.getD, Nat.not_lt.2 h1] at hl
        simpa [Array.getD, hlt] using hl
      · cases hr
def rest (n : Nat) (listed : Array Bool) : List Nat := (List.range n).filter fun i => !listed.getD i true
theorem any_sound (hm0 : B.m ≤ 1000) (hN : B.N ≤ 1000) (hG : g.G B.w0) (hX : ∀ d b, B.X d b → g.n ≤ b) {fps : Nat → Option Nat} (htr : transOps P B.N H fps ops 0 ops.toList = some sops) (hok : regionOk ops true sops = true) {sf : FS} {Q : Exit → Act → World → Prop} (hQ : ∀ a w E, Sim B sf a w E → Q .normal a w) :
    ∀ (fuel : Nat) (listed : Array Bool) (s : FS) (a : Act) (w : World) (E : Env), listed.size = ops.size → ClosedL ops listed → Sim B s a w E → FreshI sops (rest ops.size listed) s → RunI P g sops (rest ops.size listed) s sf → (rest ops.size listed).length ≤ fuel →
      wpAny P .any ops Q fuel listed a w := by
  obtain ⟨hlen, hspec⟩ := transOps_spec htr
  have hlen' : ops.size = sops.length := by simpa using hlen
  have hmk := mkAll_of hok
  have hback : ∀ (i : Nat) o, ops[i]? = some o → ∀ e ∈ o.after, Region.binds .any e = true → e.on < i := by
    intro i o hi e he hb
    unfold regionOk at hok
    rw [Bool.and_eq_true] at hok
    have hil : i < sops.length := by rw [← hlen']; exact (Array.getElem?_eq_some_iff.1 hi).1
    have h2 := hok.2
    simp only [Bool.not_true, Bool.false_or] at h2
    have := List.all_eq_true.1 h2 i (by simpa using hil)
    rw [hi] at this
    have := Array.all_eq_true_iff_forall_mem.1 this e he
    simp only [hb, Bool.not_true, Bool.false_or] at this
    rw [Nat.blt_eq] at this
    exact this
  have hrest : ∀ (listed : Array Bool) i, i ∈ rest ops.size listed ↔ i < ops.size ∧ listed.getD i true = false := by
    intro listed i
    simp [rest]
  have hready : ∀ (listed : Array Bool) i, i ∈ Region.ready .any ops listed ↔ i ∈ rest ops.size listed ∧ ∀ o, ops[i]? = some o → ∀ e ∈ o.after, Region.binds .any e = true → listed.getD e.on false = true := by
    intro listed i
    rw [hrest]
    unfold Region.ready
    simp only [List.mem_filter, List.mem_range, Bool.and_eq_true, Bool.not_eq_true']
    constructor
    · rintro ⟨h1, h2, h3⟩
      refine ⟨⟨h1, h2⟩, fun o ho e he hb => ?_⟩
      rw [ho] at h3
      simp only [Option.map_some, Option.getD_some] at h3
      have := Array.all_eq_true_iff_forall_mem.1 h3 e he
      simpa [hb] using this
    · rintro ⟨⟨h1, h2⟩, h3⟩
      refine ⟨h1, h2, ?_⟩
      obtain ⟨o, ho⟩ : ∃ o, ops[i]? = some o := ⟨_, Array.getElem?_eq_getElem h1⟩
      rw [ho]
      simp only [Option.map_some, Option.getD_some]
      refine Array.all_eq_true_iff_forall_mem.2 fun e he => ?_
      cases hb : Region.binds .any e
      · rfl
      · simp [h3 o ho e he hb]
  have hnil : ∀ (listed : Array Bool), listed.size = ops.size → Region.ready .any ops listed = [] → rest ops.size listed = [] := by
    intro listed hsz hr
    cases hrl : rest ops.size listed with
    | nil => rfl
    | cons i l =>
      exfalso
      have hi : i ∈ rest ops.size listed := by rw [hrl]; exact List.mem_cons_self ..
      have hmin : ∀ j, j < i → j ∉ rest ops.size listed := by
        intro j hj hjm
        have hp : (rest ops.size listed).Pairwise (· < ·) := List.Pairwise.filter _ List.pairwise_lt_range
        rw [hrl] at hp hjm
        rcases List.mem_cons.1 hjm with rfl | hjm
        · omega
        · have := (List.pairwise_cons.1 hp).1 j hjm; omega
      have : i ∈ Region.ready .any ops listed := by
        rw [hready]
        refine ⟨hi, fun o ho e he hb => ?_⟩
        have hlt := hback i o ho e he hb
        have hil := ((hrest listed i).1 hi).1
        have hnm := hmin e.on hlt
        rw [hrest] at hnm
        have hel : e.on < listed.size := by omega
        have : listed.getD e.on true ≠ false := fun h => hnm ⟨by omega, h⟩
        simpa [Array.getD, hel] using this
      rw [hr] at this; cases this
  intro fuel
  induction fuel with
  | zero =>
    intro listed s a w E hsz hcl hS hf hrun hle
    have hr0 : rest ops.size listed = [] := List.eq_nil_of_length_eq_zero (by omega)
    rw [hr0] at hrun
    have hrun : s = sf := hrun
    subst hrun
    refine ⟨?_, hQ a w E hS⟩
    cases hrd : Region.ready .any ops listed with
    | nil => rfl
    | cons i l =>
      have := ((hready listed i).1 (by rw [hrd]; exact List.mem_cons_self ..)).1
      rw [hr0] at this; cases this
  | succ fuel ih =>
    intro listed s a w E hsz hcl hS hf hrun hle
    refine ⟨fun hr => ?_, fun i hi => ?_⟩
    · have hr0 := hnil listed hsz hr
      rw [hr0] at hrun
      have hrun : s = sf := hrun
      subst hrun
      exact hQ a w E hS
    · obtain ⟨hir, hipre⟩ := (hready listed i).1 hi
      obtain ⟨hin, hil⟩ := (hrest listed i).1 hir
      obtain ⟨o, ho⟩ : ∃ o, ops[i]? = some o := ⟨_, Array.getElem?_eq_getElem hin⟩
      obtain ⟨so, hso, hto⟩ := hspec i o (by simpa using ho)
      obtain ⟨A, Bl, hAB⟩ := List.append_of_mem hir
      have hp : (rest ops.size listed).Pairwise (· < ·) := List.Pairwise.filter _ List.pairwise_lt_range
      have hnd : (rest ops.size listed).Nodup := hp.imp (fun h => Nat.ne_of_lt h)
      rw [hAB] at hp hnd hf hrun
      have hA : ∀ j ∈ A, j < i := fun j hj => (List.pairwise_append.1 hp).2.2 j hj i (List.mem_cons_self ..)
      obtain ⟨s1, hs1, hrun1⟩ := swap_front hmk hso A s hnd (fun j hj oa hoa => by
        have hji := hA j hj
        have hjr : j ∈ rest ops.size listed := by rw [hAB]; exact List.mem_append_left _ hj
        have hjl := ((hrest listed j).1 hjr)
        unfold regionOk at hok
        rw [Bool.and_eq_true] at hok
        have := List.all_eq_true.1 (List.all_eq_true.1 hok.1 i (by simp; omega)) j (by simpa using hji)
        unfold pairOk at this
        rw [hoa, hso] at this
        simp only [Bool.and_eq_true, Bool.not_true, Bool.false_or, Bool.or_eq_true] at this
        rcases this.2 with h1 | h1
        · exact h1
        · have := ahead_listed hcl hsz 4 j i hipre h1
          have hlt : j < listed.size := by omega
          have h2 := hjl.2
          simp [Array.getD, hlt] at this h2
          rw [this] at h2; cases h2) hf hrun
      obtain ⟨C1, hC1, hst1⟩ := hs1
      have hs1 : Stp P g so s s1 := ⟨C1, hC1, hst1⟩
      refine sim_step hm0 hN hG hX hC1 hS ho hto (hf i (List.mem_append_right _ (List.mem_cons_self ..)) so hso) hst1 (fun a' w' E' hS' => ?_)
      have hiAB : i ∉ A ++ Bl := by
        have := List.nodup_append.1 hnd
        intro hm
        rcases List.mem_append.1 hm with h1 | h1
        · exact this.2.2 i h1 i (List.mem_cons_self ..) rfl
        · exact (List.nodup_cons.1 this.2.1).1 h1
      have hilt : i < listed.size := by omega
      have hrest' : rest ops.size (listed.setIfInBounds i true) = A ++ Bl := by
        have h1 : rest ops.size (listed.setIfInBounds i true) = (rest ops.size listed).filter (fun j => j != i) := by
          unfold rest
          rw [List.filter_filter]
          apply List.filter_congr
          intro j hj
          have hjn : j < ops.size := by simpa using hj
          have hjl : j < listed.size := by omega
          by_cases hji : j = i
          · subst hji; simp [Array.getD, hjl]
          · simp [Array.getD, hjl, hji, Array.getElem_setIfInBounds, Ne.symm hji]
        rw [h1, hAB, List.filter_append, List.filter_cons]
        simp only [bne_self_eq_false, Bool.false_eq_true, if_false]
        rw [List.filter_eq_self.2, List.filter_eq_self.2]
        · intro j hj; simp; rintro rfl; exact hiAB (List.mem_append_right _ hj)
        · intro j hj; simp; rintro rfl; exact hiAB (List.mem_append_left _ hj)
      refine ih (listed.setIfInBounds i true) s1 a' w' E' (by simpa using hsz) ?_ hS' ?_ (by rw [hrest']; exact hrun1) ?_
      · intro j oj hj hjl e he hb
        have hset : ∀ k, listed.getD k false = true → (listed.setIfInBounds i true).getD k false = true := by
          intro k hk
          have hkl : k < listed.size := by
            rcases Nat.lt_or_ge k listed.size with h1 | h1
            · exact h1
            · simp [Array.getD, Nat.not_lt.2 h1] at hk
          by_cases hki : i = k
          · subst hki; simp [Array.getD, hkl]
          · rw [Array.getD_eq_getD_getElem?, Array.getElem?_setIfInBounds_ne hki, ← Array.getD_eq_getD_getElem?]; exact hk
        by_cases hji : j = i
        · subst hji
          exact hset _ (hipre oj hj e he hb)
        · refine hset _ (hcl j oj hj ?_ e he hb)
          have hjn : j < listed.size := by rw [hsz]; exact (Array.getElem?_eq_some_iff.1 hj).1
          simp [Array.getD, hjn, Array.getElem_setIfInBounds, Ne.symm hji] at hjl
          simp [Array.getD, hjn, hjl]
      · rw [hrest']
        refine freshI_step hmk hso hiAB (fun j hj => hf j ?_) hs1
        rcases List.mem_append.1 hj with h1 | h1
        · exact List.mem_append_left _ h1
        · exact List.mem_append_right _ (List.mem_cons_of_mem _ h1)
      · rw [hrest']
        rw [hAB] at hle
        simp at hle ⊢; omega
end
end Go.Sh
