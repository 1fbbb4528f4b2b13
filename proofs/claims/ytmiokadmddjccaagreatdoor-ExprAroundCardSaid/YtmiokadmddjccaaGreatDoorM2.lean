/- Merged texts: S12 S13 S13p S14 S15 S16 Base Glb Shelf Pr0 WrapB S17 S18 Plain Pcm Dt By Open0. No statement of the program is proved here. -/
import Derived.Test.YtmiokadmddjccaaGreatDoorM1
import Derived.WalkKit
import Derived.WalkSpells
import Derived.WalkLawsBesides
import Derived.Handy
import Derived.Lib.Hide
import Derived.Deep.Draws
import Derived.Lib.LaidU8
import Derived.Test.YtmiokadmddjccaaGreatDoorProg
import Derived.Shelf.LaysM
import Derived.Shelf.Strconv.Itoa3
import Derived.Shelf.Strings.Replace
import Derived.Shelf.Strings.OnBuilder
import Derived.Shelf.Strings.Search3
import Derived.Shelf.Small.Utf8
import Derived.Shelf.LaysC
import Derived.Shelf.Unicode.DecodeAny
import Derived.Shelf.Unicode.ValidAny
import Derived.Shelf.Small.Wraps
import Derived.Test.YtmiokadmddjccaaGreatDoorCards
import Derived.Test.YtmiokadmddjccaaGreatDoorTie
import Derived.Lib.LaidIn
import Derived.Lib.LaidU8T
import Derived.Deep.DeepHandedRow
import Derived.Deep.DeepWitnessRowRef
import Derived.ProofKit
import Derived.SizedLaws
import Derived.OpenShut
import Derived.Lib.SmallJoins
import Derived.Stop.LaidTwo
import Derived.Deep.Slices
import Derived.Deep.Fields
import Derived.ChangeSame
import Derived.SevenTiedAt
import Derived.PinnedBridge
import Derived.Shelf.Vars
import Derived.Lib.ItoaNum
import Derived.Laws.StructEq
import Derived.Lib.ValidU
import Derived.Lib.TrimUEq
import Derived.Lib.ValidLaws
set_option linter.unusedSimpArgs false
set_option linter.unusedVariables false
section
/- Sh: regions: what an operation looks at, and turns. No statement of the program is proved here. -/
namespace Go.Sh
open Go Go.RowKit
set_option maxHeartbeats 4000000

structure SOper where
  dst : Option Nat
  guard : Option (Nat × Bool)
  fp : Option Nat
  op : SOp

def readsL (xs : List Arg) : List Nat := xs.flatMap Arg.reads
def readsO (x : Option Arg) : List Nat := match x with | some x => x.reads | none => []
def SOp.reads : SOp → List Nat
  | .mov x | .un _ x | .cvi _ x | .cvs x | .b2s x | .slen x | .box x | .fld _ _ _ x | .fldA _ x | .ld _ _ x | .len x | .ext x _ | .nchk x | .rng x | .nxt x | .mks _ _ x | .mkI _ x | .pan x => x.reads
  | .pick c a b => c.reads ++ a.reads ++ b.reads
  | .bin _ _ x y | .imm _ x y | .sidx x y | .st _ x y | .idxA _ x y | .app _ _ _ x y | .appS _ _ x y | .appN _ _ _ x y | .appNS _ _ x y | .lkp _ _ x y => x.reads ++ y.reads
  | .bsl _ xs | .bslO _ _ xs | .call _ _ xs => readsL xs
  | .callv x _ xs => x.reads ++ readsL xs
  | .mkf _ a b => readsL a ++ readsL b
  | .ssub x lo hi | .sub _ x lo hi => x.reads ++ readsO lo ++ readsO hi
  | .new _ => []
  | .build _ ps => readsL (ps.map (·.2.2))
def SOper.reads (o : SOper) : List Nat := (match o.guard with | some (g, _) => [g] | none => []) ++ o.op.reads
def SOp.rb : SOp → Bool
  | .ld .. | .st .. => true
  | .call _ m _ | .callv _ m _ => !Nat.beq m 0
  | _ => false
def SOp.wb : SOp → Bool
  | .st .. => true
  | .call _ m _ | .callv _ m _ => !Nat.beq m 0
  | _ => false
def SOp.wr : SOp → Bool
  | .app .. | .appS .. => true
  | .call _ m _ | .callv _ m _ => !Nat.beq m 0
  | _ => false
def SOp.wi : SOp → Bool
  | .nxt .. => true
  | _ => false
def only : List Nat → Option Nat
  | [d] => some d
  | _ => none
theorem only_eq {I : List Nat} {k : Nat} (h : only I = some k) : I = [k] := by
  unfold only at h; split at h
  · cases h; rfl
  · cases h
def SOp.foot (s : FS) : SOp → Option Nat
  | .ld _ _ x => match x.get s with | some (.ptr d _) => some d | some (.pv (.el _)) => some 999 | _ => none
  | .st _ x _ => match x.get s with | some (.ptr d _) => some d | _ => none
  | .call _ m xs => match seqO (fun x : Arg => x.get s) xs with
    | some args => only (handI s m args)
    | none => none
  | _ => none
theorem foot_call {s : FS} {f m : Nat} {xs : List Arg} {args : List TV} (hx : seqO (fun x : Arg => x.get s) xs = some args) {k : Nat} (h : SOp.foot s (.call f m xs) = some k) : handI s m args = [k] := by
  simp only [SOp.foot, hx] at h
  exact only_eq h
theorem wb_rb {o : SOp} (h : o.wb = true) : o.rb = true := by cases o <;> first | exact h | cases h | rfl

section
variable {P : Program} {C : Oracle} {s s' : FS} {dst : Option Nat} {d : Nat}

theorem get_congr {x : Arg} (h : ∀ k ∈ x.reads, s'.t k = s.t k) : x.get s' = x.get s := by
  cases x with
  | tmp t => exact h t (by simp [Arg.reads])
  | val v => rfl
theorem getL_congr {α : Type} {xs : List Arg} (h : ∀ k ∈ readsL xs, s'.t k = s.t k) (f : TV → Option α) : seqO (fun x : Arg => (x.get s').bind f) xs = seqO (fun x : Arg => (x.get s).bind f) xs :=
  seqO_congr fun x hx => by rw [get_congr fun k hk => h k (List.mem_flatMap.2 ⟨x, hx, hk⟩)]
theorem getl_congr {xs : List Arg} (h : ∀ k ∈ readsL xs, s'.t k = s.t k) : seqO (fun x : Arg => x.get s') xs = seqO (fun x : Arg => x.get s) xs :=
  seqO_congr fun x hx => get_congr fun k hk => h k (List.mem_flatMap.2 ⟨x, hx, hk⟩)
theorem bound_congr {x : Option Arg} (h : ∀ k ∈ readsO x, s'.t k = s.t k) (n : Nat) : bound s' n x = bound s n x := by
  cases x with
  | none => rfl
  | some x => simp only [bound]; rw [get_congr h]
theorem reach_congr {rows : Bool} (hb : ∀ d, s.ment d → s'.b d = s.b d) (hr : ∀ d, s.ment d → s'.r d = s.r d) : ∀ (n : Nat) (l seen : List Nat), (∀ d ∈ l, s.ment d) → reach s' rows n l seen = reach s rows n l seen
  | 0, _, _, _ => by simp only [reach]
  | n + 1, [], _, _ => by simp only [reach]
  | n + 1, d :: l, seen, h => by
    have hd := h d (List.mem_cons_self ..)
    have hl : ∀ x ∈ l, s.ment x := fun x hx => h x (List.mem_cons_of_mem _ hx)
    simp only [reach, hb d hd, hr d hd]
    split
    · exact reach_congr hb hr n l seen hl
    · split
      · rename_i cs hcs
        refine reach_congr hb hr n _ _ (fun x hx => ?_)
        rcases List.mem_append.1 hx with hx | hx
        · obtain ⟨c, hc, hx⟩ := List.mem_flatMap.1 hx
          exact .inr ⟨d, cs, c, hcs, hc, ids1_ment hx⟩
        · exact hl x hx
      · split
        · exact reach_congr hb hr n l _ hl
        · exact reach_congr hb hr n l seen hl
theorem reach_seen {s : FS} {rows : Bool} : ∀ (n : Nat) (l seen : List Nat), ∀ x ∈ seen, x ∈ reach s rows n l seen
  | 0, _, _, x, hx => by simp only [reach]; exact hx
  | n + 1, [], _, x, hx => by simp only [reach]; exact hx
  | n + 1, d :: l, seen, x, hx => by
    simp only [reach]
    split
    · exact reach_seen n _ _ x hx
    · split
      · exact reach_seen n _ _ x (List.mem_append_left _ hx)
      · split
        · exact reach_seen n _ _ x (List.mem_append_left _ hx)
        · exact reach_seen n _ _ x hx
theorem reach_foot {rows : Bool} {R : List Nat} (hb : ∀ d, s.ment d → d ∈ R → s'.b d = s.b d) (hb2 : ∀ d, s.ment d → (s'.b d = none ↔ s.b d = none)) (hr : ∀ d, s.ment d → s'.r d = s.r d) : ∀ (n : Nat) (l seen : List Nat), (∀ d ∈ l, s.ment d) → ((∀ d ∈ reach s rows n l seen, d ∈ R) ∨ (∀ d ∈ reach s' rows n l seen, d ∈ R)) → reach s' rows n l seen = reach s rows n l seen
  | 0, _, _, _, _ => by simp only [reach]
  | n + 1, [], _, _, _ => by simp only [reach]
  | n + 1, d :: l, seen, h, hR => by
    have hd := h d (List.mem_cons_self ..)
    have hl : ∀ x ∈ l, s.ment x := fun x hx => h x (List.mem_cons_of_mem _ hx)
    simp only [reach, hr d hd] at hR
    simp only [reach, hr d hd]
    cases hp : pos seen d with
    | some j => rw [hp] at hR; exact reach_foot hb hb2 hr n l seen hl hR
    | none =>
      rw [hp] at hR
      cases hs : s.b d with
      | some cs =>
        rw [hs] at hR
        obtain ⟨cs', hs'⟩ : ∃ cs', s'.b d = some cs' := by
          cases hc : s'.b d with
          | none => rw [(hb2 d hd).1 hc] at hs; cases hs
          | some c => exact ⟨c, rfl⟩
        rw [hs'] at hR
        simp only at hR
        have hdR : d ∈ R := hR.elim (fun h => h d (reach_seen _ _ _ d (by simp))) (fun h => h d (reach_seen _ _ _ d (by simp)))
        have he := hb d hd hdR
        rw [hs, hs'] at he; cases he
        rw [hs']
        refine reach_foot hb hb2 hr n _ _ (fun x hx => ?_) hR
        rcases List.mem_append.1 hx with hx | hx
        · obtain ⟨c, hc, hx⟩ := List.mem_flatMap.1 hx
          exact .inr ⟨d, cs, c, hs, hc, ids1_ment hx⟩
        · exact hl x hx
      | none =>
        have hs' := (hb2 d hd).2 hs
        rw [hs, hs'] at hR
        rw [hs']
        simp only at hR ⊢
        cases hq : s.r d with
        | none => rw [hq] at hR; simp only at hR ⊢; exact reach_foot hb hb2 hr n l seen hl hR
        | some q =>
          rw [hq] at hR
          cases rows with
          | true => simp only at hR ⊢; exact reach_foot hb hb2 hr n l _ hl hR
          | false => simp only at hR ⊢; exact reach_foot hb hb2 hr n l seen hl hR
theorem callEff_congr {k f mode : Nat} {xs : List TV} (hm : ∀ x ∈ xs, ∀ d, Ment d x → s.ment d) (hb : (!Nat.beq mode 0) = true → ∀ d, s.ment d → d ∈ handI s mode xs → s'.b d = s.b d) (hb2 : (!Nat.beq mode 0) = true → ∀ d, s.ment d → (s'.b d = none ↔ s.b d = none)) (hr : (!Nat.beq mode 0) = true → ∀ d, s.ment d → s'.r d = s.r d) : callEff C s' k f mode xs = callEff C s k f mode xs := by
  unfold callEff
  cases h0 : Nat.beq mode 0 with
  | true => simp [seqO]
  | false =>
    simp only [h0, Bool.not_false, forall_const, handI, Bool.false_eq_true, if_false] at hb hb2 hr
    have hids : ∀ d ∈ xs.flatMap TV.ids2, s.ment d := fun d hd => by
      obtain ⟨x, hx, hd⟩ := List.mem_flatMap.1 hd
      exact hm x hx d (ids2_ment hd)
    have e1 := reach_foot (rows := Nat.beq mode 2) hb hb2 hr 64 (xs.flatMap TV.ids2) [] hids (.inl fun _ h => h)
    have e2 := (reach_spec (s := s) (rows := Nat.beq mode 2) 64 (xs.flatMap TV.ids2) [] (by simp) (by simp) hids).2
    simp only [Bool.false_eq_true, if_false, e1]
    have e3 : seqO (fun d => (s'.mo d).bind (MO.ren (rhoIn (reach s (Nat.beq mode 2) 64 (xs.flatMap TV.ids2) [])))) (reach s (Nat.beq mode 2) 64 (xs.flatMap TV.ids2) []) = seqO (fun d => (s.mo d).bind (MO.ren (rhoIn (reach s (Nat.beq mode 2) 64 (xs.flatMap TV.ids2) [])))) (reach s (Nat.beq mode 2) 64 (xs.flatMap TV.ids2) []) :=
      seqO_congr fun x hx => by unfold FS.mo; rw [hb x (e2 x hx) hx, hr x (e2 x hx)]
    rw [e3]
theorem seq_ment {xs : List Arg} {ts : List TV} (h : seqO (fun x : Arg => x.get s) xs = some ts) : ∀ x ∈ ts, ∀ d, Ment d x → s.ment d := by
  intro x hx d hd
  obtain ⟨l1, h1⟩ := seqO_spec h
  obtain ⟨j, hj⟩ := List.getElem?_of_mem hx
  have hjl : j < xs.length := by rw [l1]; exact (List.getElem?_eq_some_iff.1 hj).1
  obtain ⟨y, hy1, hy2⟩ := h1 j xs[j] (List.getElem?_eq_getElem hjl)
  rw [hj] at hy1; cases hy1
  exact get_ment hy2 hd
theorem callee_ment {t : TV} {f : Nat} {fa fb : List TV} (ht : t.callee = some (f, fa, fb)) : ∀ x, (x ∈ fa ∨ x ∈ fb) → ∀ d, Ment d x → Ment d t := by
  unfold TV.callee at ht
  split at ht
  · cases ht; exact fun x hx d hd => hx.elim (fun hx => .fn1 hx hd) (fun hx => .fn2 hx hd)
  · cases ht
    intro x hx d hd
    rcases hx with hx | hx
    · obtain ⟨p, _, rfl⟩ := List.mem_map.1 hx; cases hd
    · obtain ⟨p, _, rfl⟩ := List.mem_map.1 hx; cases hd
  · cases ht; simp
  · cases ht
theorem callv_ment {x : Arg} {t : TV} {f : Nat} {fa fb vs : List TV} {xs : List Arg} (h1 : (x.get s).bind TV.callee = some (f, fa, fb)) (h2 : seqO (fun x : Arg => x.get s) xs = some vs) : ∀ y ∈ fa ++ vs ++ fb, ∀ d, Ment d y → s.ment d := by
  obtain ⟨tc, hc1, hc2⟩ := Option.bind_eq_some_iff.1 h1
  intro y hy d hd
  rcases List.mem_append.1 hy with hy | hy
  · rcases List.mem_append.1 hy with hy | hy
    · exact get_ment hc1 (callee_ment hc2 y (.inl hy) d hd)
    · exact seq_ment h2 y hy d hd
  · exact get_ment hc1 (callee_ment hc2 y (.inr hy) d hd)

theorem eff_congr {o : SOp} (h : ∀ k ∈ o.reads, s'.t k = s.t k) (hb : o.rb = true → ∀ d, s.ment d → (∀ k, o.foot s = some k → d = k) → s'.b d = s.b d) (hb2 : o.rb = true → ∀ d, s.ment d → (s'.b d = none ↔ s.b d = none)) (hr : o.wr = true → ∀ d, s.ment d → s'.r d = s.r d) (hi : o.wi = true → ∀ d, s.ment d → s'.i d = s.i d) : eff P C dst o s' = eff P C dst o s := by
  cases o with
  | mov x | un _ x | cvi _ x | cvs x | b2s x | slen x | box x | fld _ _ _ x | fldA _ x | len x | ext x _ | nchk x | rng x | mks _ _ x | mkI _ x => simp only [eff, get_congr (x := x) h]
  | pan x => rfl
  | pick c a b =>
    simp only [SOp.reads, List.mem_append] at h
    have e1 := get_congr (x := c) fun k hk => h k (.inl (.inl hk))
    have e2 := get_congr (x := a) fun k hk => h k (.inl (.inr hk))
    have e3 := get_congr (x := b) fun k hk => h k (.inr hk)
    simp only [eff, e1]
    split
    · rename_i t _; cases t <;> simp [e2, e3]
    · rfl
  | bin _ _ x y | imm _ x y | sidx x y | idxA _ x y | appN _ _ _ x y | appNS _ _ x y | lkp _ _ x y =>
    simp only [SOp.reads, List.mem_append] at h
    have e1 := get_congr (x := x) fun k hk => h k (.inl hk)
    have e2 := get_congr (x := y) fun k hk => h k (.inr hk)
    simp only [eff, e1, e2]
  | bsl _ xs | bslO _ _ xs => simp only [eff, getL_congr h]
  | mkf _ a b =>
    simp only [SOp.reads, List.mem_append] at h
    simp only [eff, getl_congr (xs := a) fun k hk => h k (.inl hk), getl_congr (xs := b) fun k hk => h k (.inr hk)]
  | call f m xs =>
    simp only [eff, getl_congr (xs := xs) h]
    cases hx : seqO (fun x : Arg => x.get s) xs with
    | none => simp only [Option.bind_none]
    | some vs => simp only [Option.bind_some]; exact callEff_congr (seq_ment hx) (fun h0 d hd hdI => hb h0 d hd (fun k hk => by rw [foot_call hx hk] at hdI; simpa using hdI)) hb2 hr
  | callv x m xs =>
    simp only [SOp.reads, List.mem_append] at h
    have e1 := get_congr (x := x) fun k hk => h k (.inl hk)
    simp only [eff, e1, getl_congr (xs := xs) fun k hk => h k (.inr hk)]
    split
    · rename_i f fa fb vs h1 h2
      exact callEff_congr (callv_ment (t := .unk) h1 h2) (fun h0 d hd _ => hb h0 d hd (fun k hk => by cases hk)) hb2 hr
    · rfl
  | ssub x lo up | sub _ x lo up =>
    simp only [SOp.reads, List.mem_append] at h
    have e1 := get_congr (x := x) fun k hk => h k (.inl (.inl hk))
    simp only [eff, e1, bound_congr (x := lo) fun k hk => h k (.inl (.inr hk)), bound_congr (x := up) fun k hk => h k (.inr hk)]
  | new _ => rfl
  | build z ps =>
    have : partsT s' ps = partsT s ps := seqO_congr fun p hp => by
      rw [get_congr fun k hk => h k (List.mem_flatMap.2 ⟨p.2.2, List.mem_map.2 ⟨p, hp, rfl⟩, hk⟩)]
    simp only [eff, this]
  | ld a n x =>
    have e1 := get_congr (x := x) h
    simp only [eff, e1]
    split
    · rename_i d off hx
      rw [hb rfl d (get_ment hx (.ptr _)) (fun k hk => by simp only [SOp.foot, hx] at hk; exact Option.some.inj hk)]
    · rfl
    · rfl
  | st n x y =>
    simp only [SOp.reads, List.mem_append] at h
    have e1 := get_congr (x := x) fun k hk => h k (.inl hk)
    have e2 := get_congr (x := y) fun k hk => h k (.inr hk)
    simp only [eff, e1, e2]
    split
    · rename_i d off hx
      rw [hb rfl d (get_ment hx (.ptr _)) (fun k hk => by simp only [SOp.foot, hx] at hk; exact Option.some.inj hk)]
    · rfl
  | nxt x =>
    have e1 := get_congr (x := x) h
    simp only [eff, e1]
    split
    · rename_i d hx
      rw [hi rfl d (get_ment hx .it)]
    · rfl
  | app e W b x y =>
    simp only [SOp.reads, List.mem_append] at h
    have e1 := get_congr (x := x) fun k hk => h k (.inl hk)
    have e2 := get_congr (x := y) fun k hk => h k (.inr hk)
    simp only [eff, e1, e2]
    split
    · rename_i d W' es es2 hx _
      rw [hr rfl d (get_ment hx (.own _ _))]
    · rfl
  | appS e b x y =>
    simp only [SOp.reads, List.mem_append] at h
    have e1 := get_congr (x := x) fun k hk => h k (.inl hk)
    have e2 := get_congr (x := y) fun k hk => h k (.inr hk)
    simp only [eff, e1, e2]
    split
    · rename_i d W' es es2 hx _
      rw [hr rfl d (get_ment hx (.own _ _))]
    · rfl

def ovB (dst : Option Nat) : Upd → Nat → Option (List TV)
  | .box cs, d => if dst = some d then some cs else none
  | .wr e cs, d => if d = e then some cs else none
  | .mem us, d => match us.lookup d with | some (.box cs) => some cs | _ => none
  | _, _ => none
def ovR : Upd → Nat → Option (Nat × Nat × Nat)
  | .row e q, d => if d = e then some q else none
  | .mem us, d => match us.lookup d with | some (.row e W n) => some (e, W, n) | _ => none
  | _, _ => none
def ovI : Upd → Nat → Option (ByteArray × Nat)
  | .it e q, d => if d = e then some q else none
  | _, _ => none
theorem upd_b (u : Upd) : (s.upd dst u).b d = match ovB dst u d with | some cs => some cs | none => s.b d := by
  cases u with
  | box cs =>
    cases dst with
    | none => rfl
    | some e => simp only [FS.upd, FS.setB, setF, ovB, Option.some.injEq]; by_cases h : d = e <;> simp [h, Ne.symm, eq_comm]
  | wr e cs => simp only [FS.upd, FS.setB, setF, ovB]; split <;> rfl
  | mem us =>
    simp only [FS.upd, memB, ovB]
    cases us.lookup d with
    | none => rfl
    | some m => cases m <;> rfl
  | _ => rfl
theorem upd_r (u : Upd) : (s.upd dst u).r d = match ovR u d with | some q => some q | none => s.r d := by
  cases u with
  | row e q => simp only [FS.upd, FS.setR, setF, ovR]; split <;> rfl
  | mem us =>
    simp only [FS.upd, memR, ovR]
    cases us.lookup d with
    | none => rfl
    | some m => cases m <;> rfl
  | box cs => cases dst <;> rfl
  | _ => rfl
theorem upd_i (u : Upd) : (s.upd dst u).i d = match ovI u d with | some q => some q | none => s.i d := by
  cases u with
  | it e q => simp only [FS.upd, FS.setI, setF, ovI]; split <;> rfl
  | box cs => cases dst <;> rfl
  | _ => rfl
theorem upd_t (u : Upd) : (s.upd dst u).t = s.t := by cases u <;> first | rfl | (cases dst <;> rfl)
theorem put_t {k : Nat} {x : TV} : (s.put dst x).t k = if dst = some k then some x else s.t k := by
  cases dst with
  | none => simp [FS.put]
  | some d =>
    simp only [FS.put, FS.setT, setF, Option.some.injEq]
    by_cases h : k = d
    · simp [h]
    · simp [h, Ne.symm h]
theorem put_b {x : TV} : (s.put dst x).b = s.b := by cases dst <;> rfl
theorem put_r {x : TV} : (s.put dst x).r = s.r := by cases dst <;> rfl
theorem put_i {x : TV} : (s.put dst x).i = s.i := by cases dst <;> rfl

structure Shape (s : FS) (dst : Option Nat) (o : SOp) (x : TV) (u : Upd) : Prop where
  b : ∀ d cs, ovB dst u d = some cs → d ∈ o.news dst ∨ (o.wb = true ∧ s.ment d ∧ (∀ k, o.foot s = some k → d = k) ∧ ∃ cs0, s.b d = some cs0)
  r : ∀ d q, ovR u d = some q → d ∈ o.news dst ∨ (o.wr = true ∧ s.ment d)
  i : ∀ d q, ovI u d = some q → d ∈ o.news dst ∨ (o.wi = true ∧ s.ment d)
  x : ∀ d, Ment d x → s.ment d ∨ d ∈ o.news dst
  m : ∀ d e cs c, ovB dst u e = some cs → c ∈ cs → Ment d c → s.ment d ∨ d ∈ o.news dst
theorem Shape.no {o : SOp} {x : TV} (h : ∀ d, Ment d x → s.ment d ∨ d ∈ o.news dst) : Shape s dst o x .no :=
  ⟨fun _ _ h => (by cases h), fun _ _ h => (by cases h), fun _ _ h => (by cases h), h, fun _ _ _ _ h => (by cases h)⟩
theorem map_shape {α : Type} {o : SOp} {q : Option α} {f : α → TV} {x : TV} {u : Upd} (h : q.map (fun v => (f v, Upd.no)) = some (x, u)) (hx : ∀ v, q = some v → ∀ d, Ment d (f v) → s.ment d ∨ d ∈ o.news dst) : Shape s dst o x u := by
  obtain ⟨v, h1, h⟩ := Option.map_eq_some_iff.1 h
  cases h
  exact .no (hx v h1)
theorem scal_shape {o : SOp} {m : Sem Value} {x : TV} {u : Upd} (h : scal P m = some (x, u)) : Shape s dst o x u := by
  obtain ⟨v, rfl, rfl, _⟩ := scal_inv h
  exact .no (fun d hd => by cases hd)
theorem pv_no {p : PV} {A : Prop} (h : Ment d (.pv p)) : A := by cases h
theorem argCells_ment {x : Arg} {c : TV} {cs : List TV} (h : (x.get s).bind TV.cells = some cs) (hc : c ∈ cs) (hm : Ment d c) : s.ment d := by
  obtain ⟨t, h1, h2⟩ := Option.bind_eq_some_iff.1 h
  exact get_ment h1 (cells_ment h2 hc hm)
theorem fillT_mem {c : TV} : ∀ {ps : List (Nat × Nat × List TV)} {cs cs' : List TV}, fillT cs ps = some cs' → c ∈ cs' → c ∈ cs ∨ ∃ p ∈ ps, c ∈ p.2.2
  | [], cs, cs', h, hc => by simp [fillT] at h; subst h; exact .inl hc
  | (off, size, xs) :: ps, cs, cs', h, hc => by
    simp only [fillT] at h
    split at h
    · rcases fillT_mem h hc with h1 | ⟨p, hp, h1⟩
      · rcases mem_splice h1 with h2 | h2
        · exact .inl h2
        · exact .inr ⟨_, List.mem_cons_self .., h2⟩
      · exact .inr ⟨p, List.mem_cons_of_mem _ hp, h1⟩
    · cases h
theorem ren0_ment {ρ : Nat → Option Nat} {t y : TV} (h : t.ren0 ρ = some y) (hm : Ment d y) : ∃ d', ρ d' = some d := by
  cases t <;> simp only [TV.ren0] at h
  · cases h; cases hm
  · cases h; cases hm
  · obtain ⟨d', h1, rfl⟩ := Option.map_eq_some_iff.1 h; cases hm; exact ⟨_, h1⟩
  · cases h
    split at hm
    · rename_i d' h1; cases hm; exact ⟨_, h1⟩
    · cases hm
  · obtain ⟨d', h1, rfl⟩ := Option.map_eq_some_iff.1 h; cases hm; exact ⟨_, h1⟩
  all_goals cases h
theorem seq_ren_ment {ρ : Nat → Option Nat} {f : TV → Option TV} (hf : ∀ t y, f t = some y → Ment d y → ∃ d', ρ d' = some d) {xs ys : List TV} (h : seqO f xs = some ys) {c : TV} (hc : c ∈ ys) (hm : Ment d c) : ∃ d', ρ d' = some d := by
  obtain ⟨l1, h1⟩ := seqO_spec h
  obtain ⟨j, hj⟩ := List.getElem?_of_mem hc
  have hjl : j < xs.length := by rw [l1]; exact (List.getElem?_eq_some_iff.1 hj).1
  obtain ⟨y, hy1, hy2⟩ := h1 j xs[j] (List.getElem?_eq_getElem hjl)
  rw [hj] at hy1; cases hy1
  exact hf _ _ hy2 hm
theorem renF_ment {ρ : Nat → Option Nat} {t y : TV} (h : t.renF ρ = some y) (hm : Ment d y) : ∃ d', ρ d' = some d := by
  cases t with
  | fn f a b =>
    simp only [TV.renF] at h
    split at h
    · rename_i a' b' h1 h2
      cases h
      cases hm with
      | fn1 hc hm => exact seq_ren_ment (fun _ _ => ren0_ment) h1 hc hm
      | fn2 hc hm => exact seq_ren_ment (fun _ _ => ren0_ment) h2 hc hm
    · cases h
  | _ => simp only [TV.renF] at h; exact ren0_ment h hm
theorem renE_ment {ρ : Nat → Option Nat} {t y : TV} (h : t.renE ρ = some y) (hm : Ment d y) : ∃ d', ρ d' = some d := by
  cases t with
  | agg cs =>
    simp only [TV.renE] at h
    obtain ⟨l, h1, rfl⟩ := Option.map_eq_some_iff.1 h
    cases hm with
    | agg hc hm => exact seq_ren_ment (fun _ _ => renF_ment) h1 hc hm
  | _ => simp only [TV.renE] at h; exact renF_ment h hm
theorem ren1_ment {ρ : Nat → Option Nat} {t y : TV} (h : t.ren1 ρ = some y) (hm : Ment d y) : ∃ d', ρ d' = some d := by
  cases t with
  | mp ks xs =>
    simp only [TV.ren1] at h
    obtain ⟨l, h1, rfl⟩ := Option.map_eq_some_iff.1 h
    cases hm with
    | mp hc hm => exact seq_ren_ment (fun _ _ => renE_ment) h1 hc hm
  | _ => simp only [TV.ren1] at h; exact renF_ment h hm
theorem ren2_ment {ρ : Nat → Option Nat} {t y : TV} (h : t.ren2 ρ = some y) (hm : Ment d y) : ∃ d', ρ d' = some d := by
  cases t with
  | agg cs =>
    simp only [TV.ren2] at h
    obtain ⟨l, h1, rfl⟩ := Option.map_eq_some_iff.1 h
    cases hm with
    | agg hc hm => exact seq_ren_ment (fun _ _ => ren1_ment) h1 hc hm
  | _ => simp only [TV.ren2] at h; exact ren1_ment h hm
theorem ren3_ment {ρ : Nat → Option Nat} {t y : TV} (h : t.ren3 ρ = some y) (hm : Ment d y) : ∃ d', ρ d' = some d := by
  cases t with
  | tuple cs =>
    simp only [TV.ren3] at h
    obtain ⟨l, h1, rfl⟩ := Option.map_eq_some_iff.1 h
    cases hm with
    | tuple hc hm => exact seq_ren_ment (fun _ _ => ren2_ment) h1 hc hm
  | _ => simp only [TV.ren3] at h; exact ren2_ment h hm
theorem rhoOut_inv {I : List Nat} {k d d' : Nat} (h : rhoOut I k d' = some d) : d ∈ I ∨ ∃ q, q < 4 ∧ d = newId k q := by
  unfold rhoOut at h
  split at h
  · split at h
    · rename_i i hi; cases h; exact .inl (List.mem_of_getElem? hi)
    · split at h
      · rename_i hq; rw [Nat.blt_eq] at hq; cases h; exact .inr ⟨_, hq, rfl⟩
      · cases h
  · cases h
theorem call_shape {k f mode : Nat} {xs : List TV} {x : TV} {u : Upd} {o : SOp} (hm : ∀ x ∈ xs, ∀ d, Ment d x → s.ment d) (hk : k = dstId dst) (hnews : o.news dst = [newId k 0, newId k 1, newId k 2, newId k 3]) (hwb : o.wb = !Nat.beq mode 0) (hwr : o.wr = !Nat.beq mode 0) (hft : ∀ k, o.foot s = some k → handI s mode xs = [k]) (h : callEff C s k f mode xs = some (x, u)) : Shape s dst o x u := by
  obtain ⟨xs', os, y, os', us, h1, h2, h3, h4, h5, h6, rfl⟩ := callEff_inv h
  obtain ⟨hI, hIm⟩ := handI_spec (s := s) mode hm
  have key : ∀ d d', rhoOut (handI s mode xs) k d' = some d → d ∈ o.news dst ∨ ((!Nat.beq mode 0) = true ∧ s.ment d) := by
    intro d d' hd
    rcases rhoOut_inv hd with h | ⟨q, hq, rfl⟩
    · right
      refine ⟨?_, hIm d h⟩
      cases h0 : Nat.beq mode 0 with
      | false => rfl
      | true => simp [handI, h0] at h
    · left
      rw [hnews]
      match q, hq with
      | 0, _ => simp
      | 1, _ => simp
      | 2, _ => simp
      | 3, _ => simp
  have key' : ∀ d d', rhoOut (handI s mode xs) k d' = some d → s.ment d ∨ d ∈ o.news dst := fun d d' hd => (key d d' hd).elim .inr (fun h => .inl h.2)
  have hlk : ∀ i m, us.lookup i = some m → ∃ d' m0, rhoOut (handI s mode xs) k d' = some i ∧ MO.ren (rhoOut (handI s mode xs) k) m0 = some m := fun i m hi => by
    obtain ⟨q, m0, _, a2, a3⟩ := (outs_spec h6).1 i m hi
    exact ⟨_, m0, a2, a3⟩
  refine ⟨fun d cs hd => ?_, fun d q hd => ?_, fun d q hd => (by cases hd), fun d hd => ?_, fun d e cs c he hc hd => ?_⟩
  · simp only [ovB] at hd
    split at hd
    · rename_i cs0 hl
      obtain ⟨q, m0, a0, a1, a2⟩ := (outs_spec h6).1 _ _ hl
      rw [hwb]
      rcases key d _ a1 with hn | hn
      · exact .inl hn
      · cases hI : (handI s mode xs)[q]? with
        | none =>
          left
          rw [Nat.zero_add] at a1
          unfold rhoOut at a1
          rw [if_pos (Nat.ble_eq_true_of_le (by omega)), Nat.add_sub_cancel_left, hI] at a1
          simp only at a1
          split at a1
          · cases a1
            rename_i hq
            rw [Nat.blt_eq] at hq
            rw [hnews]
            generalize q - (handI s mode xs).length = j at hq
            match j, hq with
            | 0, _ => simp
            | 1, _ => simp
            | 2, _ => simp
            | 3, _ => simp
          · cases a1
        | some i =>
          right
          rw [Nat.zero_add] at a1
          unfold rhoOut at a1
          rw [if_pos (Nat.ble_eq_true_of_le (by omega)), Nat.add_sub_cancel_left, hI] at a1
          cases a1
          refine ⟨hn.1, hn.2, fun k hk => ?_, ?_⟩
          · have := List.mem_of_getElem? hI
            rw [hft k hk] at this
            simpa using this
          · obtain ⟨g1, g2, g3⟩ := handed h2
            obtain ⟨_, _, _, o4⟩ := moOk_spec h4
            have hq : q < os.length := by rw [← g1]; exact (List.getElem?_eq_some_iff.1 hI).1
            cases hm0 : os[q] with
            | box c0 =>
              obtain ⟨i', c, b1, b2, _⟩ := g2 q c0 (by rw [← hm0]; exact List.getElem?_eq_getElem hq)
              rw [hI] at b1; cases b1
              exact ⟨c, b2⟩
            | row e W n =>
              obtain ⟨n', hn', _⟩ := o4 q e W n (by rw [← hm0]; exact List.getElem?_eq_getElem hq)
              rw [hn'] at a0; cases a0
              simp [MO.ren] at a2
    · cases hd
  · simp only [ovR] at hd
    split at hd
    · rename_i hl
      obtain ⟨d', m0, a1, _⟩ := hlk _ _ hl
      rw [hwr]; exact key d d' a1
    · cases hd
  · obtain ⟨d', a1⟩ := ren3_ment h5 hd
    exact key' d d' a1
  · simp only [ovB] at he
    split at he
    · rename_i hl
      cases he
      obtain ⟨d', m0, _, a2⟩ := hlk _ _ hl
      cases m0 with
      | row e W n => simp [MO.ren] at a2
      | box c0 =>
        simp only [MO.ren] at a2
        obtain ⟨l, a3, a4⟩ := Option.map_eq_some_iff.1 a2
        cases a4
        obtain ⟨d', a5⟩ := seq_ren_ment (ρ := rhoOut (handI s mode xs) k) (f := TV.ren1 (rhoOut (handI s mode xs) k)) (fun _ _ h1 h2 => ren1_ment h1 h2) a3 hc hd
        exact key' d d' a5
    · cases he
theorem eff_shape {o : SOp} {x : TV} {u : Upd} (h : eff P C dst o s = some (x, u)) : Shape s dst o x u := by
  cases o with
  | mov y => exact map_shape (f := fun c => c) h (fun v hv d hd => .inl (get_ment hv hd))
  | pick c y z =>
    simp only [eff] at h
    split at h
    · exact map_shape (f := fun c => c) h (fun v hv d hd => .inl (get_ment hv hd))
    · cases h
  | bin op t a b =>
    simp only [eff] at h
    split at h
    · cases h
    · exact scal_shape h
    · cases h
  | un op a =>
    simp only [eff] at h
    split at h
    · exact scal_shape h
    · cases h
  | cvi k a => exact map_shape h (fun v hv d hd => by cases hd)
  | mkI t a => exact map_shape h (fun v hv d hd => by cases hd)
  | pan a => cases h
  | cvs a => exact map_shape h (fun v hv d hd => by cases hd)
  | b2s a => exact map_shape h (fun v hv d hd => by cases hd)
  | slen a => exact map_shape h (fun v hv d hd => by cases hd)
  | len a => exact map_shape h (fun v hv d hd => by cases hd)
  | imm mx a b =>
    simp only [eff] at h
    split at h
    · cases h; exact .no (fun d hd => by cases hd)
    · cases h
  | sidx a b =>
    simp only [eff] at h
    split at h
    · split at h
      · exact map_shape h (fun v hv d hd => by cases hd)
      · cases h
    · cases h
  | ssub a b c =>
    simp only [eff] at h
    split at h
    · split at h
      · split at h
        · cases h; exact .no (fun d hd => by cases hd)
        · cases h
      · cases h
    · cases h
  | new z =>
    simp only [eff] at h
    split at h
    · cases h
      refine ⟨fun d cs hd => ?_, fun _ _ h => (by cases h), fun _ _ h => (by cases h), fun d hd => ?_, fun d e cs c he hc hd => ?_⟩
      · simp only [ovB] at hd
        split at hd
        · rename_i e; cases e; exact .inl (by simp [SOp.news])
        · cases hd
      · cases hd; exact .inr (by simp [SOp.news])
      · simp only [ovB] at he
        split at he
        · cases he
          obtain ⟨v, _, rfl⟩ := List.mem_map.1 hc
          cases hd
        · cases he
    · cases h
  | box y =>
    simp only [eff] at h
    split at h
    · obtain ⟨cs', h1, h2⟩ := Option.map_eq_some_iff.1 h
      cases h2
      refine ⟨fun d cs hd => ?_, fun _ _ h => (by cases h), fun _ _ h => (by cases h), fun d hd => ?_, fun d e cs c he hc hd => ?_⟩
      · simp only [ovB] at hd
        split at hd
        · rename_i e; cases e; exact .inl (by simp [SOp.news])
        · cases hd
      · cases hd; exact .inr (by simp [SOp.news])
      · simp only [ovB] at he
        split at he
        · cases he; exact .inl (argCells_ment h1 hc hd)
        · cases he
    · cases h
  | mks bytes z n =>
    simp only [eff] at h
    split at h
    · split at h
      · cases h
        refine ⟨fun d cs hd => ?_, fun _ _ h => (by cases h), fun _ _ h => (by cases h), fun d hd => ?_, fun d e cs c he hc hd => ?_⟩
        · simp only [ovB] at hd
          split at hd
          · rename_i e; cases e; exact .inl (by simp [SOp.news])
          · cases hd
        · cases hd; exact .inr (by simp [SOp.news])
        · simp only [ovB] at he
          split at he
          · cases he
            obtain ⟨l, h1, h2⟩ := List.mem_flatten.1 hc
            rw [List.eq_of_mem_replicate h1] at h2
            obtain ⟨v, _, rfl⟩ := List.mem_map.1 h2
            cases hd
          · cases he
      · cases h
    · cases h
  | build z ps =>
    simp only [eff] at h
    obtain ⟨qs, h1, h⟩ := Option.bind_eq_some_iff.1 h
    refine map_shape h (fun v hv d hm => ?_)
    cases hm with
    | agg hc hm =>
    rcases fillT_mem hv hc with h3 | ⟨p, hp, h3⟩
    · obtain ⟨w, _, rfl⟩ := List.mem_map.1 h3
      cases hm
    · obtain ⟨k, hk⟩ := List.getElem?_of_mem hp
      obtain ⟨l1, hs1⟩ := seqO_spec h1
      have hkl : k < ps.length := by rw [l1]; exact (List.getElem?_eq_some_iff.1 hk).1
      obtain ⟨y, hy1, hy2⟩ := hs1 k ps[k] (List.getElem?_eq_getElem hkl)
      rw [hk] at hy1; cases hy1
      obtain ⟨xs, hx1, rfl⟩ := Option.map_eq_some_iff.1 hy2
      exact .inl (argCells_ment hx1 h3 hm)
  | lkp text z y i =>
    simp only [eff] at h
    split at h
    · rename_i ks xs k hy _
      split at h
      · exact map_shape (f := fun t => t) h (fun v hv d hm => .inl (get_ment hy (.mp (List.mem_of_getElem? hv) hm)))
      · cases h
        refine .no (fun d hm => ?_)
        unfold zeroT at hm
        split at hm
        · cases hm with
          | agg hc hm => obtain ⟨v, _, rfl⟩ := List.mem_map.1 hc; cases hm
        · cases hm
      · cases h
    · cases h
  | bslO e W xs =>
    simp only [eff] at h
    split at h
    · split at h
      · cases h
        refine ⟨fun _ _ h => (by cases h), fun d q hd => ?_, fun _ _ h => (by cases h), fun d hm => ?_, fun _ _ _ _ h => (by cases h)⟩
        · simp only [ovR] at hd
          split at hd
          · rename_i e; subst e; exact .inl (by simp [SOp.news])
          · cases hd
        · cases hm; exact .inr (by simp [SOp.news])
      · cases h
    · cases h
  | bsl W xs =>
    simp only [eff] at h
    obtain ⟨_, _, h⟩ := Option.bind_eq_some_iff.1 h
    split at h
    · cases h; exact .no (fun d hd => by cases hd)
    · cases h
  | fld a off size y =>
    simp only [eff] at h
    split at h
    · rename_i cs hy
      split at h
      · split at h
        · cases h
          refine .no (fun d hm => ?_)
          cases hm with
          | agg hc hm => exact .inl (get_ment hy (.agg (List.mem_of_mem_drop (List.mem_of_mem_take hc)) hm))
        · cases h
      · exact map_shape (f := fun c => c) h (fun v hv d hm => .inl (get_ment hy (.agg (List.mem_of_getElem? hv) hm)))
    · cases h
  | fldA off y =>
    simp only [eff] at h
    split at h
    · rename_i d' o' hy
      cases h
      exact .no (fun d hm => by cases hm; exact .inl (get_ment hy (.ptr _)))
    · cases h
      exact .no (fun d hm => by cases hm)
    · cases h
  | ld a size y =>
    simp only [eff] at h
    split at h
    · rename_i d' o' hy
      obtain ⟨cs, hb, h⟩ := Option.bind_eq_some_iff.1 h
      split at h
      · split at h
        · cases h
          refine .no (fun d hm => ?_)
          cases hm with
          | agg hc hm => exact .inl (.inr ⟨d', cs, _, hb, List.mem_of_mem_drop (List.mem_of_mem_take hc), hm⟩)
        · cases h
      · exact map_shape (f := fun c => c) h (fun v hv d hm => .inl (.inr ⟨d', cs, _, hb, List.mem_of_getElem? hv, hm⟩))
    · split at h
      · split at h
        · cases h
          refine .no (fun d hm => ?_)
          cases hm with
          | agg hc hm =>
            obtain ⟨p, _, rfl⟩ := List.mem_map.1 hc
            cases hm
        · cases h
      · exact map_shape h (fun v hv d hm => by cases hm)
    · cases h
  | st n y z =>
    simp only [eff] at h
    split at h
    · rename_i d' o' hy
      obtain ⟨cs, hb, h⟩ := Option.bind_eq_some_iff.1 h
      obtain ⟨xs, hxs, h⟩ := Option.bind_eq_some_iff.1 h
      split at h
      · cases h
        refine ⟨fun d cs' hd => ?_, fun _ _ h => (by cases h), fun _ _ h => (by cases h), fun d hd => (by cases hd), fun d e cs' c he hc hd => ?_⟩
        · simp only [ovB] at hd
          split at hd
          · rename_i e; subst e; exact .inr ⟨rfl, get_ment hy (.ptr _), fun k hk => by simp only [SOp.foot, hy] at hk; exact Option.some.inj hk, _, hb⟩
          · cases hd
        · simp only [ovB] at he
          split at he
          · cases he
            rcases mem_splice hc with h1 | h1
            · exact .inl (.inr ⟨_, cs, c, hb, h1, hd⟩)
            · exact .inl (argCells_ment hxs h1 hd)
          · cases he
      · cases h
    · cases h
  | idxA W y i =>
    simp only [eff] at h
    split at h
    · rename_i hy _
      split at h
      · cases h; exact .no (fun d hm => by cases hm; exact .inl (get_ment hy (.bs _ _ _)))
      · cases h
    · split at h
      · exact map_shape h (fun v hv d hm => by cases hm)
      · cases h
    · cases h
  | sub W y lo hi =>
    simp only [eff] at h
    split at h
    · rename_i hy
      split at h
      · split at h
        · cases h
          refine .no (fun d hm => ?_)
          split at hm <;> (cases hm; exact .inl (get_ment hy (.bs _ _ _)))
        · cases h
      · cases h
    · split at h
      · split at h
        · split at h
          · cases h; exact .no (fun d hm => by cases hm)
          · cases h
        · cases h
      · cases h
    · cases h
  | app e W b y z =>
    simp only [eff] at h
    split at h
    · rename_i d' W' es es2 hy _
      split at h
      · cases h
        refine ⟨fun _ _ h => (by cases h), fun d q hd => ?_, fun _ _ h => (by cases h), fun d hm => ?_, fun _ _ _ _ h => (by cases h)⟩
        · simp only [ovR] at hd
          split at hd
          · rename_i e; subst e; exact .inr ⟨rfl, get_ment hy (.own _ _)⟩
          · cases hd
        · cases hm; exact .inl (get_ment hy (.own _ _))
      · cases h
    · cases h
  | appS e b y z =>
    simp only [eff] at h
    split at h
    · rename_i d' W' es es2 hy _
      split at h
      · cases h
        refine ⟨fun _ _ h => (by cases h), fun d q hd => ?_, fun _ _ h => (by cases h), fun d hm => ?_, fun _ _ _ _ h => (by cases h)⟩
        · simp only [ovR] at hd
          split at hd
          · rename_i e; subst e; exact .inr ⟨rfl, get_ment hy (.own _ _)⟩
          · cases hd
        · cases hm; exact .inl (get_ment hy (.own _ _))
      · cases h
    · cases h
  | appN e W b y z =>
    simp only [eff] at h
    split at h
    · split at h
      · cases h
        refine ⟨fun _ _ h => (by cases h), fun d q hd => ?_, fun _ _ h => (by cases h), fun d hm => ?_, fun _ _ _ _ h => (by cases h)⟩
        · simp only [ovR] at hd
          split at hd
          · rename_i e; subst e; exact .inl (by simp [SOp.news])
          · cases hd
        · cases hm; exact .inr (by simp [SOp.news])
      · cases h
    · cases h
  | appNS e b y z =>
    simp only [eff] at h
    split at h
    · split at h
      · cases h
        refine ⟨fun _ _ h => (by cases h), fun d q hd => ?_, fun _ _ h => (by cases h), fun d hm => ?_, fun _ _ _ _ h => (by cases h)⟩
        · simp only [ovR] at hd
          split at hd
          · rename_i e; subst e; exact .inl (by simp [SOp.news])
          · cases hd
        · cases hm; exact .inr (by simp [SOp.news])
      · cases h
    · cases h
  | call f m xs =>
    simp only [eff] at h
    obtain ⟨vs, hv, h⟩ := Option.bind_eq_some_iff.1 h
    exact call_shape (seq_ment hv) rfl rfl rfl rfl (fun k hk => foot_call hv hk) h
  | callv y m xs =>
    simp only [eff] at h
    split at h
    · rename_i h1 h2
      exact call_shape (callv_ment (t := .unk) h1 h2) rfl rfl rfl rfl (fun k hk => by cases hk) h
    · cases h
  | ext y i =>
    simp only [eff] at h
    split at h
    · rename_i ts hy
      exact map_shape (f := fun c => c) h (fun v hv d hm => .inl (get_ment hy (.tuple (List.mem_of_getElem? hv) hm)))
    · cases h
  | nchk y =>
    simp only [eff] at h
    split at h
    · rename_i hy
      cases h; exact .no (fun d hm => .inl (get_ment hy hm))
    · rename_i hy
      cases h; exact .no (fun d hm => .inl (get_ment hy hm))
    · cases h
  | mkf f a b =>
    simp only [eff] at h
    split at h
    · rename_i h1 h2
      cases h
      refine .no (fun d hm => ?_)
      cases hm with
      | fn1 hc hm => exact .inl (seq_ment h1 _ hc d hm)
      | fn2 hc hm => exact .inl (seq_ment h2 _ hc d hm)
    · cases h
  | rng y =>
    simp only [eff] at h
    split at h
    · cases h
      refine ⟨fun _ _ h => (by cases h), fun _ _ h => (by cases h), fun d q hd => ?_, fun d hm => ?_, fun _ _ _ _ h => (by cases h)⟩
      · simp only [ovI] at hd
        split at hd
        · rename_i e; subst e; exact .inl (by simp [SOp.news])
        · cases hd
      · cases hm; exact .inr (by simp [SOp.news])
    · cases h
  | nxt y =>
    simp only [eff] at h
    split at h
    · rename_i hy
      split at h
      · split at h
        · cases h
          refine ⟨fun _ _ h => (by cases h), fun _ _ h => (by cases h), fun d q hd => ?_, fun d hm => ?_, fun _ _ _ _ h => (by cases h)⟩
          · simp only [ovI] at hd
            split at hd
            · rename_i e; subst e; exact .inr ⟨rfl, get_ment hy .it⟩
            · cases hd
          · cases hm with
            | tuple hc hm => simp at hc; rcases hc with rfl | rfl | rfl <;> cases hm
        · cases h
          refine .no (fun d hm => ?_)
          cases hm with
          | tuple hc hm => simp at hc; subst hc; cases hm
      · cases h
    · cases h
end
end Go.Sh
end

section
/- Sh: regions: operations that are apart may change places; whatever the order. No statement of the program is proved here. -/
namespace Go.Sh
open Go Go.RowKit
set_option maxHeartbeats 4000000
section
variable {P : Program} {C C' : Oracle} {s s' : FS}

def isK : Option Nat → Nat → Bool
  | some k, d => Nat.beq k d
  | none, _ => false
theorem isK_eq {x : Option Nat} {d : Nat} (h : isK x d = true) : x = some d := by
  cases x with
  | none => cases h
  | some k => rw [Nat.eq_of_beq_eq_true h]
def footOk (o : SOper) (s : FS) : Bool := match o.fp with
  | none => true
  | some d => isK (o.op.foot s) d
def effF (P : Program) (C : Oracle) (o : SOper) (s : FS) : Option (TV × Upd) := match footOk o s with | true => eff P C o.dst o.op s | false => none
theorem effF_eff {o : SOper} {e : TV × Upd} (h : effF P C o s = some e) : eff P C o.dst o.op s = some e ∧ ∀ d, o.fp = some d → o.op.foot s = some d := by
  unfold effF at h
  split at h
  · rename_i hf
    refine ⟨h, fun d hd => ?_⟩
    unfold footOk at hf
    rw [hd] at hf
    exact isK_eq hf
  · cases h
def effG (P : Program) (C : Oracle) (o : SOper) (s : FS) : Option (TV × Upd) :=
  match o.guard with
  | some (g, want) => match s.t g with
    | some (.pv (.v (.bool b))) => if b == want then effF P C o s else some (.pv (.v undef), .no)
    | some (.pv (.v _)) => some (.pv (.v undef), .no)
    | _ => none
  | none => effF P C o s
def FS.after (s : FS) (o : SOper) (e : TV × Upd) : FS := (s.upd o.dst e.2).put o.dst e.1
def step (P : Program) (C : Oracle) (o : SOper) (s : FS) : Option FS := (effG P C o s).map (s.after o)
def SOper.news (o : SOper) : List Nat := o.op.news o.dst

def unlike : Option Nat → Option Nat → Bool
  | some a, some b => !Nat.beq a b
  | _, _ => false
def noClash (o p : SOper) : Bool := (unlike o.fp p.fp || (!(o.op.wb && p.op.rb) && !(p.op.wb && o.op.rb))) && !(o.op.wr && p.op.wr) && !(o.op.wi && p.op.wi)
def apart (o p : SOper) : Bool :=
  (match o.dst with | some d => !p.reads.contains d && p.dst != some d | none => true) && (match p.dst with | some d => !o.reads.contains d && o.dst != some d | none => true) && noClash o p
theorem apart_symm {o p : SOper} (h : apart o p = true) : apart p o = true := by
  unfold apart noClash at *
  simp only [Bool.and_eq_true, Bool.or_eq_true] at h ⊢
  obtain ⟨⟨h1, h2⟩, ⟨h3, h5⟩, h6⟩ := h
  refine ⟨⟨h2, h1⟩, ⟨?_, ?_⟩, ?_⟩
  · rcases h3 with h3 | ⟨h3, h4⟩
    · left
      cases ho : o.fp with
      | none => rw [ho] at h3; cases h3
      | some a =>
        cases hp : p.fp with
        | none => rw [ho, hp] at h3; cases h3
        | some b =>
          rw [ho, hp] at h3
          simp only [unlike, Bool.not_eq_true'] at h3 ⊢
          cases hb : Nat.beq b a with
          | false => rfl
          | true => rw [Nat.eq_of_beq_eq_true hb, Nat.beq_refl] at h3; cases h3
    · exact .inr ⟨h4, h3⟩
  · rw [Bool.and_comm]; exact h5
  · rw [Bool.and_comm]; exact h6
theorem unlike_spec {a b : Option Nat} (h : unlike a b = true) : ∃ x y, a = some x ∧ b = some y ∧ x ≠ y := by
  cases a with
  | none => cases h
  | some x =>
    cases b with
    | none => cases h
    | some y =>
      simp only [unlike, Bool.not_eq_true'] at h
      exact ⟨x, y, rfl, rfl, by rintro rfl; rw [Nat.beq_refl] at h; cases h⟩
def FreshO (o : SOper) (s : FS) : Prop := ∀ d ∈ o.news, Fresh s d

theorem effG_cases {o : SOper} {e : TV × Upd} (h : effG P C o s = some e) : e = (.pv (.v undef), .no) ∨ effF P C o s = some e := by
  unfold effG at h
  split at h
  · split at h
    · split at h
      · exact .inr h
      · cases h; exact .inl rfl
    · cases h; exact .inl rfl
    · cases h
  · exact .inr h
theorem effG_shape {o : SOper} {e : TV × Upd} (h : effG P C o s = some e) : Shape s o.dst o.op e.1 e.2 := by
  rcases effG_cases h with rfl | h
  · exact .no (fun d hd => by cases hd)
  · exact eff_shape (x := e.1) (u := e.2) (effF_eff h).1
theorem foot_at (I : List Nat) (k : Nat) : isK (only I) k = true ↔ I = [k] := by
  match I with
  | [] => simp [only, isK]
  | [d] => exact ⟨fun h => by rw [Nat.eq_of_beq_eq_true h], fun h => by cases h; exact Nat.beq_refl k⟩
  | _ :: _ :: _ => simp [only, isK]
theorem footOk_congr {o : SOper} (h : ∀ k ∈ o.op.reads, s'.t k = s.t k) (hb : o.op.rb = true → ∀ d, s.ment d → (∀ k, o.fp = some k → d = k) → s'.b d = s.b d) (hb2 : o.op.rb = true → ∀ d, s.ment d → (s'.b d = none ↔ s.b d = none)) (hr : o.op.wr = true → ∀ d, s.ment d → s'.r d = s.r d) : footOk o s' = footOk o s := by
  unfold footOk
  cases hfp : o.fp with
  | none => rfl
  | some k =>
    cases hop : o.op with
    | ld a n x => rw [hop] at h; simp only [SOp.foot, get_congr (x := x) h]
    | st n x y => rw [hop] at h; simp only [SOp.reads, List.mem_append] at h; simp only [SOp.foot, get_congr (x := x) fun k hk => h k (.inl hk)]
    | call f m xs =>
      rw [hop] at h hb hb2 hr
      simp only [SOp.foot, getl_congr (xs := xs) h]
      cases hx : seqO (fun x : Arg => x.get s) xs with
      | none => rfl
      | some args =>
        simp only
        rw [Bool.eq_iff_iff, foot_at, foot_at]
        cases h0 : Nat.beq m 0 with
        | true => simp [handI, h0]
        | false =>
          have hrb : (SOp.call f m xs).rb = true := by simp [SOp.rb, h0]
          have hwr : (SOp.call f m xs).wr = true := by simp [SOp.wr, h0]
          have hids : ∀ d ∈ args.flatMap TV.ids2, s.ment d := fun d hd => by
            obtain ⟨x, hx', hd⟩ := List.mem_flatMap.1 hd
            exact seq_ment hx x hx' d (ids2_ment hd)
          have key : ((∀ d ∈ handI s m args, d ∈ [k]) ∨ (∀ d ∈ handI s' m args, d ∈ [k])) → handI s' m args = handI s m args := by
            intro hk
            simp only [handI, h0, Bool.false_eq_true, if_false] at hk ⊢
            exact reach_foot (R := [k]) (fun d hd hdk => hb hrb d hd (fun k' hk' => by rw [hfp] at hk'; cases hk'; simpa using hdk)) (hb2 hrb) (hr hwr) 64 _ [] hids hk
          constructor
          · intro he; rw [← key (.inr fun d hd => by rw [he] at hd; exact hd)]; exact he
          · intro he; rw [key (.inl fun d hd => by rw [he] at hd; exact hd)]; exact he
    | _ => rfl
theorem effG_congr {o : SOper} (h : ∀ k ∈ o.reads, s'.t k = s.t k) (hb : o.op.rb = true → ∀ d, s.ment d → (∀ k, o.fp = some k → d = k) → s'.b d = s.b d) (hb2 : o.op.rb = true → ∀ d, s.ment d → (s'.b d = none ↔ s.b d = none)) (hr : o.op.wr = true → ∀ d, s.ment d → s'.r d = s.r d) (hi : o.op.wi = true → ∀ d, s.ment d → s'.i d = s.i d) : effG P C o s' = effG P C o s := by
  have hrd : ∀ k ∈ o.op.reads, s'.t k = s.t k := fun k hk => h k (by simp [SOper.reads, hk])
  have hft : footOk o s' = footOk o s := footOk_congr hrd hb hb2 hr
  have he : effF P C o s' = effF P C o s := by
    unfold effF
    rw [hft]
    cases hf : footOk o s with
    | false => rfl
    | true =>
      refine eff_congr hrd (fun h0 d hd hk => hb h0 d hd (fun k hk' => ?_)) hb2 hr hi
      unfold footOk at hf
      rw [hk'] at hf
      exact hk k (isK_eq hf)
  unfold effG
  cases hg : o.guard with
  | none => simp only [he]
  | some gw =>
    obtain ⟨g, want⟩ := gw
    simp only [he, h g (by simp [SOper.reads, hg])]
theorem effG_apart {o p : SOper} (hap : apart o p = true) (hf : FreshO o s) {e : TV × Upd} (he : effG P C o s = some e) : effG P C' p (s.after o e) = effG P C' p s := by
  unfold apart noClash at hap
  simp only [Bool.and_eq_true, Bool.not_eq_true', Bool.or_eq_true] at hap
  obtain ⟨⟨h1, h2⟩, ⟨h34, h5⟩, h6⟩ := hap
  have hS := effG_shape he
  have hfo : ∀ d cs, ovB o.dst e.2 d = some cs → d ∈ o.op.news o.dst ∨ (o.op.wb = true ∧ (∀ k, o.fp = some k → d = k) ∧ ∃ c0, s.b d = some c0) := by
    intro d cs hd
    rcases effG_cases he with rfl | he'
    · cases hd
    · rcases hS.b d cs hd with h | ⟨h, _, h', h''⟩
      · exact .inl h
      · exact .inr ⟨h, fun k hk => h' k ((effF_eff he').2 k hk), h''⟩
  have hne : ∀ d, s.ment d → d ∉ o.op.news o.dst := fun d hd hn => (hf d hn).1 hd
  refine effG_congr (fun k hk => ?_) (fun hb d hd hdk => ?_) (fun hb d hd => ?_) (fun hr d hd => ?_) (fun hi d hd => ?_)
  · unfold FS.after
    rw [put_t, upd_t, if_neg]
    intro hd
    rw [hd] at h1
    simp at h1
    exact h1.1 hk
  · unfold FS.after
    rw [put_b, upd_b]
    cases ho : ovB o.dst e.2 d with
    | none => rfl
    | some cs =>
      rcases hfo d cs ho with h | ⟨h, h', _⟩
      · exact absurd h (hne d hd)
      · rcases h34 with hu | ⟨h3, _⟩
        · obtain ⟨x, y, e1, e2, e3⟩ := unlike_spec hu
          exact absurd ((h' x e1).symm.trans (hdk y e2)) e3
        · simp [h, hb] at h3
  · unfold FS.after
    rw [put_b, upd_b]
    cases ho : ovB o.dst e.2 d with
    | none => exact Iff.rfl
    | some cs =>
      rcases hfo d cs ho with h | ⟨_, _, c0, h⟩
      · exact absurd h (hne d hd)
      · simp [h]
  · unfold FS.after
    rw [put_r, upd_r]
    cases ho : ovR e.2 d with
    | none => rfl
    | some cs =>
      rcases hS.r d cs ho with h | ⟨h, _⟩
      · exact absurd h (hne d hd)
      · simp [h, hr] at h5
  · unfold FS.after
    rw [put_i, upd_i]
    cases ho : ovI e.2 d with
    | none => rfl
    | some cs =>
      rcases hS.i d cs ho with h | ⟨h, _⟩
      · exact absurd h (hne d hd)
      · simp [h, hi] at h6
theorem FS.ext' {a b : FS} (h1 : ∀ k, a.t k = b.t k) (h2 : ∀ k, a.b k = b.b k) (h3 : ∀ k, a.r k = b.r k) (h4 : ∀ k, a.i k = b.i k) : a = b := by
  cases a; cases b
  simp only [FS.mk.injEq]
  exact ⟨funext h1, funext h2, funext h3, funext h4⟩
def mkOk (a b : SOper) : Bool := a.news.all fun d => !b.news.contains d
theorem mkOk_spec {a b : SOper} (h : mkOk a b = true) {d : Nat} (h1 : d ∈ a.news) (h2 : d ∈ b.news) : False := by
  have := List.all_eq_true.1 h d h1
  simp [h2] at this
theorem after_comm {o p : SOper} (hap : apart o p = true) (hmk : mkOk o p = true) (hfo : FreshO o s) (hfp : FreshO p s) {e f : TV × Upd} (he : effG P C o s = some e) (hf : effG P C' p s = some f) : (s.after o e).after p f = (s.after p f).after o e := by
  unfold apart noClash at hap
  simp only [Bool.and_eq_true, Bool.not_eq_true', Bool.or_eq_true] at hap
  obtain ⟨⟨h1, h2⟩, ⟨h34, h5⟩, h6⟩ := hap
  have hdd : ∀ k, o.dst = some k → p.dst ≠ some k := by
    intro k hk hp
    rw [hk] at h1
    simp [hp] at h1
  have hSo := effG_shape he
  have hSp := effG_shape hf
  have clash : ∀ {d : Nat} {A Bo : Bool}, (d ∈ o.op.news o.dst ∨ (A = true ∧ s.ment d)) → (d ∈ p.op.news p.dst ∨ (Bo = true ∧ s.ment d)) → (A && Bo) = false → False := by
    intro d A Bo q1 q2 hq
    rcases q1 with q1 | ⟨q1, q1'⟩ <;> rcases q2 with q2 | ⟨q2, q2'⟩
    · exact mkOk_spec hmk q1 q2
    · exact (hfo d q1).1 q2'
    · exact (hfp d q2).1 q1'
    · simp [q1, q2] at hq
  refine FS.ext' (fun k => ?_) (fun k => ?_) (fun k => ?_) (fun k => ?_)
  · unfold FS.after
    simp only [put_t, upd_t]
    by_cases q1 : o.dst = some k
    · have := hdd k q1; simp [q1, this]
    · simp [q1]
  · unfold FS.after
    simp only [put_b, upd_b]
    cases q1 : ovB o.dst e.2 k with
    | none => rfl
    | some x =>
      cases q2 : ovB p.dst f.2 k with
      | none => rfl
      | some y =>
        exfalso
        rcases h34 with hu | ⟨h3, _⟩
        · obtain ⟨x', y', e1, e2, e3⟩ := unlike_spec hu
          have k1 : ∀ (o : SOper) (C : Oracle) (e : TV × Upd), effG P C o s = some e → ∀ cs, ovB o.dst e.2 k = some cs → ∀ z, o.fp = some z → k ∈ o.op.news o.dst ∨ (k = z ∧ s.ment k) := by
            intro o C e he cs hd z hz
            rcases effG_cases he with rfl | he'
            · cases hd
            · rcases (effG_shape he).b k cs hd with h | ⟨_, h0, h', _⟩
              · exact .inl h
              · exact .inr ⟨h' z ((effF_eff he').2 z hz), h0⟩
          rcases k1 o C e he _ q1 x' e1 with a1 | a1
          · rcases k1 p C' f hf _ q2 y' e2 with a2 | a2
            · exact mkOk_spec hmk a1 a2
            · exact (hfo k a1).1 a2.2
          · rcases k1 p C' f hf _ q2 y' e2 with a2 | a2
            · exact (hfp k a2).1 a1.2
            · exact e3 (a1.1.symm.trans a2.1)
        · refine clash ((hSo.b k _ q1).imp id (fun h => ⟨h.1, h.2.1⟩)) ((hSp.b k _ q2).imp id (fun h => ⟨h.1, h.2.1⟩)) ?_
          cases hw : p.op.wb with
          | false => simp
          | true => have := wb_rb hw; simp [this] at h3; simp [h3]
  · unfold FS.after
    simp only [put_r, upd_r]
    cases q1 : ovR e.2 k with
    | none => rfl
    | some x =>
      cases q2 : ovR f.2 k with
      | none => rfl
      | some y => exact (clash (hSo.r k _ q1) (hSp.r k _ q2) h5).elim
  · unfold FS.after
    simp only [put_i, upd_i]
    cases q1 : ovI e.2 k with
    | none => rfl
    | some x =>
      cases q2 : ovI f.2 k with
      | none => rfl
      | some y => exact (clash (hSo.i k _ q1) (hSp.i k _ q2) h6).elim
theorem step_comm {o p : SOper} (hap : apart o p = true) (hmk : mkOk o p = true) (hfo : FreshO o s) (hfp : FreshO p s) {s1 s2 : FS} (h1 : step P C o s = some s1) (h2 : step P C' p s1 = some s2) : ∃ s1', step P C' p s = some s1' ∧ step P C o s1' = some s2 := by
  obtain ⟨e, he, rfl⟩ := Option.map_eq_some_iff.1 h1
  obtain ⟨f, hf, rfl⟩ := Option.map_eq_some_iff.1 h2
  rw [effG_apart hap hfo he] at hf
  refine ⟨s.after p f, by unfold step; rw [hf]; rfl, ?_⟩
  unfold step
  rw [effG_apart (apart_symm hap) hfp hf, he, after_comm hap hmk hfo hfp he hf]; rfl
theorem fresh_after {o p : SOper} (hf : FreshO p s) (hmk : mkOk o p = true) {s1 : FS} (h : step P C o s = some s1) : FreshO p s1 := by
  obtain ⟨e, he, rfl⟩ := Option.map_eq_some_iff.1 h
  have hS := effG_shape he
  intro d hd
  obtain ⟨f1, f2, f3, f4⟩ := hf d hd
  have hno : d ∉ o.op.news o.dst := fun h => mkOk_spec hmk h hd
  have hm : ∀ {A : Prop}, (s.ment d ∨ d ∈ o.op.news o.dst) → A := fun h => h.elim (fun h => absurd h f1) (fun h => absurd h hno)
  refine ⟨?_, ?_, ?_, ?_⟩
  · rintro (⟨k, y, hk, hy⟩ | ⟨k, cs, c, hk, hc, hy⟩)
    · unfold FS.after at hk
      rw [put_t, upd_t] at hk
      split at hk
      · cases hk; exact hm (hS.x d hy)
      · exact f1 (.inl ⟨k, y, hk, hy⟩)
    · unfold FS.after at hk
      rw [put_b, upd_b] at hk
      cases ho : ovB o.dst e.2 k with
      | none => rw [ho] at hk; exact f1 (.inr ⟨k, cs, c, hk, hc, hy⟩)
      | some x => rw [ho] at hk; cases hk; exact hm (hS.m d k cs c ho hc hy)
  · unfold FS.after
    rw [put_b, upd_b]
    cases ho : ovB o.dst e.2 d with
    | none => exact f2
    | some x => exact hm ((hS.b d x ho).elim .inr (fun h => .inl h.2.1))
  · unfold FS.after
    rw [put_r, upd_r]
    cases ho : ovR e.2 d with
    | none => exact f3
    | some x => exact hm ((hS.r d x ho).elim .inr (fun h => .inl h.2))
  · unfold FS.after
    rw [put_i, upd_i]
    cases ho : ovI e.2 d with
    | none => exact f4
    | some x => exact hm ((hS.i d x ho).elim .inr (fun h => .inl h.2))
end

def dstOk (N : Nat) : Option Nat → Bool
  | some d => Nat.blt d N
  | none => true
def transGuard (ops : Array Oper) : Option (Nat × Bool) → Option (Option (Nat × Bool))
  | none => some none
  | some (j, want) => match (ops[j]?).bind (·.dst) with
    | some d => some (some (d, want))
    | none => none
def transOper (P : Program) (N : Nat) (H : Option Nat → Nat) (fp : Option Nat) (ops : Array Oper) (o : Oper) : Option SOper :=
  match transGuard ops o.guard, transOp P o (H o.dst) with
  | some g, some op => if dstOk N o.dst then some ⟨o.dst, g, fp, op⟩ else none
  | _, _ => none
def direct (ops : Array Oper) (a i : Nat) : Bool := match ops[i]? with
  | some o => o.after.any fun e => Region.binds .any e && Nat.beq e.on a
  | none => false
def ahead (ops : Array Oper) : Nat → Nat → Nat → Bool
  | 0, a, i => direct ops a i
  | f + 1, a, i => direct ops a i || (match ops[i]? with
    | some o => o.after.any fun e => Region.binds .any e && ahead ops f a e.on
    | none => false)
def pairOk (ops : Array Oper) (draw : Bool) (sops : List SOper) (i j : Nat) : Bool :=
  match sops[i]?, sops[j]? with
  | some a, some b => mkOk a b && (!draw || apart a b || ahead ops 4 i j)
  | _, _ => false
def regionOk (ops : Array Oper) (draw : Bool) (sops : List SOper) : Bool :=
  ((List.range sops.length).all fun j => (List.range j).all fun i => pairOk ops draw sops i j) &&
  (!draw || (List.range sops.length).all fun i => match ops[i]? with | some o => o.after.all fun e => !Region.binds .any e || Nat.blt e.on i | none => true)

def transOps (P : Program) (N : Nat) (H : Option Nat → Nat) (fps : Nat → Option Nat) (ops : Array Oper) : Nat → List Oper → Option (List SOper)
  | _, [] => some []
  | j, o :: l => match transOper P N H (fps j) ops o, transOps P N H fps ops (j + 1) l with
    | some x, some r => some (x :: r)
    | _, _ => none
theorem transOps_spec {P : Program} {N : Nat} {H : Option Nat → Nat} {fps : Nat → Option Nat} {ops : Array Oper} : ∀ {l : List Oper} {j : Nat} {sops : List SOper}, transOps P N H fps ops j l = some sops → l.length = sops.length ∧ ∀ (i : Nat) o, l[i]? = some o → ∃ so, sops[i]? = some so ∧ transOper P N H (fps (j + i)) ops o = some so
  | [], j, sops, h => by simp [transOps] at h; subst h; simp
  | o :: l, j, sops, h => by
    simp only [transOps] at h
    split at h
    · rename_i x r h1 h2
      cases h
      obtain ⟨a1, a2⟩ := transOps_spec h2
      refine ⟨by simp [a1], fun i p hp => ?_⟩
      cases i with
      | zero => simp at hp; subst hp; exact ⟨x, rfl, h1⟩
      | succ i =>
        obtain ⟨so, b1, b2⟩ := a2 i p (by simpa using hp)
        exact ⟨so, by simpa using b1, by rw [← b2]; congr 2; omega⟩
    · cases h
def transRegion (P : Program) (N : Nat) (H : Option Nat → Nat) (fps : Nat → Option Nat) (ops : Array Oper) (draw : Bool) : Option (List SOper) :=
  match transOps P N H fps ops 0 ops.toList with
  | some sops => if regionOk ops draw sops then some sops else none
  | none => none

section
variable {P : Program} {H : Option Nat → Nat} {ops : Array Oper} {B : Base} {C : Oracle} {sops : List SOper} {g : Glob}

def SoundC (P : Program) (g : Glob) (C : Oracle) : Prop := ∀ f xs os y os', C f xs os = some (y, os') → SCalls P g f xs os y os'
def Stp (P : Program) (g : Glob) (o : SOper) (s s' : FS) : Prop := ∃ C, SoundC P g C ∧ step P C o s = some s'

theorem sim_step (hm0 : B.m ≤ 1000) (hN : B.N ≤ 1000) (hG : g.G B.w0) (hX : ∀ d b, B.X d b → g.n ≤ b) (hC : SoundC P g C) {s s' : FS} {a : Act} {w : World} {E : Env} (h : Sim B s a w E) {i : Nat} {o : Oper} {so : SOper} {fp : Option Nat} (hi : ops[i]? = some o) (ht : transOper P B.N H fp ops o = some so) (hf : FreshO so s) (hs : step P C so s = some s')
    {K : Act → World → Prop} {Q : Exit → Act → World → Prop} (hK : ∀ a' w' E', Sim B s' a' w' E' → K a' w') : wpOp P ops Q i K a w := by
  unfold transOper at ht
  split at ht <;> try (cases ht; done)
  rename_i gd op hg hop
  split at ht <;> try (cases ht; done)
  rename_i hd
  cases ht
  have hdst : ∀ k, o.dst = some k → k < B.N := by
    intro k hk
    rw [hk] at hd
    simp only [dstOk, Nat.blt_eq] at hd
    exact hd
  obtain ⟨e, he, rfl⟩ := Option.map_eq_some_iff.1 hs
  have hdo : effF P C ⟨o.dst, gd, fp, op⟩ s = some e → o.wp P a w K Q := fun he' =>
    sim_op (C := C) h hm0 hN hG hX hop hdst hf hC (x := e.1) (u := e.2) (effF_eff he').1 (fun v w' E' hS => hK _ _ _ hS)
  unfold wpOp
  simp only [hi]
  unfold effG at he
  cases hgo : o.guard with
  | none =>
    rw [hgo] at hg
    simp only [transGuard, Option.some.injEq] at hg
    subst hg
    simp only at he
    rw [if_pos (by simp [Region.wanted, hgo])]
    exact .inl (hdo he)
  | some jw =>
    obtain ⟨j, want⟩ := jw
    rw [hgo] at hg
    simp only [transGuard] at hg
    split at hg <;> try (cases hg; done)
    rename_i d hjd
    cases hg
    simp only at he
    have hskip : ∀ v, a.tmps[d]? = some v → (∀ b, v = .bool b → (b == want) = false) → e = (.pv (.v undef), .no) → (if Region.wanted o (yielded ops a.tmps) = true then o.wp P a w K Q ∨ (o.asks P a w ∧ LetsOut Q) else K (a.put o.dst undef) w) := by
      intro v hv hb he'
      rw [if_neg]
      · rw [he'] at hK
        exact hK _ _ E (h.put hdst (.pv (.v undef)))
      · simp only [Region.wanted, hgo, yielded, hjd, Option.bind_some, hv]
        cases v <;> simp
        rename_i b
        intro hbw
        have := hb b rfl
        simp [hbw] at this
    have hval : ∀ v, s.t d = some (.pv (.v v)) → a.tmps[d]? = some v := by
      intro v hv
      obtain ⟨h1, h2⟩ := h.tmp d _ hv
      have h3 := val_rel (y := v) h2 rfl
      have hlt : d < a.tmps.size := by rw [h.size]; exact h1
      rw [Array.getD_eq_getD_getElem?, Array.getElem?_eq_getElem hlt] at h3
      rw [Array.getElem?_eq_getElem hlt]
      exact congrArg some h3
    split at he
    · rename_i b hb
      have hv := hval _ hb
      split at he
      · rename_i hbw
        rw [if_pos]
        · exact .inl (hdo he)
        · simp only [Region.wanted, hgo, yielded, hjd, Option.bind_some, hv]
          simpa using hbw
      · rename_i hbw
        cases he
        exact hskip _ hv (fun b' hb' => by cases hb'; simpa using hbw) rfl
    · rename_i v hnb hv
      cases he
      exact hskip _ (hval _ hv) (fun b' hb' => absurd hb' (fun h => hnb b' h)) rfl
    · cases he

def RunI (P : Program) (g : Glob) (sops : List SOper) : List Nat → FS → FS → Prop
  | [], s, sf => s = sf
  | i :: l, s, sf => ∃ o s1, sops[i]? = some o ∧ Stp P g o s s1 ∧ RunI P g sops l s1 sf
def MkAll (sops : List SOper) : Prop := ∀ (i j : Nat) a b, i ≠ j → sops[i]? = some a → sops[j]? = some b → mkOk a b = true
theorem mkOk_symm {a b : SOper} (h : mkOk a b = true) : mkOk b a = true := by
  unfold mkOk
  refine List.all_eq_true.2 fun d hd => ?_
  cases hc : a.news.contains d with
  | false => rfl
  | true => exact (mkOk_spec h (by simpa using hc) hd).elim
theorem mkAll_of {draw : Bool} (h : regionOk ops draw sops = true) : MkAll sops := by
  unfold regionOk at h
  rw [Bool.and_eq_true] at h
  have key : ∀ (i j : Nat) a b, i < j → sops[i]? = some a → sops[j]? = some b → mkOk a b = true := by
    intro i j a b hij ha hb
    have hj : j < sops.length := (List.getElem?_eq_some_iff.1 hb).1
    have := List.all_eq_true.1 (List.all_eq_true.1 h.1 j (by simpa using hj)) i (by simpa using hij)
    unfold pairOk at this
    rw [ha, hb] at this
    simp only [Bool.and_eq_true] at this
    exact this.1
  intro i j a b hne ha hb
  rcases Nat.lt_or_gt_of_ne hne with hlt | hlt
  · exact key i j a b hlt ha hb
  · exact mkOk_symm (key j i b a hlt hb ha)
def FreshI (sops : List SOper) (l : List Nat) (s : FS) : Prop := ∀ i ∈ l, ∀ o, sops[i]? = some o → FreshO o s
theorem freshI_step (hmk : MkAll sops) {l : List Nat} {i : Nat} {o : SOper} {s s1 : FS} (hi : sops[i]? = some o) (hl : i ∉ l) (hf : FreshI sops l s) (hs : Stp P g o s s1) : FreshI sops l s1 := by
  intro j hj p hp
  obtain ⟨C, _, hs⟩ := hs
  exact fresh_after (hf j hj p hp) (hmk i j o p (by rintro rfl; exact hl hj) hi hp) hs
theorem swap_front (hmk : MkAll sops) {i : Nat} {o : SOper} (hi : sops[i]? = some o) {Bl : List Nat} {sf : FS} : ∀ (A : List Nat) (s : FS), (A ++ i :: Bl).Nodup → (∀ a ∈ A, ∀ oa, sops[a]? = some oa → apart oa o = true) → FreshI sops (A ++ i :: Bl) s →
    RunI P g sops (A ++ i :: Bl) s sf → ∃ s1, Stp P g o s s1 ∧ RunI P g sops (A ++ Bl) s1 sf
  | [], s, _, _, _, h => by
    obtain ⟨o', s1, h0, h1, h2⟩ := h
    rw [hi] at h0; cases h0
    exact ⟨s1, h1, h2⟩
  | a :: A, s, hnd, hap, hf, h => by
    obtain ⟨oa, sa, hoa, h1, h2⟩ := h
    simp only [List.cons_append, List.nodup_cons] at hnd
    have hfa : FreshI sops (A ++ i :: Bl) sa := freshI_step hmk hoa hnd.1 (fun j hj => hf j (List.mem_cons_of_mem _ hj)) h1
    obtain ⟨s1', h3, h4⟩ := swap_front hmk hi A sa hnd.2 (fun b hb => hap b (List.mem_cons_of_mem _ hb)) hfa h2
    obtain ⟨C1, c1, h1⟩ := h1
    obtain ⟨C2, c2, h3⟩ := h3
    obtain ⟨s1, h5, h6⟩ := step_comm (hap a (List.mem_cons_self ..) oa hoa) (hmk a i oa o (by rintro rfl; exact hnd.1 (List.mem_append_right _ (List.mem_cons_self ..))) hoa hi) (hf a (List.mem_cons_self ..) oa hoa) (hf i (List.mem_cons_of_mem _ (List.mem_append_right _ (List.mem_cons_self ..))) o hi) h1 h3
    exact ⟨s1, ⟨C2, c2, h5⟩, oa, s1', hoa, ⟨C1, c1, h6⟩, h4⟩
def ClosedL (ops : Array Oper) (listed : Array Bool) : Prop := ∀ i o, ops[i]? = some o → listed.getD i true = true → ∀ e ∈ o.after, Region.binds .any e = true → listed.getD e.on false = true
theorem ahead_listed {listed : Array Bool} (hcl : ClosedL ops listed) (hsz : listed.size = ops.size) : ∀ (f a i : Nat), (∀ o, ops[i]? = some o → ∀ e ∈ o.after, Region.binds .any e = true → listed.getD e.on false = true) → ahead ops f a i = true → listed.getD a false = true := by
  have hdir : ∀ a i, (∀ o, ops[i]? = some o → ∀ e ∈ o.after, Region.binds .any e = true → listed.getD e.on false = true) → direct ops a i = true → listed.getD a false = true := by
    intro a i h hd
    unfold direct at hd
    split at hd
    · rename_i o ho
      obtain ⟨e, he1, he2⟩ := Array.any_eq_true'.1 hd
      rw [Bool.and_eq_true] at he2
      have := h o ho e he1 he2.1
      rwa [Nat.eq_of_beq_eq_true he2.2] at this
    · cases hd
  intro f
  induction f with
  | zero => exact hdir
  | succ f ih =>
    intro a i h hr
    simp only [ahead, Bool.or_eq_true] at hr
    rcases hr with hr | hr
    · exact hdir a i h hr
    · split at hr
      · rename_i o ho
        obtain ⟨e, he1, he2⟩ := Array.any_eq_true'.1 hr
        rw [Bool.and_eq_true] at he2
        have hl := h o ho e he1 he2.1
        refine ih a e.on (fun o' ho' e' he' hb' => hcl e.on o' ho' ?_ e' he' hb') he2.2
        have hlt : e.on < listed.size := by
          rcases Nat.lt_or_ge e.on listed.size with h1 | h1
          · exact h1
          · simp [Array.getD, Nat.not_lt.2 h1] at hl
        simpa [Array.getD, hlt] using hl
      · cases hr
def rest (n : Nat) (listed : Array Bool) : List Nat := (List.range n).filter fun i => !listed.getD i true
theorem any_sound (hm0 : B.m ≤ 1000) (hN : B.N ≤ 1000) (hG : g.G B.w0) (hX : ∀ d b, B.X d b → g.n ≤ b) {fps : Nat → Option Nat} (htr : transOps P B.N H fps ops 0 ops.toList = some sops) (hok : regionOk ops true sops = true) {sf : FS} {Q : Exit → Act → World → Prop} (hQ : ∀ a w E, Sim B sf a w E → Q .normal a w) :
    ∀ (fuel : Nat) (listed : Array Bool) (s : FS) (a : Act) (w : World) (E : Env), listed.size = ops.size → ClosedL ops listed → Sim B s a w E → FreshI sops (rest ops.size listed) s → RunI P g sops (rest ops.size listed) s sf → (rest ops.size listed).length ≤ fuel →
      wpAny P .any ops Q fuel listed a w := by
  obtain ⟨hlen, hspec⟩ := transOps_spec htr
  have hlen' : ops.size = sops.length := by simpa using hlen
  have hmk := mkAll_of hok
  have hback : ∀ (i : Nat) o, ops[i]? = some o → ∀ e ∈ o.after, Region.binds .any e = true → e.on < i := by
    intro i o hi e he hb
    unfold regionOk at hok
    rw [Bool.and_eq_true] at hok
    have hil : i < sops.length := by rw [← hlen']; exact (Array.getElem?_eq_some_iff.1 hi).1
    have h2 := hok.2
    simp only [Bool.not_true, Bool.false_or] at h2
    have := List.all_eq_true.1 h2 i (by simpa using hil)
    rw [hi] at this
    have := Array.all_eq_true_iff_forall_mem.1 this e he
    simp only [hb, Bool.not_true, Bool.false_or] at this
    rw [Nat.blt_eq] at this
    exact this
  have hrest : ∀ (listed : Array Bool) i, i ∈ rest ops.size listed ↔ i < ops.size ∧ listed.getD i true = false := by
    intro listed i
    simp [rest]
  have hready : ∀ (listed : Array Bool) i, i ∈ Region.ready .any ops listed ↔ i ∈ rest ops.size listed ∧ ∀ o, ops[i]? = some o → ∀ e ∈ o.after, Region.binds .any e = true → listed.getD e.on false = true := by
    intro listed i
    rw [hrest]
    unfold Region.ready
    simp only [List.mem_filter, List.mem_range, Bool.and_eq_true, Bool.not_eq_true']
    constructor
    · rintro ⟨h1, h2, h3⟩
      refine ⟨⟨h1, h2⟩, fun o ho e he hb => ?_⟩
      rw [ho] at h3
      simp only [Option.map_some, Option.getD_some] at h3
      have := Array.all_eq_true_iff_forall_mem.1 h3 e he
      simpa [hb] using this
    · rintro ⟨⟨h1, h2⟩, h3⟩
      refine ⟨h1, h2, ?_⟩
      obtain ⟨o, ho⟩ : ∃ o, ops[i]? = some o := ⟨_, Array.getElem?_eq_getElem h1⟩
      rw [ho]
      simp only [Option.map_some, Option.getD_some]
      refine Array.all_eq_true_iff_forall_mem.2 fun e he => ?_
      cases hb : Region.binds .any e
      · rfl
      · simp [h3 o ho e he hb]
  have hnil : ∀ (listed : Array Bool), listed.size = ops.size → Region.ready .any ops listed = [] → rest ops.size listed = [] := by
    intro listed hsz hr
    cases hrl : rest ops.size listed with
    | nil => rfl
    | cons i l =>
      exfalso
      have hi : i ∈ rest ops.size listed := by rw [hrl]; exact List.mem_cons_self ..
      have hmin : ∀ j, j < i → j ∉ rest ops.size listed := by
        intro j hj hjm
        have hp : (rest ops.size listed).Pairwise (· < ·) := List.Pairwise.filter _ List.pairwise_lt_range
        rw [hrl] at hp hjm
        rcases List.mem_cons.1 hjm with rfl | hjm
        · omega
        · have := (List.pairwise_cons.1 hp).1 j hjm; omega
      have : i ∈ Region.ready .any ops listed := by
        rw [hready]
        refine ⟨hi, fun o ho e he hb => ?_⟩
        have hlt := hback i o ho e he hb
        have hil := ((hrest listed i).1 hi).1
        have hnm := hmin e.on hlt
        rw [hrest] at hnm
        have hel : e.on < listed.size := by omega
        have : listed.getD e.on true ≠ false := fun h => hnm ⟨by omega, h⟩
        simpa [Array.getD, hel] using this
      rw [hr] at this; cases this
  intro fuel
  induction fuel with
  | zero =>
    intro listed s a w E hsz hcl hS hf hrun hle
    have hr0 : rest ops.size listed = [] := List.eq_nil_of_length_eq_zero (by omega)
    rw [hr0] at hrun
    have hrun : s = sf := hrun
    subst hrun
    refine ⟨?_, hQ a w E hS⟩
    cases hrd : Region.ready .any ops listed with
    | nil => rfl
    | cons i l =>
      have := ((hready listed i).1 (by rw [hrd]; exact List.mem_cons_self ..)).1
      rw [hr0] at this; cases this
  | succ fuel ih =>
    intro listed s a w E hsz hcl hS hf hrun hle
    refine ⟨fun hr => ?_, fun i hi => ?_⟩
    · have hr0 := hnil listed hsz hr
      rw [hr0] at hrun
      have hrun : s = sf := hrun
      subst hrun
      exact hQ a w E hS
    · obtain ⟨hir, hipre⟩ := (hready listed i).1 hi
      obtain ⟨hin, hil⟩ := (hrest listed i).1 hir
      obtain ⟨o, ho⟩ : ∃ o, ops[i]? = some o := ⟨_, Array.getElem?_eq_getElem hin⟩
      obtain ⟨so, hso, hto⟩ := hspec i o (by simpa using ho)
      obtain ⟨A, Bl, hAB⟩ := List.append_of_mem hir
      have hp : (rest ops.size listed).Pairwise (· < ·) := List.Pairwise.filter _ List.pairwise_lt_range
      have hnd : (rest ops.size listed).Nodup := hp.imp (fun h => Nat.ne_of_lt h)
      rw [hAB] at hp hnd hf hrun
      have hA : ∀ j ∈ A, j < i := fun j hj => (List.pairwise_append.1 hp).2.2 j hj i (List.mem_cons_self ..)
      obtain ⟨s1, hs1, hrun1⟩ := swap_front hmk hso A s hnd (fun j hj oa hoa => by
        have hji := hA j hj
        have hjr : j ∈ rest ops.size listed := by rw [hAB]; exact List.mem_append_left _ hj
        have hjl := ((hrest listed j).1 hjr)
        unfold regionOk at hok
        rw [Bool.and_eq_true] at hok
        have := List.all_eq_true.1 (List.all_eq_true.1 hok.1 i (by simp; omega)) j (by simpa using hji)
        unfold pairOk at this
        rw [hoa, hso] at this
        simp only [Bool.and_eq_true, Bool.not_true, Bool.false_or, Bool.or_eq_true] at this
        rcases this.2 with h1 | h1
        · exact h1
        · have := ahead_listed hcl hsz 4 j i hipre h1
          have hlt : j < listed.size := by omega
          have h2 := hjl.2
          simp [Array.getD, hlt] at this h2
          rw [this] at h2; cases h2) hf hrun
      obtain ⟨C1, hC1, hst1⟩ := hs1
      have hs1 : Stp P g so s s1 := ⟨C1, hC1, hst1⟩
      refine sim_step hm0 hN hG hX hC1 hS ho hto (hf i (List.mem_append_right _ (List.mem_cons_self ..)) so hso) hst1 (fun a' w' E' hS' => ?_)
      have hiAB : i ∉ A ++ Bl := by
        have := List.nodup_append.1 hnd
        intro hm
        rcases List.mem_append.1 hm with h1 | h1
        · exact this.2.2 i h1 i (List.mem_cons_self ..) rfl
        · exact (List.nodup_cons.1 this.2.1).1 h1
      have hilt : i < listed.size := by omega
      have hrest' : rest ops.size (listed.setIfInBounds i true) = A ++ Bl := by
        have h1 : rest ops.size (listed.setIfInBounds i true) = (rest ops.size listed).filter (fun j => j != i) := by
          unfold rest
          rw [List.filter_filter]
          apply List.filter_congr
          intro j hj
          have hjn : j < ops.size := by simpa using hj
          have hjl : j < listed.size := by omega
          by_cases hji : j = i
          · subst hji; simp [Array.getD, hjl]
          · simp [Array.getD, hjl, hji, Array.getElem_setIfInBounds, Ne.symm hji]
        rw [h1, hAB, List.filter_append, List.filter_cons]
        simp only [bne_self_eq_false, Bool.false_eq_true, if_false]
        rw [List.filter_eq_self.2, List.filter_eq_self.2]
        · intro j hj; simp; rintro rfl; exact hiAB (List.mem_append_right _ hj)
        · intro j hj; simp; rintro rfl; exact hiAB (List.mem_append_left _ hj)
      refine ih (listed.setIfInBounds i true) s1 a' w' E' (by simpa using hsz) ?_ hS' ?_ (by rw [hrest']; exact hrun1) ?_
      · intro j oj hj hjl e he hb
        have hset : ∀ k, listed.getD k false = true → (listed.setIfInBounds i true).getD k false = true := by
          intro k hk
          have hkl : k < listed.size := by
            rcases Nat.lt_or_ge k listed.size with h1 | h1
            · exact h1
            · simp [Array.getD, Nat.not_lt.2 h1] at hk
          by_cases hki : i = k
          · subst hki; simp [Array.getD, hkl]
          · rw [Array.getD_eq_getD_getElem?, Array.getElem?_setIfInBounds_ne hki, ← Array.getD_eq_getD_getElem?]; exact hk
        by_cases hji : j = i
        · subst hji
          exact hset _ (hipre oj hj e he hb)
        · refine hset _ (hcl j oj hj ?_ e he hb)
          have hjn : j < listed.size := by rw [hsz]; exact (Array.getElem?_eq_some_iff.1 hj).1
          simp [Array.getD, hjn, Array.getElem_setIfInBounds, Ne.symm hji] at hjl
          simp [Array.getD, hjn, hjl]
      · rw [hrest']
        refine freshI_step hmk hso hiAB (fun j hj => hf j ?_) hs1
        rcases List.mem_append.1 hj with h1 | h1
        · exact List.mem_append_left _ h1
        · exact List.mem_append_right _ (List.mem_cons_of_mem _ h1)
      · rw [hrest']
        rw [hAB] at hle
        simp at hle ⊢; omega
end
end Go.Sh
end

section
/- Sh: operations that end in a panic, and regions that do. No statement of the program is proved here. -/
namespace Go.Sh
open Go Go.RowKit
set_option maxHeartbeats 4000000

def SPan (P : Program) (g : Glob) (f : Nat) (xs : List TV) (os : List MO) (z : Value) (os' : List MO) : Prop :=
  hasBody P f ∧ ∀ (w : World) (E : Env) (vs : List Value), g.G w → MSim (start w E os 0) (objB os) (objR os) w E → (∀ d b, objX E os d b → g.n ≤ b) → xs.length = vs.length →
    (∀ (j : Nat) x v, xs[j]? = some x → vs[j]? = some v → RelT w E (objR os) x v) →
    Calls P f vs.toArray w fun e w' => ∃ E', e = .panicked [{ v := z, recovered := false }] ∧ MSim (start w E os 0) (objB os') (objR os') w' E' ∧ Left E os E' os'
def panEff (P : Program) (g : Glob) (s : FS) (k f mode : Nat) (xs : List TV) (z : Value) (u : Upd) : Prop :=
  ∃ xs' os os' us, seqO (TV.ren2 (rhoIn (handI s mode xs))) xs = some xs' ∧ seqO (fun d => (s.mo d).bind (MO.ren (rhoIn (handI s mode xs)))) (handI s mode xs) = some os ∧ SPan P g f xs' os z os' ∧ moOk os os' = true ∧ outs (rhoOut (handI s mode xs) k) 0 os' = some us ∧ u = .mem us

section
variable {B : Base} {s : FS} {a : Act} {w w' : World} {E E' : Env} {r : Rows} {P : Program} {C : Oracle} {g : Glob}
theorem wp_panAt (h : Sim B s a w E) (hG : g.G B.w0) (hX : ∀ d b, B.X d b → g.n ≤ b) {o : Oper} {f mode : Nat} {xs : List TV} {vs : List Value} (hmx : ∀ x ∈ xs, ∀ d, Ment d x → s.ment d) (hl : xs.length = vs.length) (hxs : ∀ (j : Nat) x v, xs[j]? = some x → vs[j]? = some v → RelT w E s.r x v)
    (hop : hasBody P f → (execOp a.eval o).run P w = .ok (.enter f vs.toArray) w) (hm0 : B.m ≤ 1000) (hf : ∀ q < 4, Fresh s (newId (dstId o.dst) q))
    {z : Value} {u : Upd} (he : panEff P g s (dstId o.dst) f mode xs z u) {next : Act → World → Prop} {Q : Exit → Act → World → Prop}
    (hn : ∀ w' E', Sim B (s.upd o.dst u) a w' E' → Q (.panic [{ v := z, recovered := false }]) a w') : o.wp P a w next Q := by
  obtain ⟨xs', os, os', us, h1, h2, ⟨hbody, hcall⟩, h4, h6, rfl⟩ := he
  obtain ⟨hI, hIm⟩ := handI_spec mode hmx
  have hn0 := g.le _ hG
  have hw0 := h.mem.low.size
  have hGw : g.G w := g.st _ _ hG (fun k hk => h.mem.low.block k (by omega) (fun d hd => by have := hX d k hd; omega))
  have hrho : RenOk E s.r (rhoIn (handI s mode xs)) (envIn E (handI s mode xs)) (objR os) := renIn h2
  obtain ⟨l1, q1⟩ := seqR (w := w) (fun _ _ _ => ren2_rel hrho (fun _ _ _ h _ => h)) hl hxs h1
  have hblk : ∀ d b, objX (envIn E (handI s mode xs)) os d b → g.n ≤ b := by
    intro d b hx
    obtain ⟨hlen, hB, hR⟩ := handed h2
    rcases hx with ⟨cs, e1, e2⟩ | ⟨⟨e, W, n⟩, cap, e1, e2⟩
    · obtain ⟨j, rfl, hj⟩ := objB_inv e1
      obtain ⟨i, c, b1, b2, _⟩ := hB j cs hj
      have e3 : E.β i = b := by rw [← e2]; simp only [envIn]; rw [getD_of b1]
      rcases (h.mem.box i c b2).2 with e4 | e4
      · omega
      · have := hX _ _ e4; omega
    · obtain ⟨j, rfl, hj⟩ := objR_inv e1
      obtain ⟨i, b1, b2, b3⟩ := hR j e W n hj
      have e3 : E.γ i = some (b, cap) := by rw [← e2]; simp only [envIn]; rw [getD_of b1]
      rcases h.mem.row i e W n b3 with ⟨e4, _⟩ | ⟨b', c', e4, e5, _⟩
      · rw [e4] at e3; cases e3
      · rw [e4] at e3; cases e3
        rcases e5 with e5 | e5
        · omega
        · exact hX _ _ e5
  have hcalls := hcall w (envIn E (handI s mode xs)) vs hGw (call_pre h hI h2) hblk l1 q1
  unfold Oper.wp
  rw [hop hbody]
  refine hcalls.mono ?_
  rintro e w' ⟨E', rfl, hm, hleft⟩
  obtain ⟨hS, _⟩ := call_post h hI hIm hm0 hf h2 h4 h6 hm hleft o.dst
  exact hn w' _ hS

def PanG (P : Program) (g : Glob) (o : SOper) (s : FS) (z : Value) (u : Upd) : Prop :=
  o.guard = none ∧ match o.op with
  | .pan x => x.get s = some (.pv (.v z)) ∧ (∃ t v, z = .iface t v) ∧ u = .no
  | .call f m xs => ∃ args, seqO (fun x : Arg => x.get s) xs = some args ∧ panEff P g s (dstId o.dst) f m args z u
  | _ => False
def mayPan : SOp → Bool
  | .pan _ => true
  | .call _ m _ => Nat.beq m 3
  | _ => false
def quiet (o : SOper) : Bool := !o.op.wb && !o.op.wr && !o.op.wi && o.news.isEmpty
theorem quiet_after {o : SOper} (hq : quiet o = true) {s : FS} {e : TV × Upd} (he : effG P C o s = some e) : (s.after o e).b = s.b ∧ (s.after o e).r = s.r ∧ (s.after o e).i = s.i ∧ ∀ k, o.dst ≠ some k → (s.after o e).t k = s.t k := by
  unfold quiet at hq
  simp only [Bool.and_eq_true, Bool.not_eq_true', List.isEmpty_iff] at hq
  obtain ⟨⟨⟨h1, h2⟩, h3⟩, h4⟩ := hq
  have h4 : o.op.news o.dst = [] := h4
  have hS := effG_shape he
  refine ⟨funext fun d => ?_, funext fun d => ?_, funext fun d => ?_, fun k hk => ?_⟩
  · unfold FS.after
    rw [put_b, upd_b]
    cases ho : ovB o.dst e.2 d with
    | none => rfl
    | some cs => exact (by rcases hS.b d cs ho with h | ⟨h, _⟩; · rw [h4] at h; cases h
                           · rw [h1] at h; cases h)
  · unfold FS.after
    rw [put_r, upd_r]
    cases ho : ovR e.2 d with
    | none => rfl
    | some cs => exact (by rcases hS.r d cs ho with h | ⟨h, _⟩; · rw [h4] at h; cases h
                           · rw [h2] at h; cases h)
  · unfold FS.after
    rw [put_i, upd_i]
    cases ho : ovI e.2 d with
    | none => rfl
    | some cs => exact (by rcases hS.i d cs ho with h | ⟨h, _⟩; · rw [h4] at h; cases h
                           · rw [h3] at h; cases h)
  · unfold FS.after
    rw [put_t, upd_t, if_neg hk]
theorem mo_same {s s' : FS} (hb : s'.b = s.b) (hr : s'.r = s.r) : (fun d => s'.mo d) = fun d => s.mo d := by
  funext d; simp only [FS.mo, hb, hr]
theorem reach_same {s s' : FS} {rows : Bool} (hb : s'.b = s.b) (hr : s'.r = s.r) : ∀ (n : Nat) (l seen : List Nat), reach s' rows n l seen = reach s rows n l seen
  | 0, l, seen => by simp only [reach]
  | n + 1, [], seen => by simp only [reach]
  | n + 1, d :: l, seen => by
    simp only [reach, hb, hr, reach_same hb hr n]
theorem panG_congr {o : SOper} {s s' : FS} {z : Value} {u : Upd} (hb : s'.b = s.b) (hr : s'.r = s.r) (ht : ∀ k ∈ o.reads, s'.t k = s.t k) (h : PanG P g o s' z u) : PanG P g o s z u := by
  obtain ⟨hg, h⟩ := h
  refine ⟨hg, ?_⟩
  have hrd : ∀ k ∈ o.op.reads, s'.t k = s.t k := fun k hk => ht k (by simp [SOper.reads, hk])
  cases hop : o.op with
  | pan x =>
    rw [hop] at h hrd
    simp only at h ⊢
    rw [get_congr (x := x) (s := s) (s' := s') hrd] at h
    exact h
  | call f m xs =>
    rw [hop] at h hrd
    simp only at h ⊢
    obtain ⟨args, h1, h2⟩ := h
    rw [getl_congr (s := s) (s' := s') hrd] at h1
    refine ⟨args, h1, ?_⟩
    have hI : handI s' m args = handI s m args := by unfold handI; rw [reach_same hb hr]
    unfold panEff at h2 ⊢
    rw [hI] at h2
    obtain ⟨xs', os, os', us, a1, a2, a3⟩ := h2
    refine ⟨xs', os, os', us, a1, ?_, a3⟩
    rw [← a2]
    refine seqO_congr fun d _ => ?_
    simp only [FS.mo, hb, hr]
  | _ => rw [hop] at h; exact h.elim

theorem trans_pan {o : Oper} {h : Nat} {x : Arg} (hop : transOp P o h = some (.pan x)) : ∃ y, o.op = .panic y ∧ x = .of y := by
  unfold transOp at hop
  repeat' (split at hop)
  all_goals first | (exact ⟨_, by assumption, by cases hop; rfl⟩) | (cases hop; done) | (obtain ⟨_, _, hx⟩ := Option.map_eq_some_iff.1 hop; cases hx)
theorem trans_call {o : Oper} {h f m : Nat} {xs : List Arg} (hop : transOp P o h = some (.call f m xs)) : ∃ ars ats, o.op = .call { callee := .value (.func f), args := ars, argTypes := ats } ∧ xs = ars.toList.map Arg.of := by
  unfold transOp at hop
  repeat' (split at hop)
  all_goals first | (cases hop; exact ⟨_, _, by assumption, rfl⟩) | (cases hop; done) | (obtain ⟨_, _, hx⟩ := Option.map_eq_some_iff.1 hop; cases hx)
variable {H : Option Nat → Nat} {ops : Array Oper} {sops : List SOper}
theorem sim_pan (hm0 : B.m ≤ 1000) (hG : g.G B.w0) (hX : ∀ d b, B.X d b → g.n ≤ b) {s : FS} (h : Sim B s a w E) {i : Nat} {o : Oper} {so : SOper} {fp : Option Nat} (hi : ops[i]? = some o) (ht : transOper P B.N H fp ops o = some so) (hf : FreshO so s) {z : Value} {u : Upd} (hp : PanG P g so s z u)
    {K : Act → World → Prop} {Q : Exit → Act → World → Prop} (hQ : ∀ w' E', Sim B (s.upd so.dst u) a w' E' → Q (.panic [{ v := z, recovered := false }]) a w') : wpOp P ops Q i K a w := by
  unfold transOper at ht
  split at ht <;> try (cases ht; done)
  rename_i gd op hg hop
  split at ht <;> try (cases ht; done)
  rename_i hd
  cases ht
  obtain ⟨hgn, hp⟩ := hp
  have hgo : o.guard = none := by
    cases hgo : o.guard with
    | none => rfl
    | some jw =>
      obtain ⟨j, want⟩ := jw
      rw [hgo] at hg
      simp only [transGuard] at hg
      simp only at hgn
      subst hgn
      split at hg <;> cases hg
  unfold wpOp
  simp only [hi]
  rw [if_pos (by simp [Region.wanted, hgo])]
  refine .inl ?_
  cases hoo : op with
  | pan x =>
    subst hoo
    simp only at hp
    obtain ⟨h1, ⟨t, v, rfl⟩, rfl⟩ := hp
    have hpo := trans_pan hop
    obtain ⟨y, hy, rfl⟩ := hpo
    have hv := val_rel (y := .iface t v) (arg_rel h h1) rfl
    unfold Oper.wp
    have hrun : (execOp a.eval o).run P w = .halt (.panic (.iface t v)) w := by
      simp only [execOp, hy, hv, Instr.panic]; rfl
    rw [hrun]
    exact hQ w E h
  | call f m xs =>
    subst hoo
    simp only at hp
    obtain ⟨args, h1, h2⟩ := hp
    have hpo := trans_call hop
    obtain ⟨ars, ats, hq, rfl⟩ := hpo
    obtain ⟨a1, a2, a3⟩ := get_list h h1
    have harr : (ars.toList.map a.eval).toArray = ars.map a.eval := by rw [← Array.toList_map, Array.toArray_toList]
    refine wp_panAt h hG hX a3 a1 a2 (fun hbody => ?_) hm0 (fun q hq => hf _ (by simp only [SOper.news, SOp.news]; match q, hq with | 0, _ => simp | 1, _ => simp | 2, _ => simp | 3, _ => simp)) h2 (fun w' E' hS => hQ w' E' hS)
    obtain ⟨fn', body, b1, b2, b3⟩ := hbody
    have hex : execOp a.eval o = callFunc f (#[] ++ ars.map a.eval ++ #[]) := by
      obtain ⟨dst, op, type, pos, after, guard⟩ := o
      dsimp only at hq
      subst hq
      rfl
    rw [hex, harr]
    simp [callFunc, b1, b2, b3]
  | _ => subst hoo; exact hp.elim
theorem beq_false' {a b : Nat} (h : a ≠ b) : Nat.beq a b = false := by cases hb : Nat.beq a b with | false => rfl | true => exact absurd (Nat.eq_of_beq_eq_true hb) h
def panOk (ops : Array Oper) (sops : List SOper) : Bool := (List.range sops.length).all fun k => match sops[k]? with
  | some o => !mayPan o.op || (List.range sops.length).all fun i => Nat.beq i k || (if Nat.blt i k then (match sops[i]? with | some p => quiet p | none => true) || ahead ops 4 i k else ahead ops 4 k i)
  | none => true
theorem quiet_run {o : SOper} {sk : FS} : ∀ (A : List Nat) (s : FS), (∀ j ∈ A, ∀ oa, sops[j]? = some oa → quiet oa = true ∧ apart oa o = true) → RunI P g sops A s sk →
    sk.b = s.b ∧ sk.r = s.r ∧ sk.i = s.i ∧ (∀ j ∈ o.reads, sk.t j = s.t j) ∧ (∀ j, (∀ o' ∈ sops, o'.dst ≠ some j) → sk.t j = s.t j)
  | [], s, _, h => by have h : s = sk := h; subst h; exact ⟨rfl, rfl, rfl, fun _ _ => rfl, fun _ _ => rfl⟩
  | x :: A, s, hA, h => by
    obtain ⟨oa, s1, hoa, ⟨C, hC, hst⟩, h2⟩ := h
    obtain ⟨i1, i2, i3, i4, i5⟩ := quiet_run A s1 (fun j hj => hA j (List.mem_cons_of_mem _ hj)) h2
    obtain ⟨hq, hap⟩ := hA x (List.mem_cons_self ..) oa hoa
    obtain ⟨e, he, rfl⟩ := Option.map_eq_some_iff.1 hst
    obtain ⟨q1, q2, q3, q4⟩ := quiet_after hq he
    refine ⟨i1.trans q1, i2.trans q2, i3.trans q3, fun j hj => (i4 j hj).trans (q4 j (fun hd => ?_)), fun j hj => (i5 j hj).trans (q4 j (hj oa (List.mem_of_getElem? hoa)))⟩
    unfold apart at hap
    simp only [Bool.and_eq_true] at hap
    have h1 := hap.1.1
    rw [hd] at h1
    simp at h1
    exact h1.1 hj
theorem any_pan (hm0 : B.m ≤ 1000) (hN : B.N ≤ 1000) (hG : g.G B.w0) (hX : ∀ d b, B.X d b → g.n ≤ b) {fps : Nat → Option Nat} (htr : transOps P B.N H fps ops 0 ops.toList = some sops) (hok : regionOk ops true sops = true) (hpo : panOk ops sops = true) {kk : Nat} {ok : SOper} (hkk : sops[kk]? = some ok) (hmay : mayPan ok.op = true)
    {z : Value} {u : Upd} {sk : FS} (hp : PanG P g ok sk z u) {Q : Exit → Act → World → Prop}
    (hQ : ∀ (s1 : FS) a w E, s1.b = sk.b → s1.r = sk.r → s1.i = sk.i → (∀ j, (∀ o' ∈ sops, o'.dst ≠ some j) → s1.t j = sk.t j) → Sim B (s1.upd ok.dst u) a w E → Q (.panic [{ v := z, recovered := false }]) a w) :
    ∀ (fuel : Nat) (listed : Array Bool) (s : FS) (a : Act) (w : World) (E : Env), listed.size = ops.size → ClosedL ops listed → Sim B s a w E → FreshI sops (rest ops.size listed) s → listed.getD kk true = false → RunI P g sops ((rest ops.size listed).filter (fun i => decide (i < kk))) s sk → (rest ops.size listed).length ≤ fuel →
      wpAny P .any ops Q fuel listed a w := by
  obtain ⟨hlen, hspec⟩ := transOps_spec htr
  have hlen' : ops.size = sops.length := by simpa using hlen
  have hmk := mkAll_of hok
  have hback : ∀ (i : Nat) o, ops[i]? = some o → ∀ e ∈ o.after, Region.binds .any e = true → e.on < i := by
    intro i o hi e he hb
    unfold regionOk at hok
    rw [Bool.and_eq_true] at hok
    have hil : i < sops.length := by rw [← hlen']; exact (Array.getElem?_eq_some_iff.1 hi).1
    have h2 := hok.2
    simp only [Bool.not_true, Bool.false_or] at h2
    have := List.all_eq_true.1 h2 i (by simpa using hil)
    rw [hi] at this
    have := Array.all_eq_true_iff_forall_mem.1 this e he
    simp only [hb, Bool.not_true, Bool.false_or] at this
    rw [Nat.blt_eq] at this
    exact this
  have hrest : ∀ (listed : Array Bool) i, i ∈ rest ops.size listed ↔ i < ops.size ∧ listed.getD i true = false := by
    intro listed i
    simp [rest]
  have hready : ∀ (listed : Array Bool) i, i ∈ Region.ready .any ops listed ↔ i ∈ rest ops.size listed ∧ ∀ o, ops[i]? = some o → ∀ e ∈ o.after, Region.binds .any e = true → listed.getD e.on false = true := by
    intro listed i
    rw [hrest]
    unfold Region.ready
    simp only [List.mem_filter, List.mem_range, Bool.and_eq_true, Bool.not_eq_true']
    constructor
    · rintro ⟨h1, h2, h3⟩
      refine ⟨⟨h1, h2⟩, fun o ho e he hb => ?_⟩
      rw [ho] at h3
      simp only [Option.map_some, Option.getD_some] at h3
      have := Array.all_eq_true_iff_forall_mem.1 h3 e he
      simpa [hb] using this
    · rintro ⟨⟨h1, h2⟩, h3⟩
      refine ⟨h1, h2, ?_⟩
      obtain ⟨o, ho⟩ : ∃ o, ops[i]? = some o := ⟨_, Array.getElem?_eq_getElem h1⟩
      rw [ho]
      simp only [Option.map_some, Option.getD_some]
      refine Array.all_eq_true_iff_forall_mem.2 fun e he => ?_
      cases hb : Region.binds .any e
      · rfl
      · simp [h3 o ho e he hb]
  have hnil : ∀ (listed : Array Bool), listed.size = ops.size → Region.ready .any ops listed = [] → rest ops.size listed = [] := by
    intro listed hsz hr
    cases hrl : rest ops.size listed with
    | nil => rfl
    | cons i l =>
      exfalso
      have hi : i ∈ rest ops.size listed := by rw [hrl]; exact List.mem_cons_self ..
      have hmin : ∀ j, j < i → j ∉ rest ops.size listed := by
        intro j hj hjm
        have hp : (rest ops.size listed).Pairwise (· < ·) := List.Pairwise.filter _ List.pairwise_lt_range
        rw [hrl] at hp hjm
        rcases List.mem_cons.1 hjm with rfl | hjm
        · omega
        · have := (List.pairwise_cons.1 hp).1 j hjm; omega
      have : i ∈ Region.ready .any ops listed := by
        rw [hready]
        refine ⟨hi, fun o ho e he hb => ?_⟩
        have hlt := hback i o ho e he hb
        have hil := ((hrest listed i).1 hi).1
        have hnm := hmin e.on hlt
        rw [hrest] at hnm
        have hel : e.on < listed.size := by omega
        have : listed.getD e.on true ≠ false := fun h => hnm ⟨by omega, h⟩
        simpa [Array.getD, hel] using this
      rw [hr] at this; cases this
  have hkkn : kk < ops.size := by rw [hlen']; exact (List.getElem?_eq_some_iff.1 hkk).1
  have hpk : ∀ i, i < ops.size → i ≠ kk → (i < kk → (∀ p, sops[i]? = some p → quiet p = true) ∨ ahead ops 4 i kk = true) ∧ (kk < i → ahead ops 4 kk i = true) := by
    intro i hi hne
    unfold panOk at hpo
    have h1 := List.all_eq_true.1 hpo kk (by rw [← hlen']; simpa using hkkn)
    simp only [hkk, hmay, Bool.not_true, Bool.false_or] at h1
    have h2 := List.all_eq_true.1 h1 i (by rw [← hlen']; simpa using hi)
    rw [beq_false' hne, Bool.false_or] at h2
    refine ⟨fun hlt => ?_, fun hgt => ?_⟩
    · rw [if_pos (by rw [Nat.blt_eq]; exact hlt)] at h2
      rw [Bool.or_eq_true] at h2
      rcases h2 with h2 | h2
      · exact .inl (fun p hp => by rw [hp] at h2; exact h2)
      · exact .inr h2
    · rw [if_neg (by rw [Nat.blt_eq]; omega)] at h2
      exact h2
  intro fuel
  induction fuel with
  | zero =>
    intro listed s a w E hsz hcl hS hf hun hrun hle
    exfalso
    have hr0 : rest ops.size listed = [] := List.eq_nil_of_length_eq_zero (by omega)
    have := (hrest listed kk).2 ⟨hkkn, hun⟩
    rw [hr0] at this; cases this
  | succ fuel ih =>
    intro listed s a w E hsz hcl hS hf hun hrun hle
    have hkr : kk ∈ rest ops.size listed := (hrest listed kk).2 ⟨hkkn, hun⟩
    refine ⟨fun hr => ?_, fun i hi => ?_⟩
    · exfalso
      have hr0 := hnil listed hsz hr
      rw [hr0] at hkr; cases hkr
    · obtain ⟨hir, hipre⟩ := (hready listed i).1 hi
      obtain ⟨hin, hil⟩ := (hrest listed i).1 hir
      obtain ⟨o, ho⟩ : ∃ o, ops[i]? = some o := ⟨_, Array.getElem?_eq_getElem hin⟩
      obtain ⟨so, hso, hto⟩ := hspec i o (by simpa using ho)
      have hp0 : (rest ops.size listed).Pairwise (· < ·) := List.Pairwise.filter _ List.pairwise_lt_range
      have hnl : ∀ j, j < ops.size → listed.getD j true = false → listed.getD j false = true → False := by
        intro j hj h1 h2
        have hlt : j < listed.size := by omega
        simp [Array.getD, hlt] at h1 h2
        rw [h1] at h2; cases h2
      have hapart : ∀ j, j < i → listed.getD j true = false → ∀ oa, sops[j]? = some oa → apart oa so = true := by
        intro j hji hjl oa hoa
        have hjn : j < ops.size := by omega
        have hok2 := hok
        unfold regionOk at hok2
        rw [Bool.and_eq_true] at hok2
        have := List.all_eq_true.1 (List.all_eq_true.1 hok2.1 i (by simp; omega)) j (by simpa using hji)
        unfold pairOk at this
        rw [hoa, hso] at this
        simp only [Bool.and_eq_true, Bool.not_true, Bool.false_or, Bool.or_eq_true] at this
        rcases this.2 with h1 | h1
        · exact h1
        · exact (hnl j hjn hjl (ahead_listed hcl hsz 4 j i hipre h1)).elim
      rcases Nat.lt_trichotomy i kk with hlt | heq | hgt
      · -- one ahead of it
        have hiA : i ∈ (rest ops.size listed).filter (fun i => decide (i < kk)) := by simp [hir, hlt]
        obtain ⟨A, Bl, hAB⟩ := List.append_of_mem hiA
        have hpA : ((rest ops.size listed).filter (fun i => decide (i < kk))).Pairwise (· < ·) := List.Pairwise.filter _ hp0
        have hfA : FreshI sops ((rest ops.size listed).filter (fun i => decide (i < kk))) s := fun j hj => hf j ((List.mem_filter.1 hj).1)
        have hnd : ((rest ops.size listed).filter (fun i => decide (i < kk))).Nodup := hpA.imp (fun h => Nat.ne_of_lt h)
        rw [hAB] at hpA hnd hfA hrun
        have hA : ∀ j ∈ A, j < i := fun j hj => (List.pairwise_append.1 hpA).2.2 j hj i (List.mem_cons_self ..)
        obtain ⟨s1, hs1, hrun1⟩ := swap_front hmk hso A s hnd (fun j hj oa hoa => by
          have hjr : j ∈ (rest ops.size listed).filter (fun i => decide (i < kk)) := by rw [hAB]; exact List.mem_append_left _ hj
          exact hapart j (hA j hj) ((hrest listed j).1 ((List.mem_filter.1 hjr).1)).2 oa hoa) hfA hrun
        obtain ⟨C1, hC1, hst1⟩ := hs1
        have hs1 : Stp P g so s s1 := ⟨C1, hC1, hst1⟩
        refine sim_step hm0 hN hG hX hC1 hS ho hto (hf i hir so hso) hst1 (fun a' w' E' hS' => ?_)
        have hilt : i < listed.size := by omega
        have hrest' : rest ops.size (listed.setIfInBounds i true) = (rest ops.size listed).filter (fun j => j != i) := by
          unfold rest
          rw [List.filter_filter]
          apply List.filter_congr
          intro j hj
          have hjn : j < ops.size := by simpa using hj
          have hjl : j < listed.size := by omega
          by_cases hji : j = i
          · subst hji; simp [Array.getD, hjl]
          · simp [Array.getD, hjl, hji, Array.getElem_setIfInBounds, Ne.symm hji]
        have hiAB : i ∉ A ++ Bl := by
          have := List.nodup_append.1 hnd
          intro hm
          rcases List.mem_append.1 hm with h1 | h1
          · exact this.2.2 i h1 i (List.mem_cons_self ..) rfl
          · exact (List.nodup_cons.1 this.2.1).1 h1
        have hfil : ((rest ops.size listed).filter (fun j => j != i)).filter (fun i => decide (i < kk)) = A ++ Bl := by
          rw [List.filter_filter]
          have : (rest ops.size listed).filter (fun a => decide (a < kk) && (a != i)) = ((rest ops.size listed).filter (fun i => decide (i < kk))).filter (fun j => j != i) := by
            rw [List.filter_filter]
            apply List.filter_congr
            intro j _; exact Bool.and_comm _ _
          rw [this, hAB, List.filter_append, List.filter_cons]
          simp only [bne_self_eq_false, Bool.false_eq_true, if_false]
          rw [List.filter_eq_self.2, List.filter_eq_self.2]
          · intro j hj; simp; rintro rfl; exact hiAB (List.mem_append_right _ hj)
          · intro j hj; simp; rintro rfl; exact hiAB (List.mem_append_left _ hj)
        refine ih (listed.setIfInBounds i true) s1 a' w' E' (by simpa using hsz) ?_ hS' ?_ ?_ (by rw [hrest', hfil]; exact hrun1) ?_
        · intro j oj hj hjl e he hb
          have hset : ∀ k, listed.getD k false = true → (listed.setIfInBounds i true).getD k false = true := by
            intro k hk
            have hkl : k < listed.size := by
              rcases Nat.lt_or_ge k listed.size with h1 | h1
              · exact h1
              · simp [Array.getD, Nat.not_lt.2 h1] at hk
            by_cases hki : i = k
            · subst hki; simp [Array.getD, hkl]
            · rw [Array.getD_eq_getD_getElem?, Array.getElem?_setIfInBounds_ne hki, ← Array.getD_eq_getD_getElem?]; exact hk
          by_cases hji : j = i
          · subst hji
            exact hset _ (hipre oj hj e he hb)
          · refine hset _ (hcl j oj hj ?_ e he hb)
            have hjn : j < listed.size := by rw [hsz]; exact (Array.getElem?_eq_some_iff.1 hj).1
            simp [Array.getD, hjn, Array.getElem_setIfInBounds, Ne.symm hji] at hjl
            simp [Array.getD, hjn, hjl]
        · rw [hrest']
          refine freshI_step hmk hso (by simp) (fun j hj => hf j ((List.mem_filter.1 hj).1)) hs1
        · have hkl : kk < listed.size := by omega
          have hne : i ≠ kk := by omega
          rw [Array.getD_eq_getD_getElem?, Array.getElem?_setIfInBounds_ne hne, ← Array.getD_eq_getD_getElem?]; exact hun
        · rw [hrest']
          have h1 : ((rest ops.size listed).filter (fun j => j != i)).length < (rest ops.size listed).length := by
            refine List.length_filter_lt_length_iff_exists.2 ⟨i, hir, by simp⟩
          omega
      · -- it itself
        subst heq
        rw [hkk] at hso; cases hso
        obtain ⟨q1, q2, q3, q4, q5⟩ := quiet_run (o := ok) _ s (fun j hj oa hoa => by
          have hjr := (List.mem_filter.1 hj).1
          have hji : j < i := by simpa using (List.mem_filter.1 hj).2
          obtain ⟨hjn, hjl⟩ := (hrest listed j).1 hjr
          refine ⟨?_, hapart j hji hjl oa hoa⟩
          rcases (hpk j hjn (by omega)).1 hji with h1 | h1
          · exact h1 oa hoa
          · exact (hnl j hjn hjl (ahead_listed hcl hsz 4 j i hipre h1)).elim) hrun
        have hp' : PanG P g ok s z u := panG_congr q1 q2 q4 hp
        exact sim_pan hm0 hG hX hS ho hto (hf i hir ok hkk) hp' (fun w' E' hS' => hQ s a w' E' q1.symm q2.symm q3.symm (fun j hj => (q5 j hj).symm) hS')
      · exact (hnl kk hkkn hun (ahead_listed hcl hsz 4 kk i hipre ((hpk i hin (by omega)).2 hgt))).elim
end
end Go.Sh
end

section
/- Sh: finite states, and what code does. No statement of the program is proved here. -/
namespace Go.Sh
open Go Go.RowKit
set_option maxHeartbeats 4000000

def lk {α : Type} : List (Nat × α) → Nat → Option α
  | [], _ => none
  | (k, x) :: l, d => match Nat.beq k d with | true => some x | false => lk l d
def sv {α : Type} : List (Nat × α) → Nat → α → List (Nat × α)
  | [], k, x => [(k, x)]
  | (j, y) :: l, k, x => match Nat.beq j k with | true => (k, x) :: l | false => (j, y) :: sv l k x
def has : List Nat → Nat → Bool
  | [], _ => false
  | k :: l, d => match Nat.beq k d with | true => true | false => has l d
def drp {α : Type} (ids : List Nat) : List (Nat × α) → List (Nat × α)
  | [] => []
  | (k, x) :: l => match has ids k with | true => drp ids l | false => (k, x) :: drp ids l
theorem lk_sv {α : Type} (k : Nat) (x : α) : ∀ l : List (Nat × α), lk (sv l k x) = setF (lk l) k x
  | [] => by
    funext d
    simp only [sv, lk, setF]
    by_cases h : d = k
    · subst h; simp [Nat.beq_refl]
    · have : Nat.beq k d = false := by cases hb : Nat.beq k d with | false => rfl | true => exact absurd (Nat.eq_of_beq_eq_true hb).symm h
      simp [this, h]
  | (j, y) :: l => by
    have ih := lk_sv k x l
    funext d
    simp only [sv]
    cases hj : Nat.beq j k with
    | true =>
      obtain rfl := Nat.eq_of_beq_eq_true hj
      simp only [lk, setF]
      by_cases h : d = j
      · subst h; simp [Nat.beq_refl]
      · have : Nat.beq j d = false := by cases hb : Nat.beq j d with | false => rfl | true => exact absurd (Nat.eq_of_beq_eq_true hb).symm h
        simp [this, h]
    | false =>
      have hne : j ≠ k := by rintro rfl; simp [Nat.beq_refl] at hj
      simp only [lk, ih, setF]
      by_cases h : d = k
      · subst h; simp [hj]
      · simp [h]
theorem has_mem : ∀ {l : List Nat} {d : Nat}, has l d = true ↔ d ∈ l
  | [], d => by simp [has]
  | k :: l, d => by
    simp only [has]
    cases hb : Nat.beq k d with
    | true => simp [Nat.eq_of_beq_eq_true hb]
    | false =>
      have : d ≠ k := by rintro rfl; simp [Nat.beq_refl] at hb
      simp [this, has_mem]
theorem lk_drp {α : Type} {ids : List Nat} : ∀ (l : List (Nat × α)) (d : Nat), lk (drp ids l) d = if has ids d then none else lk l d
  | [], d => by simp [drp, lk]
  | (k, x) :: l, d => by
    have ih := lk_drp (ids := ids) l d
    simp only [drp]
    cases hk : has ids k with
    | true =>
      simp only [ih, lk]
      cases hb : Nat.beq k d with
      | true => obtain rfl := Nat.eq_of_beq_eq_true hb; simp [hk]
      | false => rfl
    | false =>
      simp only [lk, ih]
      cases hb : Nat.beq k d with
      | true => obtain rfl := Nat.eq_of_beq_eq_true hb; simp [hk]
      | false => rfl
theorem lk_map {α : Type} (f : α → α) : ∀ (l : List (Nat × α)) (d : Nat), lk (l.map fun e => (e.1, f e.2)) d = (lk l d).map f
  | [], d => rfl
  | (k, x) :: l, d => by
    simp only [List.map_cons, lk]
    cases Nat.beq k d with
    | true => rfl
    | false => exact lk_map f l d

structure ES where
  t : List (Nat × TV)
  b : List (Nat × List TV)
  r : List (Nat × (Nat × Nat × Nat))
  i : List (Nat × (ByteArray × Nat))
def ES.fs (s : ES) : FS := ⟨lk s.t, lk s.b, lk s.r, lk s.i⟩
def putMem (us : List (Nat × MO)) (s : ES) : List Nat → ES
  | [] => s
  | i :: l => match us.lookup i with
    | some (.box cs) => let s' := putMem us s l; { s' with b := sv s'.b i cs }
    | some (.row e W n) => let s' := putMem us s l; { s' with r := sv s'.r i (e, W, n) }
    | none => putMem us s l
def ES.upd (s : ES) (dst : Option Nat) : Upd → ES
  | .no => s
  | .box cs => match dst with | some d => { s with b := sv s.b d cs } | none => s
  | .wr d cs => { s with b := sv s.b d cs }
  | .row d q => { s with r := sv s.r d q }
  | .mem us => putMem us s (us.map (·.1))
  | .it d q => { s with i := sv s.i d q }
def ES.put (s : ES) (dst : Option Nat) (x : TV) : ES := match dst with | some k => { s with t := sv s.t k x } | none => s
def ES.after (s : ES) (o : SOper) (e : TV × Upd) : ES := (s.upd o.dst e.2).put o.dst e.1

theorem putMem_spec (us : List (Nat × MO)) (s : ES) : ∀ l : List Nat, (putMem us s l).t = s.t ∧ (putMem us s l).i = s.i ∧ (∀ d, lk (putMem us s l).b d = if d ∈ l then memB us (lk s.b) d else lk s.b d) ∧ (∀ d, lk (putMem us s l).r d = if d ∈ l then memR us (lk s.r) d else lk s.r d)
  | [] => by simp [putMem]
  | i :: l => by
    obtain ⟨h1, h2, h3, h4⟩ := putMem_spec us s l
    simp only [putMem]
    cases hm : us.lookup i with
    | none =>
      refine ⟨h1, h2, fun d => ?_, fun d => ?_⟩
      · rw [h3]
        by_cases hd : d = i
        · subst hd; simp [memB, hm]
        · simp [hd]
      · rw [h4]
        by_cases hd : d = i
        · subst hd; simp [memR, hm]
        · simp [hd]
    | some m =>
      cases m with
      | box cs =>
        refine ⟨h1, h2, fun d => ?_, fun d => ?_⟩
        · simp only [lk_sv, setF, h3]
          by_cases hd : d = i
          · subst hd; simp [memB, hm]
          · simp [hd]
        · simp only [h4]
          by_cases hd : d = i
          · subst hd; simp [memR, hm]
          · simp [hd]
      | row e W n =>
        refine ⟨h1, h2, fun d => ?_, fun d => ?_⟩
        · simp only [h3]
          by_cases hd : d = i
          · subst hd; simp [memB, hm]
          · simp [hd]
        · simp only [lk_sv, setF, h4]
          by_cases hd : d = i
          · subst hd; simp [memR, hm]
          · simp [hd]
theorem lookup_none {us : List (Nat × MO)} {d : Nat} (h : d ∉ us.map (·.1)) : us.lookup d = none := by
  cases hl : us.lookup d with
  | none => rfl
  | some m =>
    exfalso
    apply h
    induction us with
    | nil => simp at hl
    | cons p l ih =>
      obtain ⟨x, y⟩ := p
      simp only [List.lookup] at hl
      cases he : (d == x) with
      | true => have : d = x := by simpa using he
                simp [this]
      | false =>
        rw [he] at hl
        have := ih (by intro hh; exact h (by simp at hh ⊢; exact .inr hh)) hl
        simp at this ⊢; exact .inr this
theorem ES.upd_fs (s : ES) (dst : Option Nat) (u : Upd) : (s.upd dst u).fs = s.fs.upd dst u := by
  cases u with
  | no => rfl
  | box cs =>
    cases dst with
    | none => rfl
    | some d => simp only [ES.upd, ES.fs, FS.upd, FS.setB, lk_sv]
  | wr d cs => simp only [ES.upd, ES.fs, FS.upd, FS.setB, lk_sv]
  | row d q => simp only [ES.upd, ES.fs, FS.upd, FS.setR, lk_sv]
  | it d q => simp only [ES.upd, ES.fs, FS.upd, FS.setI, lk_sv]
  | mem us =>
    obtain ⟨h1, h2, h3, h4⟩ := putMem_spec us s (us.map (·.1))
    simp only [ES.upd, ES.fs, FS.upd]
    refine FS.ext' (fun k => ?_) (fun k => ?_) (fun k => ?_) (fun k => ?_)
    · simp [h1]
    · simp only [h3]
      split
      · rfl
      · rename_i hk; simp [memB, lookup_none hk]
    · simp only [h4]
      split
      · rfl
      · rename_i hk; simp [memR, lookup_none hk]
    · simp [h2]
theorem ES.put_fs (s : ES) (dst : Option Nat) (x : TV) : (s.put dst x).fs = s.fs.put dst x := by
  cases dst with
  | none => rfl
  | some k => simp only [ES.put, ES.fs, FS.put, FS.setT, lk_sv]
theorem ES.after_fs (s : ES) (o : SOper) (e : TV × Upd) : (s.after o e).fs = s.fs.after o e := by
  unfold ES.after FS.after
  rw [ES.put_fs, ES.upd_fs]

def TV.m0 (ids : List Nat) : TV → Bool
  | .pv _ | .unk => false
  | .ptr d _ | .own d _ _ | .bs d _ _ _ | .it d => has ids d
  | _ => true
def TV.mF (ids : List Nat) : TV → Bool
  | .fn _ a b => a.any (TV.m0 ids) || b.any (TV.m0 ids)
  | t => t.m0 ids
def TV.mE (ids : List Nat) : TV → Bool
  | .agg cs => cs.any (TV.mF ids)
  | t => t.mF ids
def TV.m1 (ids : List Nat) : TV → Bool
  | .mp _ xs => xs.any (TV.mE ids)
  | t => t.mF ids
def TV.m2 (ids : List Nat) : TV → Bool
  | .agg cs => cs.any (TV.m1 ids)
  | t => t.m1 ids
def TV.m3 (ids : List Nat) : TV → Bool
  | .tuple cs => cs.any (TV.m2 ids)
  | t => t.m2 ids
theorem m0_ment {ids : List Nat} {t : TV} {d : Nat} (h : t.m0 ids = false) (hd : d ∈ ids) : ¬ Ment d t := by
  intro hm
  cases hm <;> simp only [TV.m0] at h
  all_goals first | (rw [has_mem.2 hd] at h; cases h) | cases h
theorem mF_ment {ids : List Nat} {t : TV} {d : Nat} (h : t.mF ids = false) (hd : d ∈ ids) : ¬ Ment d t := by
  cases t with
  | fn f a b =>
    intro hm
    simp only [TV.mF, Bool.or_eq_false_iff, List.any_eq_false] at h
    cases hm with
    | fn1 hc hm => exact m0_ment (by simpa using h.1 _ hc) hd hm
    | fn2 hc hm => exact m0_ment (by simpa using h.2 _ hc) hd hm
  | _ => exact m0_ment h hd
theorem mE_ment {ids : List Nat} {t : TV} {d : Nat} (h : t.mE ids = false) (hd : d ∈ ids) : ¬ Ment d t := by
  cases t with
  | agg cs =>
    intro hm
    simp only [TV.mE, List.any_eq_false] at h
    cases hm with
    | agg hc hm => exact mF_ment (by simpa using h _ hc) hd hm
  | _ => exact mF_ment h hd
theorem m1_ment {ids : List Nat} {t : TV} {d : Nat} (h : t.m1 ids = false) (hd : d ∈ ids) : ¬ Ment d t := by
  cases t with
  | mp ks xs =>
    intro hm
    simp only [TV.m1, List.any_eq_false] at h
    cases hm with
    | mp hc hm => exact mE_ment (by simpa using h _ hc) hd hm
  | _ => exact mF_ment h hd
theorem m2_ment {ids : List Nat} {t : TV} {d : Nat} (h : t.m2 ids = false) (hd : d ∈ ids) : ¬ Ment d t := by
  cases t with
  | agg cs =>
    intro hm
    simp only [TV.m2, List.any_eq_false] at h
    cases hm with
    | agg hc hm => exact m1_ment (by simpa using h _ hc) hd hm
  | _ => exact m1_ment h hd
theorem m3_ment {ids : List Nat} {t : TV} {d : Nat} (h : t.m3 ids = false) (hd : d ∈ ids) : ¬ Ment d t := by
  cases t with
  | tuple cs =>
    intro hm
    simp only [TV.m3, List.any_eq_false] at h
    cases hm with
    | tuple hc hm => exact m2_ment (by simpa using h _ hc) hd hm
  | _ => exact m2_ment h hd
def fgt3 (ids : List Nat) (x : TV) : TV := match x.m3 ids with | true => .unk | false => x
def ES.fgt (s : ES) (ids : List Nat) : ES :=
  ⟨s.t.map fun e => (e.1, fgt3 ids e.2), (drp ids s.b).map fun e => (e.1, e.2.map (fgt3 ids)), drp ids s.r, drp ids s.i⟩
theorem fgt3_cases (ids : List Nat) (x : TV) : fgt3 ids x = x ∨ fgt3 ids x = .unk := by
  unfold fgt3; cases x.m3 ids <;> simp
theorem fgt3_ment {ids : List Nat} {x : TV} {d : Nat} (hd : d ∈ ids) : ¬ Ment d (fgt3 ids x) := by
  unfold fgt3
  cases h : x.m3 ids with
  | true => intro hm; cases hm
  | false => exact m3_ment h hd
theorem fgt_b (s : ES) (ids : List Nat) (d : Nat) : (s.fgt ids).fs.b d = if has ids d then none else (lk s.b d).map fun cs => cs.map (fgt3 ids) := by
  show lk ((drp ids s.b).map fun e => (e.1, e.2.map (fgt3 ids))) d = _
  rw [lk_map (fun cs : List TV => cs.map (fgt3 ids)) (drp ids s.b) d, lk_drp]
  split <;> rfl
theorem fgt_sound {B : Base} {s : ES} {a : Act} {w : World} {E : Env} (h : Sim B s.fs a w E) (ids : List Nat) : Sim B (s.fgt ids).fs a w E := by
  refine h.less (fun k x hx => ?_) (fun d cs' hd => ?_) (fun d q hd => ?_) (fun d q hd => ?_)
  · have hx : lk (s.t.map fun e => (e.1, fgt3 ids e.2)) k = some x := hx
    rw [lk_map (fgt3 ids)] at hx
    obtain ⟨y, h1, rfl⟩ := Option.map_eq_some_iff.1 hx
    rcases fgt3_cases ids y with e | e
    · rw [e]; exact .inl h1
    · exact .inr ⟨e, y, h1⟩
  · rw [fgt_b] at hd
    split at hd
    · cases hd
    · obtain ⟨cs, h1, rfl⟩ := Option.map_eq_some_iff.1 hd
      refine ⟨cs, h1, fun j c hc => ?_⟩
      rw [List.getElem?_map] at hc
      obtain ⟨y, h2, rfl⟩ := Option.map_eq_some_iff.1 hc
      rcases fgt3_cases ids y with e | e
      · rw [e]; exact .inl h2
      · exact .inr ⟨e, y, h2⟩
  · have hd : lk (drp ids s.r) d = some q := hd
    rw [lk_drp] at hd
    split at hd
    · cases hd
    · exact hd
  · have hd : lk (drp ids s.i) d = some q := hd
    rw [lk_drp] at hd
    split at hd
    · cases hd
    · exact hd
theorem fgt_fresh (s : ES) {ids : List Nat} {d : Nat} (hd : d ∈ ids) : Fresh (s.fgt ids).fs d := by
  have hh := has_mem.2 hd
  refine ⟨?_, by rw [fgt_b, hh]; rfl, by show lk (drp ids s.r) d = none; rw [lk_drp, hh]; rfl, by show lk (drp ids s.i) d = none; rw [lk_drp, hh]; rfl⟩
  rintro (⟨k, x, hx, hm⟩ | ⟨e, cs, c, he, hc, hm⟩)
  · have hx : lk (s.t.map fun e => (e.1, fgt3 ids e.2)) k = some x := hx
    rw [lk_map (fgt3 ids)] at hx
    obtain ⟨y, h1, rfl⟩ := Option.map_eq_some_iff.1 hx
    exact fgt3_ment hd hm
  · rw [fgt_b] at he
    split at he
    · cases he
    · obtain ⟨cs0, h1, rfl⟩ := Option.map_eq_some_iff.1 he
      obtain ⟨y, _, rfl⟩ := List.mem_map.1 hc
      exact fgt3_ment hd hm
def ES.kill (s : ES) (ks : List Nat) : ES := match ks with | [] => s | _ => { s with t := drp ks s.t }
theorem kill_sound {B : Base} {s : ES} {a : Act} {w : World} {E : Env} (h : Sim B s.fs a w E) (ks : List Nat) : Sim B (s.kill ks).fs a w E := by
  unfold ES.kill
  split
  · exact h
  · refine h.less (fun k x hx => .inl ?_) (fun d cs hd => ⟨cs, hd, fun j c hc => .inl hc⟩) (fun d q hd => hd) (fun d q hd => hd)
    have hx : lk (drp ks s.t) k = some x := hx
    rw [lk_drp] at hx
    split at hx
    · cases hx
    · exact hx

def runE (P : Program) (C : Oracle) : List SOper → ES → Option ES
  | [], s => some s
  | o :: l, s => match effG P C o s.fs with
    | some e => runE P C l (s.after o e)
    | none => none
def opsW (P : Program) (g : Glob) : List SOper → (ES → Prop) → ES → Prop
  | [], K, s => K s
  | o :: l, K, s => ∃ C, SoundC P g C ∧ ∃ e, effG P C o s.fs = some e ∧ opsW P g l K (s.after o e)
theorem opsW_of_runE {P : Program} {g : Glob} {C : Oracle} (hC : SoundC P g C) {K : ES → Prop} : ∀ {l : List SOper} {s s' : ES}, runE P C l s = some s' → K s' → opsW P g l K s
  | [], s, s', h, hK => by simp [runE] at h; subst h; exact hK
  | o :: l, s, s', h, hK => by
    simp only [runE] at h
    split at h
    · rename_i e he
      exact ⟨C, hC, e, he, opsW_of_runE hC h hK⟩
    · cases h
theorem runI_of_opsW {P : Program} {g : Glob} {sops : List SOper} {K : ES → Prop} : ∀ {l : List SOper} {j : Nat} {s : ES}, sops.drop j = l → opsW P g l K s → ∃ s', RunI P g sops (List.range' j l.length) s.fs s'.fs ∧ K s'
  | [], j, s, _, h => ⟨s, rfl, h⟩
  | o :: l, j, s, hd, h => by
    obtain ⟨C, hC, e, he, h⟩ := h
    have hj : sops[j]? = some o := by
      have := congrArg (·[0]?) hd
      simpa using this
    have hd' : sops.drop (j + 1) = l := by
      have := congrArg (List.drop 1) hd
      simpa [List.drop_drop, Nat.add_comm] using this
    obtain ⟨s', h1, h2⟩ := runI_of_opsW hd' h
    refine ⟨s', ⟨o, s.fs.after o e, hj, ⟨C, hC, by unfold step; rw [he]; rfl⟩, ?_⟩, h2⟩
    rw [← ES.after_fs]; exact h1

section
variable {P : Program} {H : Option Nat → Nat} {ops : Array Oper} {B : Base} {sops : List SOper} {g : Glob} {draw : Bool} {id : Nat}
theorem region_sound (hmix : P.follows .mixedOrders = true) (hm0 : B.m ≤ 1000) (hN : B.N ≤ 1000) (hG : g.G B.w0) (hX : ∀ d b, B.X d b → g.n ≤ b) {fps : Nat → Option Nat} (htr : transRegion P B.N H fps ops draw = some sops) {s : ES} {K : ES → Prop}
    (hf : ∀ d ∈ sops.flatMap SOper.news, Fresh s.fs d) (h : opsW P g sops K s) {a : Act} {w : World} {E : Env} (hS : Sim B s.fs a w E) {Q : Exit → Act → World → Prop} (hQ : ∀ s' a' w' E', K s' → Sim B s'.fs a' w' E' → Q .normal a' w') :
    (Code.region id ops draw).wp P Q a w := by
  unfold transRegion at htr
  split at htr <;> try (cases htr; done)
  rename_i sops' hseq
  split at htr <;> try (cases htr; done)
  rename_i hok
  cases htr
  obtain ⟨s', hrun, hK⟩ := runI_of_opsW (sops := sops) (l := sops) (j := 0) rfl h
  obtain ⟨hlen, hspec⟩ := transOps_spec hseq
  have hlen' : ops.size = sops.length := by simpa using hlen
  have hfi : ∀ l, FreshI sops l s.fs := fun l i _ o ho d hd => hf d (List.mem_flatMap.2 ⟨o, List.mem_of_getElem? ho, hd⟩)
  have hmk := mkAll_of hok
  rw [← List.range_eq_range', ← hlen'] at hrun
  cases draw with
  | false =>
    refine wp_region ?_
    have key : ∀ (l : List Nat) (s : FS) (a : Act) (w : World) (E : Env), l.Nodup → Sim B s a w E → FreshI sops l s → RunI P g sops l s s'.fs → wpOps P ops Q l a w := by
      intro l
      induction l with
      | nil => intro s a w E _ hS _ hr; have hr : s = s'.fs := hr; subst hr; exact hQ s' a w E hK hS
      | cons i l ih =>
        intro s a w E hnd hS hf hr
        obtain ⟨o, s1, ho, ⟨C, hC, hst⟩, hr⟩ := hr
        have hil : i < ops.size := by rw [hlen']; exact (List.getElem?_eq_some_iff.1 ho).1
        have hoi : ops[i]? = some ops[i] := Array.getElem?_eq_getElem hil
        obtain ⟨so, hso, hto⟩ := hspec i ops[i] (by simp [hil])
        rw [ho] at hso; cases hso
        rw [wpOps_cons]
        refine sim_step hm0 hN hG hX hC hS hoi hto (hf i (List.mem_cons_self ..) o ho) hst (fun a' w' E' hS' => ?_)
        exact ih s1 a' w' E' (List.nodup_cons.1 hnd).2 hS' (freshI_step hmk ho (List.nodup_cons.1 hnd).1 (fun j hj => hf j (List.mem_cons_of_mem _ hj)) ⟨C, hC, hst⟩) hr
    exact key _ s.fs a w E List.nodup_range hS (hfi _) hrun
  | true =>
    refine wp_region_any hmix ?_
    have hrest : rest ops.size (Array.replicate ops.size false) = List.range ops.size := by
      unfold rest
      rw [List.filter_eq_self]
      intro i hi
      have : i < ops.size := by simpa using hi
      simp [Array.getD, this]
    refine any_sound hm0 hN hG hX hseq hok (sf := s'.fs) (fun a w E hS => hQ s' a w E hK hS) ops.size _ s.fs a _ E (by simp) (fun i o ho hl => ?_) (hS.same (Below.refl _ _).drew) (hfi _) (by rw [hrest]; exact hrun) (by rw [hrest]; simp)
    have hil := (Array.getElem?_eq_some_iff.1 ho).1
    simp [Array.getD, hil] at hl
end

def opsP (P : Program) (g : Glob) (D : List Nat) : List SOper → (Value → ES → Prop) → ES → Prop
  | [], _, _ => False
  | o :: l, R, s => (mayPan o.op = true ∧ ∃ z u, PanG P g o s.fs z u ∧ R z ((s.upd o.dst u).kill D)) ∨ ∃ C, SoundC P g C ∧ ∃ e, effG P C o s.fs = some e ∧ opsP P g D l R (s.after o e)
theorem runI_of_opsP {P : Program} {g : Glob} {D : List Nat} {sops : List SOper} {R : Value → ES → Prop} : ∀ {l : List SOper} {j : Nat} {s : ES}, sops.drop j = l → opsP P g D l R s →
    ∃ (k : Nat) (o : SOper) (sk : ES) (z : Value) (u : Upd), j ≤ k ∧ sops[k]? = some o ∧ mayPan o.op = true ∧ RunI P g sops (List.range' j (k - j)) s.fs sk.fs ∧ PanG P g o sk.fs z u ∧ R z ((sk.upd o.dst u).kill D)
  | [], j, s, _, h => h.elim
  | o :: l, j, s, hd, h => by
    have hj : sops[j]? = some o := by
      have := congrArg (·[0]?) hd
      simpa using this
    rcases h with ⟨h1, z, u, h2, h3⟩ | ⟨C, hC, e, he, h⟩
    · exact ⟨j, o, s, z, u, Nat.le_refl _, hj, h1, by rw [Nat.sub_self]; exact rfl, h2, h3⟩
    · have hd' : sops.drop (j + 1) = l := by
        have := congrArg (List.drop 1) hd
        simpa [List.drop_drop, Nat.add_comm] using this
      obtain ⟨k, o', sk, z, u, a1, a2, a3, a4, a5, a6⟩ := runI_of_opsP hd' h
      refine ⟨k, o', sk, z, u, by omega, a2, a3, ?_, a5, a6⟩
      have : k - j = (k - (j + 1)) + 1 := by omega
      rw [this, List.range'_succ]
      exact ⟨o, s.fs.after o e, hj, ⟨C, hC, by unfold step; rw [he]; rfl⟩, by rw [← ES.after_fs]; exact a4⟩
theorem kill_t {s : ES} {ks : List Nat} {k : Nat} {x : TV} (h : lk (s.kill ks).t k = some x) : k ∉ ks ∧ lk s.t k = some x := by
  unfold ES.kill at h
  split at h
  · exact ⟨by simp, h⟩
  · have h : lk (drp ks s.t) k = some x := h
    rw [lk_drp] at h
    split at h
    · cases h
    · rename_i hh
      refine ⟨fun hm => hh (has_mem.2 hm), h⟩
theorem kill_bri (s : ES) (ks : List Nat) : (s.kill ks).b = s.b ∧ (s.kill ks).r = s.r ∧ (s.kill ks).i = s.i := by
  unfold ES.kill
  split <;> exact ⟨rfl, rfl, rfl⟩
def dstOps (l : List SOper) : List Nat := l.filterMap (·.dst)
section
variable {P : Program} {H : Option Nat → Nat} {ops : Array Oper} {B : Base} {sops : List SOper} {g : Glob} {draw : Bool} {id : Nat}
theorem upd_of_eq {s1 sk : FS} (hb : s1.b = sk.b) (hr : s1.r = sk.r) (hi : s1.i = sk.i) (dst : Option Nat) (u : Upd) : (s1.upd dst u).b = (sk.upd dst u).b ∧ (s1.upd dst u).r = (sk.upd dst u).r ∧ (s1.upd dst u).i = (sk.upd dst u).i :=
  ⟨funext fun d => by rw [upd_b, upd_b, hb], funext fun d => by rw [upd_r, upd_r, hr], funext fun d => by rw [upd_i, upd_i, hi]⟩
theorem region_pan (hmix : P.follows .mixedOrders = true) (hm0 : B.m ≤ 1000) (hN : B.N ≤ 1000) (hG : g.G B.w0) (hX : ∀ d b, B.X d b → g.n ≤ b) {fps : Nat → Option Nat} (htr : transRegion P B.N H fps ops draw = some sops) (hpo : draw = true → panOk ops sops = true) {s : ES} {R : Value → ES → Prop}
    (hf : ∀ d ∈ sops.flatMap SOper.news, Fresh s.fs d) (h : opsP P g (dstOps sops) sops R s) {a : Act} {w : World} {E : Env} (hS : Sim B s.fs a w E) {Q : Exit → Act → World → Prop} (hQ : ∀ z s' a' w' E', R z s' → Sim B s'.fs a' w' E' → Q (.panic [{ v := z, recovered := false }]) a' w') :
    (Code.region id ops draw).wp P Q a w := by
  unfold transRegion at htr
  split at htr <;> try (cases htr; done)
  rename_i sops' hseq
  split at htr <;> try (cases htr; done)
  rename_i hok
  cases htr
  obtain ⟨k, o, sk, z, u, _, hk, hmay, hrun, hp, hR⟩ := runI_of_opsP (sops := sops) (l := sops) (j := 0) rfl h
  obtain ⟨hlen, hspec⟩ := transOps_spec hseq
  have hlen' : ops.size = sops.length := by simpa using hlen
  have hkn : k < sops.length := (List.getElem?_eq_some_iff.1 hk).1
  have hfi : ∀ l, FreshI sops l s.fs := fun l i _ o ho d hd => hf d (List.mem_flatMap.2 ⟨o, List.mem_of_getElem? ho, hd⟩)
  have hmk := mkAll_of hok
  rw [Nat.sub_zero, ← List.range_eq_range'] at hrun
  have fin : ∀ (s1 : FS) a w E, s1.b = sk.fs.b → s1.r = sk.fs.r → s1.i = sk.fs.i → (∀ j, (∀ o' ∈ sops, o'.dst ≠ some j) → s1.t j = sk.fs.t j) → Sim B (s1.upd o.dst u) a w E → Q (.panic [{ v := z, recovered := false }]) a w := by
    intro s1 a w E e1 e2 e3 e4 hS1
    refine hQ z _ a w E hR ?_
    obtain ⟨u1, u2, u3⟩ := upd_of_eq e1 e2 e3 o.dst u
    obtain ⟨k1, k2, k3⟩ := kill_bri (sk.upd o.dst u) (dstOps sops)
    have hfs : (sk.upd o.dst u).fs = sk.fs.upd o.dst u := ES.upd_fs _ _ _
    refine hS1.less (fun j x hx => .inl ?_) (fun d cs hd => ⟨cs, ?_, fun j c hc => .inl hc⟩) (fun d q hd => ?_) (fun d q hd => ?_)
    · obtain ⟨h1, h2⟩ := kill_t hx
      have h2 : (sk.upd o.dst u).fs.t j = some x := h2
      rw [hfs, upd_t] at h2
      rw [upd_t, e4 j (fun o' ho' hd => h1 (List.mem_filterMap.2 ⟨o', ho', hd⟩))]
      exact h2
    · have hd : lk ((sk.upd o.dst u).kill (dstOps sops)).b d = some cs := hd
      rw [k1] at hd
      have hd : (sk.upd o.dst u).fs.b d = some cs := hd
      rw [hfs] at hd; rw [u1]; exact hd
    · have hd : lk ((sk.upd o.dst u).kill (dstOps sops)).r d = some q := hd
      rw [k2] at hd
      have hd : (sk.upd o.dst u).fs.r d = some q := hd
      rw [hfs] at hd; rw [u2]; exact hd
    · have hd : lk ((sk.upd o.dst u).kill (dstOps sops)).i d = some q := hd
      rw [k3] at hd
      have hd : (sk.upd o.dst u).fs.i d = some q := hd
      rw [hfs] at hd; rw [u3]; exact hd
  cases draw with
  | false =>
    refine wp_region ?_
    have key : ∀ (l : List Nat) (s : FS) (a : Act) (w : World) (E : Env) (r : List Nat), (l ++ k :: r).Nodup → Sim B s a w E → FreshI sops (l ++ k :: r) s → RunI P g sops l s sk.fs → wpOps P ops Q (l ++ k :: r) a w := by
      intro l
      induction l with
      | nil =>
        intro s a w E r hnd hS hf hr
        have hr : s = sk.fs := hr
        subst hr
        have hil : k < ops.size := by rw [hlen']; exact hkn
        have hoi : ops[k]? = some ops[k] := Array.getElem?_eq_getElem hil
        obtain ⟨so, hso, hto⟩ := hspec k ops[k] (by simp [hil])
        rw [hk] at hso; cases hso
        rw [List.nil_append, wpOps_cons]
        exact sim_pan hm0 hG hX hS hoi hto (hf k (by simp) o hk) hp (fun w' E' hS' => fin sk.fs a w' E' rfl rfl rfl (fun _ _ => rfl) hS')
      | cons i l ih =>
        intro s a w E r hnd hS hf hr
        obtain ⟨oi, s1, ho, ⟨C, hC, hst⟩, hr⟩ := hr
        have hil : i < ops.size := by rw [hlen']; exact (List.getElem?_eq_some_iff.1 ho).1
        have hoi : ops[i]? = some ops[i] := Array.getElem?_eq_getElem hil
        obtain ⟨so, hso, hto⟩ := hspec i ops[i] (by simp [hil])
        rw [ho] at hso; cases hso
        rw [List.cons_append] at hnd hf ⊢
        rw [wpOps_cons]
        refine sim_step hm0 hN hG hX hC hS hoi hto (hf i (List.mem_cons_self ..) oi ho) hst (fun a' w' E' hS' => ?_)
        exact ih s1 a' w' E' r (List.nodup_cons.1 hnd).2 hS' (freshI_step hmk ho (List.nodup_cons.1 hnd).1 (fun j hj => hf j (List.mem_cons_of_mem _ hj)) ⟨C, hC, hst⟩) hr
    have hsplit : List.range ops.size = List.range k ++ k :: List.range' (k + 1) (ops.size - (k + 1)) := by
      have : ops.size = k + 1 + (ops.size - (k + 1)) := by omega
      conv => lhs; rw [this]
      rw [List.range_add, List.range_succ, List.append_assoc]
      congr 1
      rw [List.singleton_append, List.range'_eq_map_range]
    rw [hsplit]
    exact key _ s.fs a w E _ (by rw [← hsplit]; exact List.nodup_range) hS (hfi _) hrun
  | true =>
    refine wp_region_any hmix ?_
    have hrest : rest ops.size (Array.replicate ops.size false) = List.range ops.size := by
      unfold rest
      rw [List.filter_eq_self]
      intro i hi
      have : i < ops.size := by simpa using hi
      simp [Array.getD, this]
    have hfil : (List.range ops.size).filter (fun i => decide (i < k)) = List.range k := by
      have : ops.size = k + (ops.size - k) := by omega
      rw [this, List.range_add, List.filter_append, List.filter_eq_self.2 (by intro i hi; simpa using hi), List.filter_eq_nil_iff.2, List.append_nil]
      intro i hi
      obtain ⟨j, _, rfl⟩ := List.mem_map.1 hi
      simp
    refine any_pan hm0 hN hG hX hseq hok (hpo rfl) hk hmay hp fin ops.size _ s.fs a _ E (by simp) (fun i o ho hl => ?_) (hS.same (Below.refl _ _).drew) (hfi _) ?_ (by rw [hrest, hfil]; exact hrun) (by rw [hrest]; simp)
    · have hil := (Array.getElem?_eq_some_iff.1 ho).1
      simp [Array.getD, hil] at hl
    · have : k < ops.size := by rw [hlen']; exact hkn
      simp [Array.getD, this]
end

inductive SCode where
  | skip
  | regq (alts : List (List Nat × List SOper)) (kill : List Nat)
  | raw (N : Nat) (c : Code)
  | reg (alts : List (List Nat × List SOper)) (kill : List Nat)
  | seq (a b : SCode)
  | cond (c : Arg) (a b : SCode)
  | block (id : Nat) (a : SCode)
  | loop (a : SCode)
  | exit (id : Nat)
  | ret
inductive SExit where
  | normal
  | exit (id : Nat)
  | ret
  | pan (z : Value)
def SExit.to : SExit → Exit
  | .normal => .normal
  | .exit id => .exit id
  | .ret => .ret
  | .pan z => .panic [{ v := z, recovered := false }]
def hasApp (ops : Array Oper) : Bool := ops.any fun o => match o.op with | .call { callee := .builtin .append, .. } => true | _ => false
def transAlts (P : Program) (N : Nat) (ops : Array Oper) (draw : Bool) : List ((Option Nat → Nat) × (Nat → Option Nat)) → List (List Nat × List SOper)
  | [] => []
  | H :: r => match transRegion P N H.1 H.2 ops draw with
    | some l => (l.flatMap SOper.news, l) :: transAlts P N ops draw r
    | none => transAlts P N ops draw r
def transAltsQ (P : Program) (N : Nat) (ops : Array Oper) (draw : Bool) : List ((Option Nat → Nat) × (Nat → Option Nat)) → List (List Nat × List SOper)
  | [] => []
  | H :: r => match transRegion P N H.1 H.2 ops draw with
    | some l => if !draw || panOk ops l then (l.flatMap SOper.news, l) :: transAltsQ P N ops draw r else transAltsQ P N ops draw r
    | none => transAltsQ P N ops draw r
def altsOf (H : Nat → Option Nat → Nat) (Fs : List (Nat → Option Nat)) (app : Bool) : List ((Option Nat → Nat) × (Nat → Option Nat)) :=
  Fs.flatMap fun F => if app then [(H 0, F), (H 1, F)] else [(H 0, F)]
def transCode (P : Program) (N : Nat) (H : Nat → Option Nat → Nat) (Fp : Nat → List (Nat → Option Nat)) (K : Nat → List Nat) : Code → Option SCode
  | .skip => some .skip
  | .region id ops draw => match has (K id) 9999 with
    | true => some (.regq (transAltsQ P N ops draw (altsOf H (Fp id) (hasApp ops))) (K id))
    | false => match has (K id) 9998 with
      | true => some (.raw N (.region id ops draw))
      | false => some (.reg (transAlts P N ops draw (altsOf H (Fp id) (hasApp ops))) (K id))
  | .rangeFunc a b c d => some (.raw N (.rangeFunc a b c d))
  | .seq a b => match transCode P N H Fp K a, transCode P N H Fp K b with
    | some a', some b' => some (.seq a' b')
    | _, _ => none
  | .cond c a b => match transCode P N H Fp K a, transCode P N H Fp K b with
    | some a', some b' => some (.cond (Arg.of c) a' b')
    | _, _ => none
  | .block id a => (transCode P N H Fp K a).map (.block id)
  | .loop a => (transCode P N H Fp K a).map .loop
  | .exit id => some (.exit id)
  | .ret => some .ret
  | _ => none

def leL {α : Type} : List (Nat × α) → List (Nat × α) → Prop
  | [], _ => True
  | (k, x) :: r, l => lk l k = some x ∧ leL r l
structure ES.Le (s0 s : ES) : Prop where
  t : ∀ k x, lk s0.t k = some x → lk s.t k = some x
  b : ∀ k x, lk s0.b k = some x → lk s.b k = some x
  r : ∀ k x, lk s0.r k = some x → lk s.r k = some x
  i : ∀ k x, lk s0.i k = some x → lk s.i k = some x
theorem ES.Le.refl (s : ES) : s.Le s := ⟨fun _ _ h => h, fun _ _ h => h, fun _ _ h => h, fun _ _ h => h⟩
theorem leL_lk {α : Type} {l : List (Nat × α)} : ∀ {l0 : List (Nat × α)}, leL l0 l → ∀ {k : Nat} {x : α}, lk l0 k = some x → lk l k = some x
  | [], _, k, x, h => by simp [lk] at h
  | (j, y) :: r, ⟨h1, h2⟩, k, x, h => by
    simp only [lk] at h
    split at h
    · rename_i hb
      obtain rfl := Nat.eq_of_beq_eq_true hb
      cases h; exact h1
    · exact leL_lk h2 h
theorem le_of {s0 s : ES} (h1 : leL s0.t s.t) (h2 : leL s0.b s.b) (h3 : leL s0.r s.r) (h4 : leL s0.i s.i) : s0.Le s := ⟨fun _ _ h => leL_lk h1 h, fun _ _ h => leL_lk h2 h, fun _ _ h => leL_lk h3 h, fun _ _ h => leL_lk h4 h⟩
theorem le_sound {B : Base} {s0 s : ES} {a : Act} {w : World} {E : Env} (hle : s0.Le s) (h : Sim B s.fs a w E) : Sim B s0.fs a w E :=
  h.less (fun k x hx => .inl (hle.t k x hx)) (fun d cs hd => ⟨cs, hle.b d cs hd, fun j c hc => .inl hc⟩) (fun d q hd => hle.r d q hd) (fun d q hd => hle.i d q hd)
def ES.Lw (s0 s : ES) : Prop := ∀ (B : Base) (a : Act) (w : World) (E : Env), B.m ≤ 1000 → B.N ≤ 1000 → Sim B s.fs a w E → ∃ E', Sim B s0.fs a w E'
theorem ES.Lw.refl (s : ES) : s.Lw s := fun _ _ _ E _ _ h => ⟨E, h⟩
theorem ES.Lw.trans {a b c : ES} (h1 : a.Lw b) (h2 : b.Lw c) : a.Lw c := fun B x w E hm hn h => by
  obtain ⟨E1, h3⟩ := h2 B x w E hm hn h
  exact h1 B x w E1 hm hn h3
theorem ES.Le.lw {s0 s : ES} (h : s0.Le s) : s0.Lw s := fun _ _ _ E _ _ hS => ⟨E, le_sound h hS⟩
def regW (P : Program) (g : Glob) (alts : List (List Nat × List SOper)) (kill : List Nat) (K : ES → Prop) (s : ES) : Prop :=
  ∃ a ∈ alts, opsW P g a.2 (fun s' => K (s'.kill kill)) (s.fgt a.1)
def condW (c : Arg) (s : ES) (A B : Prop) : Prop := ∃ t, c.get s.fs = some (.pv (.v (.bool t))) ∧ (if t then A else B)
def thenW (K : ES → Prop) (Q : SExit → ES → Prop) : SExit → ES → Prop
  | .normal, s => K s
  | e, s => Q e s
def blockW (id : Nat) (Q : SExit → ES → Prop) : SExit → ES → Prop
  | .exit j, s => if j = id then Q .normal s else Q (.exit j) s
  | e, s => Q e s
def regP (P : Program) (g : Glob) (alts : List (List Nat × List SOper)) (Q : SExit → ES → Prop) (s : ES) : Prop :=
  ∃ a ∈ alts, opsP P g (dstOps a.2) a.2 (fun z s' => Q (.pan z) s') (s.fgt a.1)
def RawW (P : Program) (g : Glob) (N : Nat) (c : Code) (Q : SExit → ES → Prop) (s : ES) : Prop :=
  ∀ (B : Base) (a : Act) (w : World) (E : Env), B.N = N → B.m ≤ 1000 → B.N ≤ 1000 → g.G B.w0 → (∀ d b, B.X d b → g.n ≤ b) → Sim B s.fs a w E →
    c.wp P (fun x a' w' => ∃ e s' E', x = SExit.to e ∧ Q e s' ∧ Sim B s'.fs a' w' E') a w
def swp (P : Program) (g : Glob) : SCode → (SExit → ES → Prop) → ES → Prop
  | .skip, Q, s => Q .normal s
  | .reg alts kill, Q, s => regW P g alts kill (Q .normal) s
  | .regq alts kill, Q, s => regW P g alts kill (Q .normal) s ∨ regP P g alts Q s
  | .raw N c, Q, s => RawW P g N c Q s
  | .seq a b, Q, s => swp P g a (thenW (swp P g b Q) Q) s
  | .cond c a b, Q, s => condW c s (swp P g a Q s) (swp P g b Q s)
  | .block id a, Q, s => swp P g a (blockW id Q) s
  | .loop a, Q, s => ∃ (I : Nat → ES → Prop) (n : Nat), (∃ s0, s0.Lw s ∧ I n s0) ∧ ∀ n s, I n s → swp P g a (thenW (fun s' => ∃ m, m < n ∧ ∃ s0, s0.Lw s' ∧ I m s0) Q) s
  | .exit id, Q, s => Q (.exit id) s
  | .ret, Q, s => Q .ret s

theorem opsP_mono {P : Program} {g : Glob} {D : List Nat} {R R' : Value → ES → Prop} (hq : ∀ z s, R z s → R' z s) : ∀ (l : List SOper) (s : ES), opsP P g D l R s → opsP P g D l R' s
  | [], _, h => h
  | o :: l, s, h => by
    rcases h with ⟨h1, z, u, h2, h3⟩ | ⟨C, hC, e, he, h⟩
    · exact .inl ⟨h1, z, u, h2, hq _ _ h3⟩
    · exact .inr ⟨C, hC, e, he, opsP_mono hq l _ h⟩
theorem regW_mono {P : Program} {g : Glob} {alts : List (List Nat × List SOper)} {kill : List Nat} {K K' : ES → Prop} {s : ES} (hq : ∀ s, K s → K' s) (h : regW P g alts kill K s) : regW P g alts kill K' s := by
  obtain ⟨a, ha, h⟩ := h
  refine ⟨a, ha, ?_⟩
  have key : ∀ (l : List SOper) (s : ES), opsW P g l (fun s' => K (s'.kill kill)) s → opsW P g l (fun s' => K' (s'.kill kill)) s := by
    intro l
    induction l with
    | nil => exact fun s h => hq _ h
    | cons o l ih => rintro s ⟨C, hC, e, he, h⟩; exact ⟨C, hC, e, he, ih _ h⟩
  exact key _ _ h
theorem swp_mono {P : Program} {g : Glob} : ∀ {c : SCode} {Q Q' : SExit → ES → Prop} {s : ES}, swp P g c Q s → (∀ e s, Q e s → Q' e s) → swp P g c Q' s
  | .skip, Q, Q', s, h, hq => hq _ _ h
  | .reg alts kill, Q, Q', s, h, hq => regW_mono (fun _ h => hq _ _ h) h
  | .regq alts kill, Q, Q', s, h, hq => by
    rcases h with h | ⟨a, ha, h⟩
    · exact .inl (regW_mono (fun _ h => hq _ _ h) h)
    · exact .inr ⟨a, ha, opsP_mono (fun _ _ h => hq _ _ h) _ _ h⟩
  | .raw N c, Q, Q', s, h, hq => fun B a w E e1 e2 e3 e4 e5 e6 => wp_mono (h B a w E e1 e2 e3 e4 e5 e6) (by
    rintro x a' w' ⟨e, s', E', h1, h2, h3⟩
    exact ⟨e, s', E', h1, hq _ _ h2, h3⟩)
  | .seq a b, Q, Q', s, h, hq => swp_mono (c := a) h fun e s he => by
    cases e with
    | normal => exact swp_mono (c := b) he hq
    | exit id => exact hq _ _ he
    | ret => exact hq _ _ he
    | pan z => exact hq _ _ he
  | .cond c a b, Q, Q', s, h, hq => by
    obtain ⟨t, h1, h2⟩ := h
    refine ⟨t, h1, ?_⟩
    cases t with
    | true => exact swp_mono (c := a) h2 hq
    | false => exact swp_mono (c := b) h2 hq
  | .block id a, Q, Q', s, h, hq => swp_mono (c := a) h fun e s he => by
    cases e with
    | exit j => simp only [blockW] at he ⊢; split at he <;> rename_i hj <;> simp [hj, hq _ _ he]
    | normal => exact hq _ _ he
    | ret => exact hq _ _ he
    | pan z => exact hq _ _ he
  | .loop a, Q, Q', s, h, hq => by
    obtain ⟨I, n, h0, h1⟩ := h
    refine ⟨I, n, h0, fun n s hI => swp_mono (c := a) (h1 n s hI) fun e s he => ?_⟩
    cases e with
    | normal => exact he
    | exit id => exact hq _ _ he
    | ret => exact hq _ _ he
    | pan z => exact hq _ _ he
  | .exit id, Q, Q', s, h, hq => hq _ _ h
  | .ret, Q, Q', s, h, hq => hq _ _ h

theorem least {p : Nat → Prop} (h : ∃ n, p n) : ∃ n, p n ∧ ∀ m, p m → n ≤ m := by
  obtain ⟨n, hn⟩ := h
  induction n using Nat.strongRecOn with
  | _ n ih =>
    by_cases hl : ∃ m, m < n ∧ p m
    · obtain ⟨m, hm, hp⟩ := hl; exact ih m hm hp
    · exact ⟨n, hn, fun m hp => Nat.le_of_not_lt fun hlt => hl ⟨m, hlt, hp⟩⟩
open Classical in
noncomputable def leastOf (p : Act → World → Nat → Prop) (a : Act) (w : World) : Nat := if h : ∃ n, p a w n then Classical.choose (least h) else 0
theorem leastOf_spec {p : Act → World → Nat → Prop} {a : Act} {w : World} (h : ∃ n, p a w n) : p a w (leastOf p a w) ∧ ∀ m, p a w m → leastOf p a w ≤ m := by
  unfold leastOf
  rw [dif_pos h]
  exact Classical.choose_spec (least h)
section
variable {P : Program} {H : Nat → Option Nat → Nat} {Fp : Nat → List (Nat → Option Nat)} {K : Nat → List Nat} {B : Base} {g : Glob}
theorem swp_sound (hmix : P.follows .mixedOrders = true) (hm0 : B.m ≤ 1000) (hN : B.N ≤ 1000) (hG : g.G B.w0) (hX : ∀ d b, B.X d b → g.n ≤ b) : ∀ {c : Code} {sc : SCode}, transCode P B.N H Fp K c = some sc → ∀ {Q : SExit → ES → Prop} {s : ES}, swp P g sc Q s → ∀ {a : Act} {w : World} {E : Env}, Sim B s.fs a w E →
    c.wp P (fun x a' w' => ∃ e s' E', x = SExit.to e ∧ Q e s' ∧ Sim B s'.fs a' w' E') a w := by
  intro c
  induction c with
  | skip =>
    intro sc h Q s hs a w E hS
    simp only [transCode] at h; cases h
    exact wp_skip ⟨.normal, s, E, rfl, hs, hS⟩
  | exit id =>
    intro sc h Q s hs a w E hS
    simp only [transCode] at h; cases h
    exact wp_exit ⟨.exit id, s, E, rfl, hs, hS⟩
  | ret =>
    intro sc h Q s hs a w E hS
    simp only [transCode] at h; cases h
    exact wp_ret ⟨.ret, s, E, rfl, hs, hS⟩
  | region id ops draw =>
    intro sc h Q s hs a w E hS
    simp only [transCode] at h
    split at h
    · -- one of its operations may panic
      cases h
      have key : ∀ (Hs : List ((Option Nat → Nat) × (Nat → Option Nat))) (al : List Nat × List SOper), al ∈ transAltsQ P B.N ops draw Hs → ∃ H, ∃ F : Nat → Option Nat, transRegion P B.N H F ops draw = some al.2 ∧ al.1 = al.2.flatMap SOper.news ∧ (draw = true → panOk ops al.2 = true) := by
        intro Hs
        induction Hs with
        | nil => simp [transAltsQ]
        | cons H r ih =>
          intro al hm
          simp only [transAltsQ] at hm
          split at hm
          · rename_i l hl
            split at hm
            · rename_i hp
              rcases List.mem_cons.1 hm with rfl | hm
              · exact ⟨H.1, H.2, hl, rfl, fun hd => by simpa [hd] using hp⟩
              · exact ih al hm
            · exact ih al hm
          · exact ih al hm
      rcases hs with ⟨al, hal, hs⟩ | ⟨al, hal, hs⟩
      · obtain ⟨H', F', htr, hn, _⟩ := key _ al hal
        refine region_sound hmix hm0 hN hG hX htr (s := s.fgt al.1) (fun d hd => fgt_fresh s (by rw [hn]; exact hd)) hs (fgt_sound hS al.1) (fun s' a' w' E' hK hS' => ⟨.normal, s'.kill _, E', rfl, hK, kill_sound hS' _⟩)
      · obtain ⟨H', F', htr, hn, hpo⟩ := key _ al hal
        exact region_pan hmix hm0 hN hG hX htr hpo (s := s.fgt al.1) (fun d hd => fgt_fresh s (by rw [hn]; exact hd)) hs (fgt_sound hS al.1) (fun z s' a' w' E' hR hS' => ⟨.pan z, s', E', rfl, hR, hS'⟩)
    · split at h
      · cases h; exact hs B a w E rfl hm0 hN hG hX hS
      cases h
      obtain ⟨al, hal, hs⟩ := hs
      have key : ∀ (Hs : List ((Option Nat → Nat) × (Nat → Option Nat))), al ∈ transAlts P B.N ops draw Hs → ∃ H, ∃ F : Nat → Option Nat, transRegion P B.N H F ops draw = some al.2 ∧ al.1 = al.2.flatMap SOper.news := by
        intro Hs
        induction Hs with
        | nil => simp [transAlts]
        | cons H r ih =>
          intro hm
          simp only [transAlts] at hm
          split at hm
          · rename_i l hl
            rcases List.mem_cons.1 hm with rfl | hm
            · exact ⟨H.1, H.2, hl, rfl⟩
            · exact ih hm
          · exact ih hm
      obtain ⟨H', F', htr, hn⟩ := key _ hal
      refine region_sound hmix hm0 hN hG hX htr (s := s.fgt al.1) (fun d hd => fgt_fresh s (by rw [hn]; exact hd)) hs (fgt_sound hS al.1) (fun s' a' w' E' hK hS' => ⟨.normal, s'.kill _, E', rfl, hK, kill_sound hS' _⟩)
  | seq a b iha ihb =>
    intro sc h Q s hs ac w E hS
    simp only [transCode] at h
    split at h <;> try (cases h; done)
    rename_i a' b' ha hb
    cases h
    refine wp_seq (wp_mono (iha ha hs hS) ?_)
    rintro x a2 w2 ⟨e, s2, E2, rfl, hq, hS2⟩
    cases e with
    | normal => exact ihb hb hq hS2
    | exit id => exact ⟨.exit id, s2, E2, rfl, hq, hS2⟩
    | ret => exact ⟨.ret, s2, E2, rfl, hq, hS2⟩
    | pan z => exact ⟨.pan z, s2, E2, rfl, hq, hS2⟩
  | cond cnd a b iha ihb =>
    intro sc h Q s hs ac w E hS
    simp only [transCode] at h
    split at h <;> try (cases h; done)
    rename_i a' b' ha hb
    cases h
    obtain ⟨t, h1, h2⟩ := hs
    have hv := val_rel (y := .bool t) (arg_rel hS h1) rfl
    refine wp_cond hv ?_
    cases t with
    | true => exact iha ha h2 hS
    | false => exact ihb hb h2 hS
  | block id a ih =>
    intro sc h Q s hs ac w E hS
    simp only [transCode] at h
    obtain ⟨a', ha, rfl⟩ := Option.map_eq_some_iff.1 h
    refine wp_block (wp_mono (ih ha hs hS) ?_)
    rintro x a2 w2 ⟨e, s2, E2, rfl, hq, hS2⟩
    cases e with
    | normal => exact ⟨.normal, s2, E2, rfl, hq, hS2⟩
    | ret => exact ⟨.ret, s2, E2, rfl, hq, hS2⟩
    | pan z => exact ⟨.pan z, s2, E2, rfl, hq, hS2⟩
    | exit j =>
      simp only [SExit.to, Exit.inBlock]
      simp only [blockW] at hq
      split
      · rename_i hj; simp only [hj, if_true] at hq; exact ⟨.normal, s2, E2, rfl, hq, hS2⟩
      · rename_i hj; simp only [hj, if_false] at hq; exact ⟨.exit j, s2, E2, rfl, hq, hS2⟩
  | loop a ih =>
    intro sc h Q s hs ac w E hS
    simp only [transCode] at h
    obtain ⟨a', ha, rfl⟩ := Option.map_eq_some_iff.1 h
    obtain ⟨I, n, ⟨s0, hle, h0⟩, hround⟩ := hs
    obtain ⟨E0, hS0⟩ := hle B ac w E hm0 hN hS
    have hex : ∃ n, ∃ s E, I n s ∧ Sim B s.fs ac w E := ⟨n, s0, E0, h0, hS0⟩
    let J : Act → World → Prop := fun a w => ∃ n s E, I n s ∧ Sim B s.fs a w E
    refine wp_loop J (leastOf fun a w n => ∃ s E, I n s ∧ Sim B s.fs a w E) hex (fun a1 w1 hJ => ?_)
    obtain ⟨⟨s1, E1, hI1, hS1⟩, _⟩ := leastOf_spec (p := fun a w n => ∃ s E, I n s ∧ Sim B s.fs a w E) hJ
    refine wp_mono (ih ha (hround _ s1 hI1) hS1) ?_
    rintro x a2 w2 ⟨e, s2, E2, rfl, hq, hS2⟩
    cases e with
    | normal =>
      obtain ⟨m, hm, s3, hle, hI2⟩ := hq
      obtain ⟨E3, hS3⟩ := hle B a2 w2 E2 hm0 hN hS2
      have hJ2 : ∃ n, ∃ s E, I n s ∧ Sim B s.fs a2 w2 E := ⟨m, s3, E3, hI2, hS3⟩
      exact ⟨hJ2, Nat.lt_of_le_of_lt ((leastOf_spec (p := fun a w n => ∃ s E, I n s ∧ Sim B s.fs a w E) hJ2).2 m ⟨s3, E3, hI2, hS3⟩) hm⟩
    | exit id => exact ⟨.exit id, s2, E2, rfl, hq, hS2⟩
    | ret => exact ⟨.ret, s2, E2, rfl, hq, hS2⟩
    | pan z => exact ⟨.pan z, s2, E2, rfl, hq, hS2⟩
  | rangeFunc x y c d ih1 ih2 =>
    intro sc h Q s hs ac w E hS
    simp only [transCode] at h; cases h
    exact hs B ac w E rfl hm0 hN hG hX hS
  | _ => intro sc h; simp [transCode] at h
end
end Go.Sh
end

section
/- Sh: functions: what a call begins with, and answers; running code on known data. No statement of the program is proved here. -/
namespace Go.Sh
open Go Go.RowKit
set_option maxHeartbeats 4000000

def rawsOf : Code → List Code
  | .seq a b => rawsOf a ++ rawsOf b
  | .cond _ a b => rawsOf a ++ rawsOf b
  | .block _ a => rawsOf a
  | .loop a => rawsOf a
  | .rangeFunc a b c d => [.rangeFunc a b c d]
  | _ => []
def rawOf (P : Program) (f k : Nat) : Code := match P.funcs[f]? with
  | some fn => match fn.body with
    | some c => (rawsOf c).getD k .skip
    | none => .skip
  | none => .skip
inductive SRes where
  | tmp (t : Nat)
  | cell (agg : Bool) (size : Nat) (t : Nat)
structure SFunc where
  N : Nat
  code : SCode
  res : List SRes
  keep : Bool
def SRes.get (s : FS) : SRes → Option TV
  | .tmp t => s.t t
  | .cell agg size t => match s.t t with
    | some (.ptr d o) => (s.b d).bind fun cs => if agg then (if o + size ≤ cs.length then some (.agg ((cs.drop o).take size)) else none) else cs[o]?
    | _ => none
def resT (s : FS) : List SRes → Option TV
  | [r] => r.get s
  | rs => (seqO (SRes.get s) rs).map .tuple
def transRes (P : Program) : ResultVar → Option SRes
  | .tmp t => some (.tmp t)
  | .cell a t => match P.underlying t, P.info? t with
    | some d, some i => some (if d.isRow then .cell true i.size a else .cell false 1 a)
    | _, _ => none
def transFunc (P : Program) (f : Nat) (H : Nat → Option Nat → Nat) (Fp : Nat → List (Nat → Option Nat)) (K : Nat → List Nat) (keep : Bool) : Option SFunc :=
  match P.funcs[f]? with
  | some fn => match fn.body with
    | some c => if fn.name != "runtime.NumGoroutine" && Nat.ble fn.ntmps 1000 then match transCode P fn.ntmps H Fp K c, seqO (transRes P) fn.results.toList with
        | some sc, some rs => some ⟨fn.ntmps, sc, rs, keep⟩
        | _, _ => none
      else none
    | none => none
  | none => none
def TV.ids3 : TV → List Nat
  | .tuple cs => cs.flatMap TV.ids2
  | t => t.ids2
def idsFrom : Nat → Nat → List Nat
  | _, 0 => []
  | k, n + 1 => k :: idsFrom (k + 1) n
def exitF (F : SFunc) (n : Nat) (s : ES) : Option (TV × List MO) :=
  match resT s.fs F.res with
  | some y0 =>
    let I0 := idsFrom 1000 n
    let al := reach s.fs F.keep 64 (y0.ids3 ++ I0.flatMap fun d => match s.fs.b d with | some cs => cs.flatMap TV.ids1 | none => []) I0
    match y0.ren3 (rhoIn al), seqO (fun d => (s.fs.mo d).bind (MO.ren (rhoIn al))) al with
    | some y, some os' => some (y, os')
    | _, _ => none
  | none => none
def numT : Nat → List TV → List (Nat × TV)
  | _, [] => []
  | k, x :: l => (k, x) :: numT (k + 1) l
def numB : Nat → List MO → List (Nat × List TV)
  | _, [] => []
  | k, .box cs :: l => (k, cs) :: numB (k + 1) l
  | k, .row _ _ _ :: l => numB (k + 1) l
def numR : Nat → List MO → List (Nat × (Nat × Nat × Nat))
  | _, [] => []
  | k, .box _ :: l => numR (k + 1) l
  | k, .row e W n :: l => (k, (e, W, n)) :: numR (k + 1) l
def startE (xs : List TV) (os : List MO) : ES := ⟨numT 0 xs, numB 1000 os, numR 1000 os, []⟩

theorem beq_false {a b : Nat} (h : a ≠ b) : Nat.beq a b = false := by cases hb : Nat.beq a b with | false => rfl | true => exact absurd (Nat.eq_of_beq_eq_true hb) h
theorem lk_numT : ∀ (xs : List TV) (k d : Nat), lk (numT k xs) d = if k ≤ d then xs[d - k]? else none
  | [], k, d => by simp [numT, lk]
  | x :: l, k, d => by
    simp only [numT, lk]
    by_cases h : k = d
    · subst h; simp [Nat.beq_refl]
    · rw [beq_false h]
      simp only [lk_numT l]
      by_cases h1 : k ≤ d
      · have h2 : k + 1 ≤ d := by omega
        rw [if_pos h1, if_pos h2, show d - k = (d - (k + 1)) + 1 by omega]
        simp
      · rw [if_neg h1, if_neg (by omega)]
theorem lk_numB : ∀ (os : List MO) (k d : Nat), lk (numB k os) d = if k ≤ d then (match os[d - k]? with | some (.box cs) => some cs | _ => none) else none
  | [], k, d => by simp [numB, lk]
  | m :: l, k, d => by
    have ih := lk_numB l (k + 1) d
    by_cases h : k = d
    · subst h
      cases m with
      | box cs => simp [numB, lk, Nat.beq_refl]
      | row e W n => simp only [numB]; rw [ih, if_neg (by omega)]; simp
    · have : lk (numB k (m :: l)) d = lk (numB (k + 1) l) d := by cases m with | box cs => simp only [numB, lk, beq_false h] | row e W n => simp only [numB]
      rw [this, ih]
      by_cases h1 : k ≤ d
      · rw [if_pos h1, if_pos (by omega), show d - k = (d - (k + 1)) + 1 by omega]; simp
      · rw [if_neg h1, if_neg (by omega)]
theorem lk_numR : ∀ (os : List MO) (k d : Nat), lk (numR k os) d = if k ≤ d then (match os[d - k]? with | some (.row e W n) => some (e, W, n) | _ => none) else none
  | [], k, d => by simp [numR, lk]
  | m :: l, k, d => by
    have ih := lk_numR l (k + 1) d
    by_cases h : k = d
    · subst h
      cases m with
      | box cs => simp only [numR]; rw [ih, if_neg (by omega)]; simp
      | row e W n => simp [numR, lk, Nat.beq_refl]
    · have : lk (numR k (m :: l)) d = lk (numR (k + 1) l) d := by cases m with | box cs => simp only [numR] | row e W n => simp only [numR, lk, beq_false h]
      rw [this, ih]
      by_cases h1 : k ≤ d
      · rw [if_pos h1, if_pos (by omega), show d - k = (d - (k + 1)) + 1 by omega]; simp
      · rw [if_neg h1, if_neg (by omega)]
theorem idsFrom_get : ∀ (n k j : Nat), (idsFrom k n)[j]? = if j < n then some (k + j) else none
  | 0, k, j => by simp [idsFrom]
  | n + 1, k, j => by
    simp only [idsFrom]
    cases j with
    | zero => simp
    | succ j =>
      simp only [List.getElem?_cons_succ, idsFrom_get n (k + 1) j]
      by_cases h : j < n
      · rw [if_pos h, if_pos (by omega)]; congr 1; omega
      · rw [if_neg h, if_neg (by omega)]
theorem idsFrom_nodup (n k : Nat) : (idsFrom k n).Nodup ∧ (idsFrom k n).length = n ∧ ∀ d ∈ idsFrom k n, k ≤ d := by
  induction n generalizing k with
  | zero => simp [idsFrom]
  | succ n ih =>
    obtain ⟨h1, h2, h3⟩ := ih (k + 1)
    simp only [idsFrom]
    refine ⟨List.nodup_cons.2 ⟨fun h => by have := h3 k h; omega, h1⟩, by simp [h2], fun d hd => ?_⟩
    rcases List.mem_cons.1 hd with rfl | hd
    · exact Nat.le_refl _
    · have := h3 d hd; omega
theorem reach_prefix {s : FS} {rows : Bool} : ∀ (n : Nat) (l seen : List Nat), seen.Nodup → (reach s rows n l seen).Nodup ∧ ∃ t, reach s rows n l seen = seen ++ t
  | 0, l, seen, h => by simp only [reach]; exact ⟨h, [], by simp⟩
  | n + 1, [], seen, h => by simp only [reach]; exact ⟨h, [], by simp⟩
  | n + 1, d :: l, seen, h => by
    simp only [reach]
    cases hp : pos seen d with
    | some j => exact reach_prefix n l seen h
    | none =>
      have hnd : (seen ++ [d]).Nodup := List.nodup_append.2 ⟨h, by simp, by
        intro x hx y hy; simp at hy; subst hy; rintro rfl; exact pos_none hp hx⟩
      have key : ∀ l', (reach s rows n l' (seen ++ [d])).Nodup ∧ ∃ t, reach s rows n l' (seen ++ [d]) = seen ++ t := fun l' => by
        obtain ⟨h1, t, h2⟩ := reach_prefix (s := s) (rows := rows) n l' (seen ++ [d]) hnd
        exact ⟨h1, [d] ++ t, by rw [h2]; simp⟩
      cases s.b d with
      | some cs => exact key _
      | none =>
        cases s.r d with
        | none => exact reach_prefix n l seen h
        | some q =>
          cases rows with
          | true => exact key _
          | false => exact reach_prefix n l seen h

section
variable {P : Program} {g : Glob} {s : FS} {a : Act} {w : World} {E : Env} {B : Base}
theorem res_run {rv : ResultVar} {sr : SRes} (htr : transRes P rv = some sr) (h : Sim B s a w E) {y : TV} (hy : sr.get s = some y) :
    ∃ v, (match rv with | .tmp t => (pure (a.tmps.getD t undef) : Sem Value) | .cell q t => do loadVar t (← asAddr (a.tmps.getD q undef))).run P w = .ok v w ∧ RelT w E s.r y v := by
  cases rv with
  | tmp t =>
    simp only [transRes] at htr; cases htr
    exact ⟨_, rfl, (h.tmp t y hy).2⟩
  | cell q t =>
    simp only [transRes] at htr
    split at htr <;> try (cases htr; done)
    rename_i d i hu hi
    cases htr
    have fin : ∀ (dd off : Nat) (cs : List TV), s.t q = some (.ptr dd off) → s.b dd = some cs → (if d.isRow then (off + i.size ≤ cs.length ∧ y = .agg ((cs.drop off).take i.size)) else cs[off]? = some y) →
        ∃ v, (do loadVar t (← asAddr (a.tmps.getD q undef)) : Sem Value).run P w = .ok v w ∧ RelT w E s.r y v := by
      intro dd off cs hq hb hy
      have hx := (h.tmp q _ hq).2
      generalize hv : a.tmps.getD q undef = v at hx
      cases hx
      obtain ⟨hbox, _⟩ := h.mem.box dd cs hb
      cases hd : d.isRow with
      | true =>
        simp only [hd, if_true] at hy
        obtain ⟨vs, hrel, hcell⟩ := box_rel hbox
        have hl : ((vs.drop off).take i.size).length = i.size := by have := hrel.len; simp; omega
        have hrun := run_loadVar_any (P := P) (w := w) (E.β dd) off t d i ((vs.drop off).take i.size) hu hi (fun j v hv' => by
          have hj : j < i.size := by have := (List.getElem?_eq_some_iff.1 hv').1; omega
          simp [hj] at hv'
          exact hcell _ _ hv') (by simp only [hd, if_true]; exact hl)
        simp only [hd, if_true] at hrun
        exact ⟨.agg ((vs.drop off).take i.size).toArray, by simp [asAddr, hrun, Result.andThen], by rw [hy.2]; exact ((hrel.drop off).take _).agg⟩
      | false =>
        simp only [hd, Bool.false_eq_true, if_false] at hy
        obtain ⟨v, c1, c2, c3⟩ := hbox.cell off y hy
        have hrun := run_loadVar_any (P := P) (w := w) (E.β dd) off t d i [v] hu hi (fun j u hu' => by
          cases j with
          | zero => simp at hu'; subst hu'; exact c1
          | succ j => simp at hu') (by simp [hd])
        simp only [hd, Bool.false_eq_true, if_false] at hrun
        exact ⟨v, by simp [asAddr, hrun, Result.andThen], c3⟩
    cases hd : d.isRow with
    | true =>
      simp only [hd, if_true, SRes.get] at hy
      split at hy
      · rename_i dd off hq
        obtain ⟨cs, hb, hy⟩ := Option.bind_eq_some_iff.1 hy
        split at hy
        · rename_i hle; cases hy
          exact fin dd off cs hq hb (by rw [if_pos hd]; exact ⟨hle, rfl⟩)
        · cases hy
      · cases hy
    | false =>
      simp only [hd, Bool.false_eq_true, if_false, SRes.get] at hy
      split at hy
      · rename_i dd off hq
        obtain ⟨cs, hb, hy⟩ := Option.bind_eq_some_iff.1 hy
        exact fin dd off cs hq hb (by simp only [hd, Bool.false_eq_true, if_false]; exact hy)
      · cases hy
def resSem (a : Act) : ResultVar → Sem Value
  | .tmp t => pure (a.tmps.getD t undef)
  | .cell q t => do loadVar t (← asAddr (a.tmps.getD q undef))
theorem mapM_run {α : Type} (F : α → Sem Value) : ∀ (l : List α) (vs : List Value), l.length = vs.length → (∀ (j : Nat) x v, l[j]? = some x → vs[j]? = some v → (F x).run P w = .ok v w) → (l.mapM F).run P w = .ok vs w
  | [], [], _, _ => rfl
  | x :: l, v :: vs, hl, h => by
    have h1 := h 0 x v rfl rfl
    have h2 := mapM_run F l vs (by simpa using hl) (fun j x v hx hv => h (j + 1) x v (by simpa using hx) (by simpa using hv))
    simp [List.mapM_cons, h1, h2, Result.andThen]
  | [], _ :: _, hl, _ => by simp at hl
  | _ :: _, [], hl, _ => by simp at hl
theorem results_run {fn : Func} {rs : List SRes} (htr : seqO (transRes P) fn.results.toList = some rs) (h : Sim B s a w E) {y : TV} (hy : resT s rs = some y) : ∃ v, (results fn a.tmps).run P w = .ok v w ∧ RelT w E s.r y v := by
  have key : ∀ (l : List ResultVar) (rs : List SRes), seqO (transRes P) l = some rs → ∀ (ys : List TV), seqO (SRes.get s) rs = some ys → ∃ vs : List Value, l.length = vs.length ∧ (∀ (j : Nat) x v, l[j]? = some x → vs[j]? = some v → (resSem a x).run P w = .ok v w) ∧ ys.length = vs.length ∧ ∀ (j : Nat) c v, ys[j]? = some c → vs[j]? = some v → RelT w E s.r c v := by
    intro l
    induction l with
    | nil => intro rs h1 ys h2; simp [seqO] at h1; subst h1; simp [seqO] at h2; subst h2; exact ⟨[], rfl, by simp, rfl, by simp⟩
    | cons rv l ih =>
      intro rs h1 ys h2
      obtain ⟨sr, rs', h3, h4, rfl⟩ := seqO_cons h1
      obtain ⟨y, ys', h5, h6, rfl⟩ := seqO_cons h2
      obtain ⟨vs, a0, a1, a2, a3⟩ := ih rs' h4 ys' h6
      obtain ⟨v, b1, b2⟩ := res_run h3 h h5
      have b1' : (resSem a rv).run P w = .ok v w := by cases rv <;> exact b1
      refine ⟨v :: vs, by simp [a0], fun j x u hx hu => ?_, by simp [a2], fun j c u hc hu => ?_⟩
      · cases j with
        | zero => simp at hx hu; subst hx; subst hu; exact b1'
        | succ j => exact a1 j x u (by simpa using hx) (by simpa using hu)
      · cases j with
        | zero => simp at hc hu; subst hc; subst hu; exact b2
        | succ j => exact a3 j c u (by simpa using hc) (by simpa using hu)
  have hres : ∀ vs : List Value, (fn.results.toList.mapM (resSem a)).run P w = .ok vs w → (results fn a.tmps).run P w = .ok (if h : vs.length = 1 then vs[0] else .tuple vs.toArray) w := by
    intro vs hvs
    have harr : (fn.results.mapM (resSem a)).run P w = .ok vs.toArray w := by
      rw [← Array.toArray_toList (xs := fn.results), List.mapM_toArray]
      simp [hvs, Result.andThen]
    have e : results fn a.tmps = (fn.results.mapM (resSem a)) >>= fun vs => pure (if h : vs.size = 1 then vs[0] else .tuple vs) := by
      unfold results
      congr 1
    rw [e, Sem.run_bind, harr]
    rfl
  have hmany : ∀ ys, seqO (SRes.get s) rs = some ys → (rs.length = 1 → ys = [y]) → (rs.length ≠ 1 → y = .tuple ys) → ∃ v, (results fn a.tmps).run P w = .ok v w ∧ RelT w E s.r y v := by
    intro ys hys h1 h2
    obtain ⟨vs, a0, a1, a2, a3⟩ := key _ rs htr ys hys
    have hl1 := (seqO_spec htr).1
    refine ⟨_, hres vs (mapM_run _ _ _ a0 a1), ?_⟩
    by_cases hone : vs.length = 1
    · rw [dif_pos hone]
      have hr1 : rs.length = 1 := by omega
      rw [h1 hr1] at a3
      exact a3 0 y _ rfl (List.getElem?_eq_getElem (by omega))
    · rw [dif_neg hone]
      have hr1 : rs.length ≠ 1 := by omega
      rw [h2 hr1]
      exact .tuple ys vs a2 a3
  match rs, hy, hmany with
  | [], hy, hmany => simp [resT, seqO] at hy; exact hmany [] rfl (by simp) (fun _ => hy.symm)
  | [r], hy, hmany => exact hmany [y] (by simp only [resT] at hy; simp [seqO, hy]) (fun _ => rfl) (by simp)
  | r :: r2 :: rr, hy, hmany =>
    simp only [resT] at hy
    obtain ⟨ys, h1, h2⟩ := Option.map_eq_some_iff.1 hy
    exact hmany ys h1 (by simp) (fun _ => h2.symm)

theorem call_of_swp {f : Nat} {H : Nat → Option Nat → Nat} {Fp : Nat → List (Nat → Option Nat)} {K : Nat → List Nat} {keep : Bool} {F : SFunc} (hmix : P.follows .mixedOrders = true) (hF : transFunc P f H Fp K keep = some F) {xs : List TV} {os os' : List MO} {y : TV} (hn : xs.length ≤ F.N) (hos : os.length ≤ 1000) (hmo : moOk os os' = true)
    (h : swp P g F.code (fun e s => (e = .ret ∨ e = .normal) ∧ exitF F os.length s = some (y, os')) (startE xs os)) : SCalls P g f xs os y os' := by
  unfold transFunc at hF
  split at hF <;> try (cases hF; done)
  rename_i fn hfn
  split at hF <;> try (cases hF; done)
  rename_i c hc
  split at hF <;> try (cases hF; done)
  rename_i hname
  split at hF <;> try (cases hF; done)
  rename_i sc rs hsc hrs
  cases hF
  rw [Bool.and_eq_true] at hname
  have hnm : ¬ fn.name = "runtime.NumGoroutine" := by simpa using hname.1
  have hN : fn.ntmps ≤ 1000 := Nat.le_of_ble_eq_true hname.2
  refine ⟨⟨fn, c, hfn, hc, hnm⟩, fun w E vs hG hm hX hl hxs => ?_⟩
  let B : Base := start w E os fn.ntmps
  have hmB : MSim B (objB os) (objR os) w E := ⟨hm.box, hm.row, hm.bb, hm.br, hm.rr, hm.lt, hm.low, hm.keep, hm.knew, ⟨hm.pas.β, hm.pas.γ, hm.pas.row⟩⟩
  have hfs : (startE xs os).fs = ⟨fun k => xs[k]?, objB os, objR os, fun _ => none⟩ := by
    refine FS.ext' (fun k => ?_) (fun k => ?_) (fun k => ?_) (fun k => rfl)
    · show lk (numT 0 xs) k = _; rw [lk_numT]; simp
    · show lk (numB 1000 os) k = _; rw [lk_numB]; rfl
    · show lk (numR 1000 os) k = _; rw [lk_numR]; rfl
  have hsize : (vs.toArray ++ Array.replicate (fn.ntmps - vs.toArray.size) undef).size = fn.ntmps := by
    have : xs.length ≤ fn.ntmps := hn
    simp; omega
  have hS : Sim B (startE xs os).fs { tmps := vs.toArray ++ Array.replicate (fn.ntmps - vs.toArray.size) undef, defers := [] } w E := by
    rw [hfs]
    refine ⟨rfl, hsize, fun k x hx => ?_, hmB, fun d z p hd => (by cases hd), fun d d' q q' hd => (by cases hd)⟩
    have hk : k < xs.length := (List.getElem?_eq_some_iff.1 hx).1
    refine ⟨Nat.lt_of_lt_of_le hk hn, ?_⟩
    have hkv : k < vs.length := by omega
    have hv : (vs.toArray ++ Array.replicate (fn.ntmps - vs.toArray.size) undef).getD k undef = vs[k] := by
      rw [Array.getD_eq_getD_getElem?, Array.getElem?_append_left (by simpa using hkv)]
      simp [hkv]
    show RelT w E (objR os) x ((vs.toArray ++ Array.replicate (fn.ntmps - vs.toArray.size) undef).getD k undef)
    rw [hv]
    exact hxs k x _ hx (List.getElem?_eq_getElem hkv)
  refine calls_of_wp hfn hc (wp_mono (swp_sound (B := B) hmix hos hN hG hX hsc h hS) ?_)
  rintro x a' w' ⟨e, s', E', rfl, ⟨he, hex⟩, hS'⟩
  have fin : a'.defers = [] ∧ ∃ v, (results fn a'.tmps).run P w' = .ok v w' ∧ (∃ v_1 E'_1, Ending.returned v = Ending.returned v_1 ∧ MSim (start w E os 0) (objB os') (objR os') w' E'_1 ∧ RelT w' E'_1 (objR os') y v_1 ∧ Left E os E'_1 os') := by
    refine ⟨hS'.defers, ?_⟩
    unfold exitF at hex
    split at hex <;> try (cases hex; done)
    rename_i y0 hy0
    obtain ⟨v, hrun, hrel⟩ := results_run (fn := fn) hrs hS' hy0
    refine ⟨v, hrun, v, ?_⟩
    simp only [] at hex
    obtain ⟨i1, i2, i3⟩ := idsFrom_nodup os.length 1000
    generalize hal : reach s'.fs keep 64 (y0.ids3 ++ (idsFrom 1000 os.length).flatMap fun d => match s'.fs.b d with | some cs => cs.flatMap TV.ids1 | none => []) (idsFrom 1000 os.length) = al at hex
    obtain ⟨hnd, t, hpre⟩ := reach_prefix (s := s'.fs) (rows := keep) 64 (y0.ids3 ++ (idsFrom 1000 os.length).flatMap fun d => match s'.fs.b d with | some cs => cs.flatMap TV.ids1 | none => []) _ i1
    rw [hal] at hnd hpre
    split at hex <;> try (cases hex; done)
    rename_i y1 os1 hren hmos
    cases hex
    have hpas : ∀ j, j < os.length → al[j]? = some (1000 + j) := fun j hj => by
      rw [hpre, List.getElem?_append_left (by omega), idsFrom_get, if_pos hj]
    have hM := call_pre hS' hnd hmos
    obtain ⟨hlen, hBx, hRx⟩ := handed hmos
    have hβ : ∀ {i j}, al[j]? = some i → (envIn E' al).β (1000 + j) = E'.β i := fun hj => by simp only [envIn]; rw [getD_of hj]
    have hγ : ∀ {i j}, al[j]? = some i → (envIn E' al).γ (1000 + j) = E'.γ i := fun hj => by simp only [envIn]; rw [getD_of hj]
    have hXs : ∀ {i j b}, al[j]? = some i → objX E os i b → objX E os (1000 + j) b := by
      intro i j b hj hx
      have hi : ∃ q, i = 1000 + q ∧ q < os.length := by
        rcases hx with ⟨cs, h1, _⟩ | ⟨⟨e, W, n⟩, cap, h1, _⟩
        · obtain ⟨q, rfl, hq⟩ := objB_inv h1; exact ⟨q, rfl, (List.getElem?_eq_some_iff.1 hq).1⟩
        · obtain ⟨q, rfl, hq⟩ := objR_inv h1; exact ⟨q, rfl, (List.getElem?_eq_some_iff.1 hq).1⟩
      obtain ⟨q, rfl, hq⟩ := hi
      have a1 := pos_get hnd hj
      have a2 := pos_get hnd (hpas q hq)
      rw [a1] at a2
      obtain rfl : j = q := Option.some.inj a2
      exact hx
    have hM' : MSim (start w E os 0) (objB os') (objR os') w' (envIn E' al) := by
      refine ⟨fun d cs' hd => ?_, fun d e W n hd => ?_, hM.bb, hM.br, hM.rr, hM.lt, hS'.mem.low, hS'.mem.keep, hS'.mem.knew, ⟨fun d ho => ?_, fun d ho h0 => ?_, fun d e W n ho hd => ?_⟩⟩
      · refine ⟨(hM.box d cs' hd).1, ?_⟩
        obtain ⟨j, rfl, hj⟩ := objB_inv hd
        obtain ⟨i, cs, q1, q2, _⟩ := hBx j cs' hj
        rw [hβ q1]
        rcases (hS'.mem.box i cs q2).2 with h1 | h1
        · exact .inl h1
        · exact .inr (hXs q1 h1)
      · obtain ⟨j, rfl, hj⟩ := objR_inv hd
        obtain ⟨i, q1, q2, q3⟩ := hRx j e W n hj
        rw [hγ q1]
        rcases hS'.mem.row i e W n q3 with h1 | ⟨k, cap, h1, h2, h3⟩
        · exact .inl h1
        · exact .inr ⟨k, cap, h1, h2.imp id (hXs q1), h3.cells, h3.le, h3.max, h3.out⟩
      · obtain ⟨q, rfl⟩ : ∃ q, d = 1000 + q := ⟨d - 1000, by have := ho.1; omega⟩
        have hq : q < os.length := by have := ho.2; have h2 : 1000 + q < 1000 + os.length := this; omega
        rw [hβ (hpas q hq)]; exact hS'.mem.pas.β _ ho
      · obtain ⟨q, rfl⟩ : ∃ q, d = 1000 + q := ⟨d - 1000, by have := ho.1; omega⟩
        have hq : q < os.length := by have := ho.2; have h2 : 1000 + q < 1000 + os.length := this; omega
        rw [hγ (hpas q hq)]; exact hS'.mem.pas.γ _ ho h0
      · obtain ⟨q, rfl⟩ : ∃ q, d = 1000 + q := ⟨d - 1000, by have := ho.1; omega⟩
        have hq : q < os.length := by have := ho.2; have h2 : 1000 + q < 1000 + os.length := this; omega
        obtain ⟨j, hj0, hj⟩ := objR_inv hd
        obtain rfl : q = j := by omega
        obtain ⟨i, q1, q2, q3⟩ := hRx q e W n hj
        rw [hpas q hq] at q1; cases q1
        rw [hγ (hpas q hq)]
        exact hS'.mem.pas.row _ e W n ho q3
    refine ⟨envIn E' al, rfl, hM', ren3_rel (renIn hmos) (fun _ _ _ h _ => h) hrel hren, ⟨fun d h1 h2 => hM'.pas.β d ⟨h1, h2⟩, fun d h1 h2 h0 => hM'.pas.γ d ⟨h1, h2⟩ h0, fun d e W n hd => ?_⟩⟩
    obtain ⟨q, rfl, hq⟩ := objR_inv hd
    have hql : q < os.length := (List.getElem?_eq_some_iff.1 hq).1
    obtain ⟨n', h1, h2⟩ := (moOk_spec hmo).2.2.2 q e W n hq
    obtain ⟨n0, h3, h4, h5⟩ := hM'.pas.row (1000 + q) e W n' ⟨by omega, by show 1000 + q < 1000 + os.length; omega⟩ (objR_eq h1)
    have h3 : objR os (1000 + q) = some (e, W, n0) := h3
    rw [hd] at h3; cases h3
    exact ⟨n', objR_eq h1, h4, h5⟩
  rcases he with rfl | rfl
  · exact fin
  · exact fin
theorem pan_of_swp {f : Nat} {H : Nat → Option Nat → Nat} {Fp : Nat → List (Nat → Option Nat)} {K : Nat → List Nat} {keep : Bool} {F : SFunc} (hmix : P.follows .mixedOrders = true) (hF : transFunc P f H Fp K keep = some F) {xs : List TV} {os os' : List MO} {z : Value} (hn : xs.length ≤ F.N) (hos : os.length ≤ 1000) (hmo : moOk os os' = true)
    (h : swp P g F.code (fun e s => e = .pan z ∧ exitF ⟨0, .skip, [], keep⟩ os.length s = some (.tuple [], os')) (startE xs os)) : SPan P g f xs os z os' := by
  unfold transFunc at hF
  split at hF <;> try (cases hF; done)
  rename_i fn hfn
  split at hF <;> try (cases hF; done)
  rename_i c hc
  split at hF <;> try (cases hF; done)
  rename_i hname
  split at hF <;> try (cases hF; done)
  rename_i sc rs hsc hrs
  cases hF
  rw [Bool.and_eq_true] at hname
  have hnm : ¬ fn.name = "runtime.NumGoroutine" := by simpa using hname.1
  have hN : fn.ntmps ≤ 1000 := Nat.le_of_ble_eq_true hname.2
  refine ⟨⟨fn, c, hfn, hc, hnm⟩, fun w E vs hG hm hX hl hxs => ?_⟩
  let B : Base := start w E os fn.ntmps
  have hmB : MSim B (objB os) (objR os) w E := ⟨hm.box, hm.row, hm.bb, hm.br, hm.rr, hm.lt, hm.low, hm.keep, hm.knew, ⟨hm.pas.β, hm.pas.γ, hm.pas.row⟩⟩
  have hfs : (startE xs os).fs = ⟨fun k => xs[k]?, objB os, objR os, fun _ => none⟩ := by
    refine FS.ext' (fun k => ?_) (fun k => ?_) (fun k => ?_) (fun k => rfl)
    · show lk (numT 0 xs) k = _; rw [lk_numT]; simp
    · show lk (numB 1000 os) k = _; rw [lk_numB]; rfl
    · show lk (numR 1000 os) k = _; rw [lk_numR]; rfl
  have hsize : (vs.toArray ++ Array.replicate (fn.ntmps - vs.toArray.size) undef).size = fn.ntmps := by
    have : xs.length ≤ fn.ntmps := hn
    simp; omega
  have hS : Sim B (startE xs os).fs { tmps := vs.toArray ++ Array.replicate (fn.ntmps - vs.toArray.size) undef, defers := [] } w E := by
    rw [hfs]
    refine ⟨rfl, hsize, fun k x hx => ?_, hmB, fun d z p hd => (by cases hd), fun d d' q q' hd => (by cases hd)⟩
    have hk : k < xs.length := (List.getElem?_eq_some_iff.1 hx).1
    refine ⟨Nat.lt_of_lt_of_le hk hn, ?_⟩
    have hkv : k < vs.length := by omega
    have hv : (vs.toArray ++ Array.replicate (fn.ntmps - vs.toArray.size) undef).getD k undef = vs[k] := by
      rw [Array.getD_eq_getD_getElem?, Array.getElem?_append_left (by simpa using hkv)]
      simp [hkv]
    show RelT w E (objR os) x ((vs.toArray ++ Array.replicate (fn.ntmps - vs.toArray.size) undef).getD k undef)
    rw [hv]
    exact hxs k x _ hx (List.getElem?_eq_getElem hkv)
  refine calls_of_wp hfn hc (wp_mono (swp_sound (B := B) hmix hos hN hG hX hsc h hS) ?_)
  rintro x a' w' ⟨e, s', E', rfl, ⟨rfl, hex⟩, hS'⟩
  have fin : a'.defers = [] ∧ (∃ E'_1, Ending.panicked [{ v := z, recovered := false }] = Ending.panicked [{ v := z, recovered := false }] ∧ MSim (start w E os 0) (objB os') (objR os') w' E'_1 ∧ Left E os E'_1 os') := by
    refine ⟨hS'.defers, ?_⟩
    unfold exitF at hex
    split at hex <;> try (cases hex; done)
    rename_i y0 hy0
    simp only [] at hex
    obtain ⟨i1, i2, i3⟩ := idsFrom_nodup os.length 1000
    generalize hal : reach s'.fs keep 64 (y0.ids3 ++ (idsFrom 1000 os.length).flatMap fun d => match s'.fs.b d with | some cs => cs.flatMap TV.ids1 | none => []) (idsFrom 1000 os.length) = al at hex
    obtain ⟨hnd, t, hpre⟩ := reach_prefix (s := s'.fs) (rows := keep) 64 (y0.ids3 ++ (idsFrom 1000 os.length).flatMap fun d => match s'.fs.b d with | some cs => cs.flatMap TV.ids1 | none => []) _ i1
    rw [hal] at hnd hpre
    split at hex <;> try (cases hex; done)
    rename_i y1 os1 hren hmos
    cases hex
    have hpas : ∀ j, j < os.length → al[j]? = some (1000 + j) := fun j hj => by
      rw [hpre, List.getElem?_append_left (by omega), idsFrom_get, if_pos hj]
    have hM := call_pre hS' hnd hmos
    obtain ⟨hlen, hBx, hRx⟩ := handed hmos
    have hβ : ∀ {i j}, al[j]? = some i → (envIn E' al).β (1000 + j) = E'.β i := fun hj => by simp only [envIn]; rw [getD_of hj]
    have hγ : ∀ {i j}, al[j]? = some i → (envIn E' al).γ (1000 + j) = E'.γ i := fun hj => by simp only [envIn]; rw [getD_of hj]
    have hXs : ∀ {i j b}, al[j]? = some i → objX E os i b → objX E os (1000 + j) b := by
      intro i j b hj hx
      have hi : ∃ q, i = 1000 + q ∧ q < os.length := by
        rcases hx with ⟨cs, h1, _⟩ | ⟨⟨e, W, n⟩, cap, h1, _⟩
        · obtain ⟨q, rfl, hq⟩ := objB_inv h1; exact ⟨q, rfl, (List.getElem?_eq_some_iff.1 hq).1⟩
        · obtain ⟨q, rfl, hq⟩ := objR_inv h1; exact ⟨q, rfl, (List.getElem?_eq_some_iff.1 hq).1⟩
      obtain ⟨q, rfl, hq⟩ := hi
      have a1 := pos_get hnd hj
      have a2 := pos_get hnd (hpas q hq)
      rw [a1] at a2
      obtain rfl : j = q := Option.some.inj a2
      exact hx
    have hM' : MSim (start w E os 0) (objB os') (objR os') w' (envIn E' al) := by
      refine ⟨fun d cs' hd => ?_, fun d e W n hd => ?_, hM.bb, hM.br, hM.rr, hM.lt, hS'.mem.low, hS'.mem.keep, hS'.mem.knew, ⟨fun d ho => ?_, fun d ho h0 => ?_, fun d e W n ho hd => ?_⟩⟩
      · refine ⟨(hM.box d cs' hd).1, ?_⟩
        obtain ⟨j, rfl, hj⟩ := objB_inv hd
        obtain ⟨i, cs, q1, q2, _⟩ := hBx j cs' hj
        rw [hβ q1]
        rcases (hS'.mem.box i cs q2).2 with h1 | h1
        · exact .inl h1
        · exact .inr (hXs q1 h1)
      · obtain ⟨j, rfl, hj⟩ := objR_inv hd
        obtain ⟨i, q1, q2, q3⟩ := hRx j e W n hj
        rw [hγ q1]
        rcases hS'.mem.row i e W n q3 with h1 | ⟨k, cap, h1, h2, h3⟩
        · exact .inl h1
        · exact .inr ⟨k, cap, h1, h2.imp id (hXs q1), h3.cells, h3.le, h3.max, h3.out⟩
      · obtain ⟨q, rfl⟩ : ∃ q, d = 1000 + q := ⟨d - 1000, by have := ho.1; omega⟩
        have hq : q < os.length := by have := ho.2; have h2 : 1000 + q < 1000 + os.length := this; omega
        rw [hβ (hpas q hq)]; exact hS'.mem.pas.β _ ho
      · obtain ⟨q, rfl⟩ : ∃ q, d = 1000 + q := ⟨d - 1000, by have := ho.1; omega⟩
        have hq : q < os.length := by have := ho.2; have h2 : 1000 + q < 1000 + os.length := this; omega
        rw [hγ (hpas q hq)]; exact hS'.mem.pas.γ _ ho h0
      · obtain ⟨q, rfl⟩ : ∃ q, d = 1000 + q := ⟨d - 1000, by have := ho.1; omega⟩
        have hq : q < os.length := by have := ho.2; have h2 : 1000 + q < 1000 + os.length := this; omega
        obtain ⟨j, hj0, hj⟩ := objR_inv hd
        obtain rfl : q = j := by omega
        obtain ⟨i, q1, q2, q3⟩ := hRx q e W n hj
        rw [hpas q hq] at q1; cases q1
        rw [hγ (hpas q hq)]
        exact hS'.mem.pas.row _ e W n ho q3
    refine ⟨envIn E' al, rfl, hM', ⟨fun d h1 h2 => hM'.pas.β d ⟨h1, h2⟩, fun d h1 h2 h0 => hM'.pas.γ d ⟨h1, h2⟩ h0, fun d e W n hd => ?_⟩⟩
    obtain ⟨q, rfl, hq⟩ := objR_inv hd
    have hql : q < os.length := (List.getElem?_eq_some_iff.1 hq).1
    obtain ⟨n', h1, h2⟩ := (moOk_spec hmo).2.2.2 q e W n hq
    obtain ⟨n0, h3, h4, h5⟩ := hM'.pas.row (1000 + q) e W n' ⟨by omega, by show 1000 + q < 1000 + os.length; omega⟩ (objR_eq h1)
    have h3 : objR os (1000 + q) = some (e, W, n0) := h3
    rw [hd] at h3; cases h3
    exact ⟨n', objR_eq h1, h4, h5⟩
  exact fin
end
end Go.Sh
end

section
/- Sh: running code on known data. No statement of the program is proved here. -/
namespace Go.Sh
open Go Go.RowKit
set_option maxHeartbeats 4000000

def hintT (T : List (Nat × Nat)) (j : Nat) (d : Option Nat) : Nat := match lk T (dstId d) with | some m => m | none => j
def killT (T : List (Nat × List Nat)) (id : Nat) : List Nat := match lk T id with | some l => l | none => []
def fpT (T : List (Nat × List (List (Nat × Nat)))) (id : Nat) : List (Nat → Option Nat) := match lk T id with | some ls => ls.map lk | none => [fun _ => none]
def altsE (P : Program) (C : Oracle) (kill : List Nat) : List (List Nat × List SOper) → ES → Option ES
  | [], _ => none
  | (n, l) :: r, s => match runE P C l (s.fgt n) with
    | some s' => some (s'.kill kill)
    | none => altsE P C kill r s
def iter (f : ES → Option (SExit × ES)) : Nat → ES → Option (SExit × ES)
  | 0, _ => none
  | n + 1, s => match f s with
    | some (.normal, s') => iter f n s'
    | r => r
def exec (P : Program) (C : Oracle) (L : Nat) : SCode → ES → Option (SExit × ES)
  | .skip, s => some (.normal, s)
  | .reg alts kill, s => match altsE P C kill alts s with
    | some s' => some (.normal, s')
    | none => none
  | .regq alts kill, s => match altsE P C kill alts s with
    | some s' => some (.normal, s')
    | none => none
  | .raw _ _, _ => none
  | .seq a b, s => match exec P C L a s with
    | some (.normal, s') => exec P C L b s'
    | r => r
  | .cond c a b, s => match c.get s.fs with
    | some (.pv (.v (.bool true))) => exec P C L a s
    | some (.pv (.v (.bool false))) => exec P C L b s
    | _ => none
  | .block id a, s => match exec P C L a s with
    | some (.exit j, s') => match Nat.beq j id with
      | true => some (.normal, s')
      | false => some (.exit j, s')
    | r => r
  | .loop a, s => iter (fun s => exec P C L a s) L s
  | .exit id, s => some (.exit id, s)
  | .ret, s => some (.ret, s)
def callF (P : Program) (F : Nat → Option SFunc) (prim : Oracle) (L : Nat) : Nat → Oracle
  | 0 => fun _ _ _ => none
  | n + 1 => fun f xs os => match prim f xs os with
    | some r => some r
    | none => match F f with
      | some G => match Nat.ble xs.length G.N, Nat.ble os.length 1000 with
        | true, true => match exec P (callF P F prim L n) L G.code (startE xs os) with
          | some (.ret, s) => match exitF G os.length s with
            | some (y, os') => match moOk os os' with | true => some (y, os') | false => none
            | none => none
          | some (.normal, s) => match exitF G os.length s with
            | some (y, os') => match moOk os os' with | true => some (y, os') | false => none
            | none => none
          | _ => none
        | _, _ => none
      | none => none

section
variable {P : Program} {g : Glob} {C : Oracle} {L : Nat}
theorem altsE_sound (hC : SoundC P g C) {kill : List Nat} {s s' : ES} {K : ES → Prop} : ∀ {al : List (List Nat × List SOper)}, altsE P C kill al s = some s' → K s' → regW P g al kill K s
  | [], h, hQ => by simp [altsE] at h
  | (n, l) :: r, h, hQ => by
    simp only [altsE] at h
    split at h
    · rename_i s2 h2
      cases h
      exact ⟨(n, l), List.mem_cons_self .., opsW_of_runE hC h2 hQ⟩
    · obtain ⟨a, ha, h3⟩ := altsE_sound hC h hQ
      exact ⟨a, List.mem_cons_of_mem _ ha, h3⟩
theorem exec_swp (hC : SoundC P g C) : ∀ {c : SCode} {s s' : ES} {e : SExit} {Q : SExit → ES → Prop}, exec P C L c s = some (e, s') → Q e s' → swp P g c Q s
  | .skip, s, s', e, Q, h, hQ => by simp only [exec] at h; cases h; exact hQ
  | .exit id, s, s', e, Q, h, hQ => by simp only [exec] at h; cases h; exact hQ
  | .ret, s, s', e, Q, h, hQ => by simp only [exec] at h; cases h; exact hQ
  | .reg alts kill, s, s', e, Q, h, hQ => by
    simp only [exec] at h
    split at h <;> try (cases h; done)
    rename_i s1 hs1
    cases h
    exact altsE_sound hC hs1 hQ
  | .raw N c, s, s', e, Q, h, hQ => by simp [exec] at h
  | .regq alts kill, s, s', e, Q, h, hQ => by
    simp only [exec] at h
    split at h <;> try (cases h; done)
    rename_i s1 hs1
    cases h
    exact .inl (altsE_sound hC hs1 hQ)
  | .seq a b, s, s', e, Q, h, hQ => by
    simp only [exec] at h
    split at h
    · rename_i s1 h1
      exact exec_swp hC (c := a) h1 (show swp P g b Q s1 from exec_swp hC (c := b) h hQ)
    · rename_i hne
      refine exec_swp hC (c := a) h ?_
      cases e with
      | normal => exact absurd h (hne s')
      | exit id => exact hQ
      | ret => exact hQ
      | pan z => exact hQ
  | .cond c a b, s, s', e, Q, h, hQ => by
    simp only [exec] at h
    split at h
    · rename_i hc; exact ⟨true, hc, exec_swp hC (c := a) h hQ⟩
    · rename_i hc; exact ⟨false, hc, exec_swp hC (c := b) h hQ⟩
    · cases h
  | .block id a, s, s', e, Q, h, hQ => by
    simp only [exec] at h
    split at h
    · rename_i j s1 h1
      split at h
      · rename_i hj
        cases h
        exact exec_swp hC (c := a) h1 (by simp only [blockW]; rw [if_pos (Nat.eq_of_beq_eq_true hj)]; exact hQ)
      · rename_i hj
        cases h
        exact exec_swp hC (c := a) h1 (by simp only [blockW]; rw [if_neg (fun e => by rw [e, Nat.beq_refl] at hj; cases hj)]; exact hQ)
    · rename_i hne
      refine exec_swp hC (c := a) h ?_
      cases e with
      | normal => exact hQ
      | exit id => exact absurd h (hne _ s')
      | ret => exact hQ
      | pan z => exact hQ
  | .loop a, s, s', e, Q, h, hQ => by
    simp only [exec] at h
    refine ⟨fun n s => iter (fun s => exec P C L a s) n s = some (e, s'), L, ⟨s, .refl s, h⟩, fun n s1 h1 => ?_⟩
    cases n with
    | zero => simp [iter] at h1
    | succ n =>
      simp only [iter] at h1
      split at h1
      · rename_i s2 h2
        exact exec_swp hC (c := a) h2 (show ∃ m, _ from ⟨n, Nat.lt_succ_self n, s2, .refl s2, h1⟩)
      · rename_i hne
        refine exec_swp hC (c := a) h1 ?_
        cases e with
        | normal => exact absurd h1 (hne s')
        | exit id => exact hQ
        | ret => exact hQ
        | pan z => exact hQ
def FuncsOk (P : Program) (F : Nat → Option SFunc) : Prop := ∀ f G, F f = some G → ∃ H Fp K keep, transFunc P f H Fp K keep = some G
theorem callF_sound {F : Nat → Option SFunc} {prim : Oracle} (hmix : P.follows .mixedOrders = true) (hF : FuncsOk P F) (hprim : SoundC P g prim) : ∀ n, SoundC P g (callF P F prim L n)
  | 0 => fun f xs os y os' h => by simp [callF] at h
  | n + 1 => fun f xs os y os' h => by
    have ih := callF_sound hmix hF hprim n
    simp only [callF] at h
    split at h
    · rename_i r hr
      cases h
      exact hprim f xs os y os' hr
    · split at h
      · rename_i G hG
        obtain ⟨H, Fp, K, keep, htr⟩ := hF f G hG
        split at h <;> try (cases h; done)
        rename_i hn ho
        have hn := Nat.le_of_ble_eq_true hn
        have ho := Nat.le_of_ble_eq_true ho
        split at h
        · rename_i s1 hs1
          split at h <;> try (cases h; done)
          rename_i y1 os1 hex
          split at h <;> try (cases h; done)
          rename_i hmo
          cases h
          exact call_of_swp hmix htr hn ho hmo (exec_swp ih hs1 ⟨.inl rfl, hex⟩)
        · rename_i s1 hs1
          split at h <;> try (cases h; done)
          rename_i y1 os1 hex
          split at h <;> try (cases h; done)
          rename_i hmo
          cases h
          exact call_of_swp hmix htr hn ho hmo (exec_swp ih hs1 ⟨.inr rfl, hex⟩)
        · cases h
      · cases h
end
end Go.Sh
end

section
/- The plain data of the given program (values, types, fields, classes) and how they lie in memory. No statement of the program is proved here. -/
namespace Go.Mor
open Go Go.RowKit

def str (l : List UInt8) : ByteArray := ⟨l.toArray⟩
theorem str_toList (l : List UInt8) : (str l).data.toList = l := by simp [str]
theorem str_size (l : List UInt8) : (str l).size = l.length := by simp [str, ByteArray.size]
@[go_sem, simp] theorem str_list (l : List UInt8) : (str l).toList = l := ByteArray.toList_mk l
@[go_sem, simp] theorem str_size' (l : List UInt8) : (str l).size = l.length := str_size l
@[go_sem, simp] theorem str_extract (l : List UInt8) (a b : Nat) : (str l).extract a b = str ((l.drop a).take (b - a)) := ByteArray.extract_mk l a b
@[go_sem, simp] theorem str_append (a b : List UInt8) : str a ++ str b = str (a ++ b) := ByteArray.mk_append_mk a b
@[go_sem, simp] theorem str_get (l : List UInt8) (i : Nat) (h : i < (str l).size) : (str l)[i] = l[i]'(by simpa using h) := by
  simp [str, ByteArray.getElem_eq_getElem_data]
theorem str_of (s : ByteArray) : str s.data.toList = s := by cases s; simp [str]

inductive V where
  | mk (k n : Int) (s : List UInt8) (l : List V)
def V.k : V → Int | .mk k _ _ _ => k
def V.n : V → Int | .mk _ n _ _ => n
def V.s : V → List UInt8 | .mk _ _ s _ => s
def V.l : V → List V | .mk _ _ _ l => l
theorem V.eta (x : V) : V.mk x.k x.n x.s x.l = x := by cases x; rfl
def V.nil : V := .mk 0 0 [] []

theorem V.size_lt {x : V} {l : List V} (h : x ∈ l) (k n : Int) (s : List UInt8) : SizeOf.sizeOf x < SizeOf.sizeOf (V.mk k n s l) := by
  have := List.sizeOf_lt_of_mem h
  simp; omega

def V.val (x : V) (c : Value) : Value := .agg #[.int .i64 x.k, .int .i64 x.n, .string (str x.s), c]

inductive IsL (ok : Nat → Prop) (w : World) : List V → Value → Prop where
  | mk (l : List V) (b off cap : Nat) (p : Option Addr) (sub : Nat → Value) (hcap : l.length ≤ cap) (hmax : cap ≤ maxLen)
      (hp : l ≠ [] → p = some ⟨b, off, none⟩ ∧ ok b)
      (hc : ∀ (i : Nat) (x : V), l[i]? = some x → w.cell? ⟨b, off + i * 4, none⟩ = some (.int .i64 x.k) ∧ w.cell? ⟨b, off + i * 4 + 1, none⟩ = some (.int .i64 x.n)
        ∧ w.cell? ⟨b, off + i * 4 + 2, none⟩ = some (.string (str x.s)) ∧ w.cell? ⟨b, off + i * 4 + 3, none⟩ = some (sub i))
      (hs : ∀ (i : Nat) (x : V), l[i]? = some x → IsL ok w x.l (sub i)) : IsL ok w l (.slice p l.length cap)

theorem cell_lt {w : World} {a : Addr} {v : Value} (h : w.cell? a = some v) : a.block < w.heap.size := by
  rcases Nat.lt_or_ge a.block w.heap.size with hlt | hge
  · exact hlt
  · simp [World.cell?, Array.getElem?_eq_none hge] at h

theorem IsL.keepBy {ok : Nat → Prop} {w w' : World} {l : List V} {c : Value} (h : IsL ok w l c)
    (hk : ∀ a v, ok a.block → w.cell? a = some v → w'.cell? a = some v) : IsL ok w' l c := by
  induction h with
  | mk l b off cap p sub hcap hmax hp hc hs ih =>
    refine .mk l b off cap p sub hcap hmax hp (fun i x hx => ?_) ih
    have hb : ok b := (hp (by rintro rfl; simp at hx)).2
    obtain ⟨h0, h1, h2, h3⟩ := hc i x hx
    exact ⟨hk _ _ hb h0, hk _ _ hb h1, hk _ _ hb h2, hk _ _ hb h3⟩
theorem IsL.keep {ok : Nat → Prop} {w w' : World} {l : List V} {c : Value} (h : IsL ok w l c) (hk : ∀ b, ok b → w'.heap[b]? = w.heap[b]?) : IsL ok w' l c :=
  h.keepBy fun a _ ho hv => (World.cell?_of_block (w := w) (hk a.block ho)).trans hv
theorem IsL.ext {ok : Nat → Prop} {w w' : World} {l : List V} {c : Value} (h : IsL ok w l c) (hb : Below w.heap.size w w') : IsL ok w' l c :=
  h.keepBy fun _ _ _ hv => (hb.cell (cell_lt hv)).trans hv
theorem IsL.weaken {ok ok' : Nat → Prop} {w : World} {l : List V} {c : Value} (h : IsL ok w l c) (hk : ∀ b, ok b → ok' b) : IsL ok' w l c := by
  induction h with
  | mk l b off cap p sub hcap hmax hp hc hs ih => exact .mk l b off cap p sub hcap hmax (fun hl => ⟨(hp hl).1, hk _ (hp hl).2⟩) hc ih
theorem IsL.nil {ok : Nat → Prop} {w : World} (p : Option Addr) (cap : Nat) (h : cap ≤ maxLen) : IsL ok w [] (.slice p 0 cap) :=
  .mk [] 0 0 cap p (fun _ => .slice none 0 0) (by simp) h (by simp) (by simp) (by simp)
theorem IsL.none_ {ok : Nat → Prop} {w : World} : IsL ok w [] (.slice none 0 0) := .nil none 0 (Nat.zero_le _)
theorem IsL.drew {ok : Nat → Prop} {w : World} {l : List V} {c : Value} (h : IsL ok w l c) : IsL ok w.drew l c := h.keepBy fun _ _ _ hv => hv
theorem IsL.form {ok : Nat → Prop} {w : World} {l : List V} {c : Value} (h : IsL ok w l c) : ∃ p cap, c = .slice p l.length cap ∧ l.length ≤ cap ∧ cap ≤ maxLen := by
  cases h with
  | mk l b off cap p sub hcap hmax hp hc hs => exact ⟨p, cap, rfl, hcap, hmax⟩

theorem bcell {W w1 : World} (hb : Below W.heap.size W w1) :
    (∀ b o, b < W.heap.size → w1.cell? ⟨b, o, none⟩ = W.cell? ⟨b, o, none⟩) ∧ (∀ b o, b < W.heap.size → w1.frozen? ⟨b, o, none⟩ = W.frozen? ⟨b, o, none⟩) :=
  ⟨fun b o h => hb.cell (p := ⟨b, o, none⟩) h, fun b o h => hb.frozen (p := ⟨b, o, none⟩) h⟩

def Enters (P : Program) (f : FuncId) : Prop := ∀ (args : Array Value) (w : World), (callFunc f args).run P w = .ok (.enter f args) w
theorem enters_mk {P : Program} {f : FuncId} {fn : Func} {c : Code} (hf : P.funcs[f]? = some fn) (hname : (fn.name == "runtime.NumGoroutine") = false) (hb : fn.body = some c) : Enters P f := by
  intro args w
  have hn : ¬ fn.name = "runtime.NumGoroutine" := by simpa using hname
  simp [callFunc, hf, hn, hb]

def firstAt {α : Type} (p : α → Bool) (l : List α) : Int := match l.findIdx? p with | some i => i | none => -1
end Go.Mor
end

section
/- What the library's package variables hold, as the program's text lays them. No statement of the program is proved here. -/
namespace Go.Proofs.YtmiokadmddjccaaGreatDoor
open Go Go.RowKit Go.Mor
structure GlobU (w : World) : Prop where
  tabs : Lib.Utf8Tabs 0 1 w
theorem GlobU.ext {w w' : World} (h : GlobU w) (hb : Below w.heap.size w w') : GlobU w' where
  tabs := Utf8Tabs_below h.tabs hb
end Go.Proofs.YtmiokadmddjccaaGreatDoor
end

section
/-
  DERIVED: THE SHELF's CONTRACTS AT THIS DUMP, IN PLAIN WORDS (tools/lay-plain.mjs out of 'YtmiokadmddjccaaGreatDoorShelf0.lean', which tools/lay-shelf.mjs wrote): THE SAME DECLARATIONS UNDER THE SAME NAMES: 'import', 'namespace', 'open', 'def', 'theorem' AND NOTHING ELSE: no command of the shelf's: FOR A HAND-IN. Each laying: the table of numbers ('.._ren') and one theorem, a field a fact of the dump's own or the kernel's comparison; each contract: ONE APPLICATION.
-/
namespace Go.Proofs
open Go.Shelf
def Tryz.laysValid_ren : Go.Shelf.Ren := ⟨fun | 196 => 160 | 259 => 194 | n => n, fun | 9 => 9 | 4 => 4 | 3 => 3 | 5 => 5 | 12 => 12 | 119 => 240 | 0 => 0 | 46 => 244 | 139 => 243 | 138 => 242 | 53 => 250 | n => n, fun | 3 => 0 | 4 => 1 | n => n⟩
theorem Tryz.laysValid : Go.Proofs.Lays.n196 Tryz.prog Tryz.laysValid_ren := {
  mixed := by kernel_rfl
  f196 := Tryz.func160.trans (congrArg some (by kernel_rfl))
  f259 := Tryz.func194.trans (congrArg some (by kernel_rfl))
  t0 := Tryz.underlying0
  a0 := Tryz.isAgg0
  z0 := Tryz.sizeOf0
  v0 := Tryz.zeroValue0
  t3 := Tryz.underlying3
  a3 := Tryz.isAgg3
  z3 := Tryz.sizeOf3
  v3 := Tryz.zeroValue3
  t4 := Tryz.underlying4
  a4 := Tryz.isAgg4
  z4 := Tryz.sizeOf4
  v4 := Tryz.zeroValue4
  t5 := Tryz.underlying5
  a5 := Tryz.isAgg5
  z5 := Tryz.sizeOf5
  v5 := Tryz.zeroValue5
  t9 := Tryz.underlying9
  a9 := Tryz.isAgg9
  z9 := Tryz.sizeOf9
  v9 := Tryz.zeroValue9
  t12 := Tryz.underlying12
  a12 := Tryz.isAgg12
  z12 := Tryz.sizeOf12
  v12 := Tryz.zeroValue12
  t46 := Tryz.underlying244
  a46 := Tryz.isAgg244
  z46 := Tryz.sizeOf244
  v46 := Tryz.zeroValue244
  t53 := Tryz.underlying250
  a53 := Tryz.isAgg250
  z53 := Tryz.sizeOf250
  v53 := Tryz.zeroValue250
  t119 := Tryz.underlying240
  a119 := Tryz.isAgg240
  z119 := Tryz.sizeOf240
  t138 := Tryz.underlying242
  a138 := Tryz.isAgg242
  z138 := Tryz.sizeOf242
  v138 := Tryz.zeroValue242
  t139 := Tryz.underlying243
  a139 := Tryz.isAgg243
  z139 := Tryz.sizeOf243
  v139 := Tryz.zeroValue243
  g3 := by kernel_rfl
  g4 := by kernel_rfl }
open Go.RowKit Go.Lib in
theorem Tryz.utf8_ValidString (s : ByteArray) (w : World) (hs : s.size ≤ 9223372036854775807) (hT : Lib.Utf8Tabs 0 1 w) :
    Calls Tryz.prog 160 #[.string s] w fun e w' => e = .returned (.bool (Lib.validD s.data.toList)) ∧ Below w.heap.size w w' := Any.utf8_ValidString Tryz.laysValid s w hs hT
def Tryz.laysDecode_ren : Go.Shelf.Ren := ⟨fun | 197 => 182 | 260 => 211 | n => n, fun | 9 => 9 | 21 => 21 | 3 => 3 | 4 => 4 | 5 => 5 | 105 => 233 | 119 => 240 | 0 => 0 | 46 => 244 | 139 => 243 | 138 => 242 | n => n, fun | 3 => 0 | 4 => 1 | n => n⟩
theorem Tryz.laysDecode : Go.Proofs.Lays.n197 Tryz.prog Tryz.laysDecode_ren := {
  mixed := by kernel_rfl
  f197 := Tryz.func182.trans (congrArg some (by kernel_rfl))
  f260 := Tryz.func211.trans (congrArg some (by kernel_rfl))
  t0 := Tryz.underlying0
  a0 := Tryz.isAgg0
  z0 := Tryz.sizeOf0
  v0 := Tryz.zeroValue0
  t3 := Tryz.underlying3
  a3 := Tryz.isAgg3
  z3 := Tryz.sizeOf3
  v3 := Tryz.zeroValue3
  t4 := Tryz.underlying4
  a4 := Tryz.isAgg4
  z4 := Tryz.sizeOf4
  v4 := Tryz.zeroValue4
  t5 := Tryz.underlying5
  a5 := Tryz.isAgg5
  z5 := Tryz.sizeOf5
  v5 := Tryz.zeroValue5
  t9 := Tryz.underlying9
  a9 := Tryz.isAgg9
  z9 := Tryz.sizeOf9
  v9 := Tryz.zeroValue9
  t21 := Tryz.underlying21
  a21 := Tryz.isAgg21
  z21 := Tryz.sizeOf21
  v21 := Tryz.zeroValue21
  t46 := Tryz.underlying244
  a46 := Tryz.isAgg244
  z46 := Tryz.sizeOf244
  v46 := Tryz.zeroValue244
  t105 := Tryz.underlying233
  a105 := Tryz.isAgg233
  z105 := Tryz.sizeOf233
  v105 := Tryz.zeroValue233
  t119 := Tryz.underlying240
  a119 := Tryz.isAgg240
  z119 := Tryz.sizeOf240
  t138 := Tryz.underlying242
  a138 := Tryz.isAgg242
  z138 := Tryz.sizeOf242
  v138 := Tryz.zeroValue242
  t139 := Tryz.underlying243
  a139 := Tryz.isAgg243
  z139 := Tryz.sizeOf243
  v139 := Tryz.zeroValue243
  g3 := by kernel_rfl
  g4 := by kernel_rfl }
open Go.RowKit Go.Lib in
theorem Tryz.utf8_DecodeRuneInString (s : ByteArray) (w : World) (hT : Lib.Utf8Tabs 0 1 w) :
    Calls Tryz.prog 182 #[.string s] w fun e w' => e = .returned (.tuple #[.int .i32 (Lib.decodeGo s).1, .int .i64 (Lib.decodeGo s).2]) ∧ Below w.heap.size w w' := Any.utf8_DecodeRuneInString Tryz.laysDecode s w hT
def Tryz.laysCmp_ren : Go.Shelf.Ren := ⟨fun | 122 => 133 | 215 => 184 | n => n, fun | 3 => 3 | 4 => 4 | n => n, fun | n => n⟩
theorem Tryz.laysCmp : Go.Proofs.Lays.n122 Tryz.prog Tryz.laysCmp_ren := {
  mixed := by kernel_rfl
  f122 := Tryz.func133.trans (congrArg some (by kernel_rfl))
  f215 := Tryz.func184.trans (congrArg some (by kernel_rfl))
  t3 := Tryz.underlying3
  a3 := Tryz.isAgg3
  z3 := Tryz.sizeOf3
  v3 := Tryz.zeroValue3
  t4 := Tryz.underlying4
  a4 := Tryz.isAgg4
  z4 := Tryz.sizeOf4
  v4 := Tryz.zeroValue4 }
open Go.RowKit Go.Lib in
theorem Tryz.cmp_Compare_int (x y : Int) (w : World) :
    Calls Tryz.prog 133 #[.int .i64 x, .int .i64 y] w fun e w' => e = .returned (.int .i64 (Lib.compareInt x y)) ∧ w' = w := Any.cmp_Compare_int Tryz.laysCmp x y w
def Tryz.laysM171_ren : Go.Shelf.Ren := ⟨fun | 171 => 103 | 243 => 165 | 246 => 199 | 283 => 215 | 284 => 216 | 285 => 217 | 286 => 218 | 129 => 237 | 317 => 236 | 318 => 238 | 319 => 239 | 320 => 240 | 337 => 249 | 338 => 250 | n => n, fun | 3 => 3 | 9 => 9 | 2 => 2 | 4 => 4 | 171 => 259 | 0 => 0 | 53 => 250 | 37 => 22 | 5 => 5 | 173 => 262 | 212 => 281 | 51 => 282 | 20 => 20 | 213 => 283 | 46 => 244 | 232 => 312 | 233 => 313 | n => n, fun | 17 => 5 | 18 => 8 | 19 => 9 | n => n⟩
theorem Tryz.laysM171 : Go.Proofs.LaysM.n171 Tryz.prog Tryz.laysM171_ren := {
  mixed := by kernel_rfl
  f129 := Tryz.func237.trans (congrArg some (by kernel_rfl))
  f171 := Tryz.func103.trans (congrArg some (by kernel_rfl))
  f243 := Tryz.func165.trans (congrArg some (by kernel_rfl))
  f246 := Tryz.func199.trans (congrArg some (by kernel_rfl))
  f283 := Tryz.func215.trans (congrArg some (by kernel_rfl))
  f284 := Tryz.func216.trans (congrArg some (by kernel_rfl))
  f285 := Tryz.func217.trans (congrArg some (by kernel_rfl))
  f286 := Tryz.func218.trans (congrArg some (by kernel_rfl))
  f317 := Tryz.func236.trans (congrArg some (by kernel_rfl))
  f318 := Tryz.func238.trans (congrArg some (by kernel_rfl))
  f319 := Tryz.func239.trans (congrArg some (by kernel_rfl))
  f320 := Tryz.func240.trans (congrArg some (by kernel_rfl))
  f337 := Tryz.func249.trans (congrArg some (by kernel_rfl))
  f338 := Tryz.func250.trans (congrArg some (by kernel_rfl))
  t0 := Tryz.underlying0
  a0 := Tryz.isAgg0
  z0 := Tryz.sizeOf0
  v0 := Tryz.zeroValue0
  t2 := Tryz.underlying2
  a2 := Tryz.isAgg2
  z2 := Tryz.sizeOf2
  v2 := Tryz.zeroValue2
  t3 := Tryz.underlying3
  a3 := Tryz.isAgg3
  z3 := Tryz.sizeOf3
  v3 := Tryz.zeroValue3
  t4 := Tryz.underlying4
  a4 := Tryz.isAgg4
  z4 := Tryz.sizeOf4
  v4 := Tryz.zeroValue4
  t5 := Tryz.underlying5
  a5 := Tryz.isAgg5
  z5 := Tryz.sizeOf5
  v5 := Tryz.zeroValue5
  t9 := Tryz.underlying9
  a9 := Tryz.isAgg9
  z9 := Tryz.sizeOf9
  v9 := Tryz.zeroValue9
  t20 := Tryz.underlying20
  a20 := Tryz.isAgg20
  z20 := Tryz.sizeOf20
  v20 := Tryz.zeroValue20
  t37 := Tryz.underlying22
  a37 := Tryz.isAgg22
  z37 := Tryz.sizeOf22
  v37 := Tryz.zeroValue22
  t46 := Tryz.underlying244
  a46 := Tryz.isAgg244
  z46 := Tryz.sizeOf244
  v46 := Tryz.zeroValue244
  t51 := Tryz.underlying282
  a51 := Tryz.isAgg282
  z51 := Tryz.sizeOf282
  v51 := Tryz.zeroValue282
  t53 := Tryz.underlying250
  a53 := Tryz.isAgg250
  z53 := Tryz.sizeOf250
  v53 := Tryz.zeroValue250
  t171 := Tryz.underlying259
  a171 := Tryz.isAgg259
  z171 := Tryz.sizeOf259
  v171 := Tryz.zeroValue259
  t173 := Tryz.underlying262
  a173 := Tryz.isAgg262
  z173 := Tryz.sizeOf262
  v173 := Tryz.zeroValue262
  t212 := Tryz.underlying281
  a212 := Tryz.isAgg281
  z212 := Tryz.sizeOf281
  v212 := Tryz.zeroValue281
  t213 := Tryz.underlying283
  a213 := Tryz.isAgg283
  z213 := Tryz.sizeOf283
  t232 := Tryz.underlying312
  a232 := Tryz.isAgg312
  z232 := Tryz.sizeOf312
  v232 := Tryz.zeroValue312
  t233 := Tryz.underlying313
  a233 := Tryz.isAgg313
  z233 := Tryz.sizeOf313
  v233 := Tryz.zeroValue313
  g17 := by kernel_rfl
  g18 := by kernel_rfl
  g19 := by kernel_rfl
  i0 := by kernel_rfl
  i2 := by kernel_rfl
  i3 := by kernel_rfl
  i4 := by kernel_rfl
  i5 := by kernel_rfl
  i9 := by kernel_rfl
  i20 := by kernel_rfl
  i37 := by kernel_rfl
  i46 := by kernel_rfl
  i51 := by kernel_rfl
  i53 := by kernel_rfl
  i171 := by kernel_rfl
  i173 := by kernel_rfl
  i212 := by kernel_rfl
  i232 := by kernel_rfl
  i233 := by kernel_rfl
  m17 := by kernel_rfl
  m18 := by kernel_rfl
  m19 := by kernel_rfl }
open Go.RowKit Go.Lib in
theorem Tryz.strconv_Itoa (n : Int) (h0 : -9223372036854775808 ≤ n) (h1 : n ≤ 9223372036854775807) (w : World) (htab : Lib.TabIs Tryz.prog w "internal/strconv.uint64pow10" .u64 Lib.pow10Tab) :
    Calls Tryz.prog 103 #[.int .i64 n] w fun e w' => e = .returned (.string ⟨(Lib.itoa n).toArray⟩) ∧ ∃ k os, w' = Go.Sort.grow (w.drewN k) os := Any.strconv_Itoa Tryz.laysM171 n h0 h1 w htab
def Tryz.lays155_ren : Go.Shelf.Ren := ⟨fun | 155 => 104 | 154 => 166 | 138 => 200 | 165 => 167 | 143 => 188 | 166 => 168 | 197 => 182 | 169 => 169 | 195 => 219 | 218 => 220 | 240 => 201 | 241 => 202 | 219 => 212 | 260 => 211 | 276 => 221 | 277 => 222 | 217 => 227 | 225 => 228 | 224 => 229 | 267 => 230 | 266 => 244 | 314 => 245 | n => n, fun | 9 => 9 | 3 => 3 | 4 => 4 | 72 => 215 | 0 => 0 | 76 => 219 | 105 => 233 | 21 => 21 | 5 => 5 | 70 => 213 | 20 => 20 | 37 => 22 | 75 => 218 | 127 => 246 | 164 => 265 | 46 => 244 | 119 => 240 | 139 => 243 | 138 => 242 | 146 => 290 | 51 => 282 | 80 => 159 | n => n, fun | 1 => 4 | 3 => 0 | 4 => 1 | n => n⟩
theorem Tryz.lays155 : Go.Proofs.Lays.n155 Tryz.prog Tryz.lays155_ren := {
  mixed := by kernel_rfl
  f138 := Tryz.func200.trans (congrArg some (by kernel_rfl))
  f143 := Tryz.func188.trans (congrArg some (by kernel_rfl))
  f154 := Tryz.func166.trans (congrArg some (by kernel_rfl))
  f155 := Tryz.func104.trans (congrArg some (by kernel_rfl))
  f165 := Tryz.func167.trans (congrArg some (by kernel_rfl))
  f166 := Tryz.func168.trans (congrArg some (by kernel_rfl))
  f169 := Tryz.func169.trans (congrArg some (by kernel_rfl))
  f195 := Tryz.func219.trans (congrArg some (by kernel_rfl))
  f197 := Tryz.func182.trans (congrArg some (by kernel_rfl))
  f217 := Tryz.func227.trans (congrArg some (by kernel_rfl))
  f218 := Tryz.func220.trans (congrArg some (by kernel_rfl))
  f219 := Tryz.func212.trans (congrArg some (by kernel_rfl))
  f224 := Tryz.func229.trans (congrArg some (by kernel_rfl))
  f225 := Tryz.func228.trans (congrArg some (by kernel_rfl))
  f240 := Tryz.func201.trans (congrArg some (by kernel_rfl))
  f241 := Tryz.func202.trans (congrArg some (by kernel_rfl))
  f260 := Tryz.func211.trans (congrArg some (by kernel_rfl))
  f266 := Tryz.func244.trans (congrArg some (by kernel_rfl))
  f267 := Tryz.func230.trans (congrArg some (by kernel_rfl))
  f276 := Tryz.func221.trans (congrArg some (by kernel_rfl))
  f277 := Tryz.func222.trans (congrArg some (by kernel_rfl))
  f314 := Tryz.func245.trans (congrArg some (by kernel_rfl))
  t0 := Tryz.underlying0
  a0 := Tryz.isAgg0
  z0 := Tryz.sizeOf0
  v0 := Tryz.zeroValue0
  t3 := Tryz.underlying3
  a3 := Tryz.isAgg3
  z3 := Tryz.sizeOf3
  v3 := Tryz.zeroValue3
  t4 := Tryz.underlying4
  a4 := Tryz.isAgg4
  z4 := Tryz.sizeOf4
  v4 := Tryz.zeroValue4
  t5 := Tryz.underlying5
  a5 := Tryz.isAgg5
  z5 := Tryz.sizeOf5
  v5 := Tryz.zeroValue5
  t9 := Tryz.underlying9
  a9 := Tryz.isAgg9
  z9 := Tryz.sizeOf9
  v9 := Tryz.zeroValue9
  t20 := Tryz.underlying20
  a20 := Tryz.isAgg20
  z20 := Tryz.sizeOf20
  v20 := Tryz.zeroValue20
  t21 := Tryz.underlying21
  a21 := Tryz.isAgg21
  z21 := Tryz.sizeOf21
  v21 := Tryz.zeroValue21
  t37 := Tryz.underlying22
  a37 := Tryz.isAgg22
  z37 := Tryz.sizeOf22
  v37 := Tryz.zeroValue22
  t46 := Tryz.underlying244
  a46 := Tryz.isAgg244
  z46 := Tryz.sizeOf244
  v46 := Tryz.zeroValue244
  t51 := Tryz.underlying282
  a51 := Tryz.isAgg282
  z51 := Tryz.sizeOf282
  v51 := Tryz.zeroValue282
  t70 := Tryz.underlying213
  a70 := Tryz.isAgg213
  z70 := Tryz.sizeOf213
  v70 := Tryz.zeroValue213
  t72 := Tryz.underlying215
  a72 := Tryz.isAgg215
  z72 := Tryz.sizeOf215
  v72 := Tryz.zeroValue215
  t75 := Tryz.underlying218
  a75 := Tryz.isAgg218
  z75 := Tryz.sizeOf218
  v75 := Tryz.zeroValue218
  t76 := Tryz.underlying219
  a76 := Tryz.isAgg219
  z76 := Tryz.sizeOf219
  v76 := Tryz.zeroValue219
  t105 := Tryz.underlying233
  a105 := Tryz.isAgg233
  z105 := Tryz.sizeOf233
  v105 := Tryz.zeroValue233
  t119 := Tryz.underlying240
  a119 := Tryz.isAgg240
  z119 := Tryz.sizeOf240
  t127 := Tryz.underlying246
  a127 := Tryz.isAgg246
  z127 := Tryz.sizeOf246
  v127 := Tryz.zeroValue246
  t138 := Tryz.underlying242
  a138 := Tryz.isAgg242
  z138 := Tryz.sizeOf242
  v138 := Tryz.zeroValue242
  t139 := Tryz.underlying243
  a139 := Tryz.isAgg243
  z139 := Tryz.sizeOf243
  v139 := Tryz.zeroValue243
  t146 := Tryz.underlying290
  a146 := Tryz.isAgg290
  z146 := Tryz.sizeOf290
  v146 := Tryz.zeroValue290
  t164 := Tryz.underlying265
  a164 := Tryz.isAgg265
  z164 := Tryz.sizeOf265
  v164 := Tryz.zeroValue265
  g1 := by kernel_rfl
  g3 := by kernel_rfl
  g4 := by kernel_rfl }
theorem Tryz.Builder_Extra_155 : Builder.Extra Tryz.prog Tryz.lays155_ren := {
  sizeBuilder := by kernel_rfl
  liesBuilder := by kernel_rfl
  t5 := Tryz.underlying5
  a5 := Tryz.isAgg5
  z5 := Tryz.sizeOf5
  v5 := Tryz.zeroValue5
  infoByte := by kernel_rfl
  cellsByte := by kernel_rfl
  sizeByte := by kernel_rfl
  neB5 := by decide }
open Go.RowKit Go.Lib in
theorem Tryz.strings_ReplaceAll (s old new : ByteArray) (m : Int) (w : World) (hs : s.size < 4294967281) (hm : w.cell? ⟨4, 0, none⟩ = some (.int .i64 m)) (h1 : 1 ≤ old.size) (hlen : s.size + Lib.countB s old * new.size ≤ 140737488355328) :
    Calls Tryz.prog 104 #[.string s, .string old, .string new] w fun e w' => e = .returned (.string ⟨(Lib.replaceAll s.data.toList old.data.toList new.data.toList).toArray⟩) ∧ Below w.heap.size w w' := Any.strings_ReplaceAll Tryz.lays155 Tryz.Builder_Extra_155 s old new m w hs hm h1 hlen
def Tryz.lays156_ren : Go.Shelf.Ren := ⟨fun | 156 => 106 | 165 => 167 | 166 => 168 | 169 => 169 | 240 => 201 | 241 => 202 | 276 => 221 | 277 => 222 | n => n, fun | 31 => 125 | 9 => 9 | 3 => 3 | 4 => 4 | 0 => 0 | 20 => 20 | 72 => 215 | 76 => 219 | 70 => 213 | 37 => 22 | 75 => 218 | 127 => 246 | 164 => 265 | 5 => 5 | 80 => 159 | n => n, fun | n => n⟩
theorem Tryz.lays156 : Go.Proofs.Lays.n156 Tryz.prog Tryz.lays156_ren := {
  mixed := by kernel_rfl
  f156 := Tryz.func106.trans (congrArg some (by kernel_rfl))
  f165 := Tryz.func167.trans (congrArg some (by kernel_rfl))
  f166 := Tryz.func168.trans (congrArg some (by kernel_rfl))
  f169 := Tryz.func169.trans (congrArg some (by kernel_rfl))
  f240 := Tryz.func201.trans (congrArg some (by kernel_rfl))
  f241 := Tryz.func202.trans (congrArg some (by kernel_rfl))
  f276 := Tryz.func221.trans (congrArg some (by kernel_rfl))
  f277 := Tryz.func222.trans (congrArg some (by kernel_rfl))
  t0 := Tryz.underlying0
  a0 := Tryz.isAgg0
  z0 := Tryz.sizeOf0
  v0 := Tryz.zeroValue0
  t3 := Tryz.underlying3
  a3 := Tryz.isAgg3
  z3 := Tryz.sizeOf3
  v3 := Tryz.zeroValue3
  t4 := Tryz.underlying4
  a4 := Tryz.isAgg4
  z4 := Tryz.sizeOf4
  v4 := Tryz.zeroValue4
  t9 := Tryz.underlying9
  a9 := Tryz.isAgg9
  z9 := Tryz.sizeOf9
  v9 := Tryz.zeroValue9
  t20 := Tryz.underlying20
  a20 := Tryz.isAgg20
  z20 := Tryz.sizeOf20
  v20 := Tryz.zeroValue20
  t31 := Tryz.underlying125
  a31 := Tryz.isAgg125
  z31 := Tryz.sizeOf125
  v31 := Tryz.zeroValue125
  t37 := Tryz.underlying22
  a37 := Tryz.isAgg22
  z37 := Tryz.sizeOf22
  v37 := Tryz.zeroValue22
  t70 := Tryz.underlying213
  a70 := Tryz.isAgg213
  z70 := Tryz.sizeOf213
  v70 := Tryz.zeroValue213
  t72 := Tryz.underlying215
  a72 := Tryz.isAgg215
  z72 := Tryz.sizeOf215
  v72 := Tryz.zeroValue215
  t75 := Tryz.underlying218
  a75 := Tryz.isAgg218
  z75 := Tryz.sizeOf218
  v75 := Tryz.zeroValue218
  t76 := Tryz.underlying219
  a76 := Tryz.isAgg219
  z76 := Tryz.sizeOf219
  v76 := Tryz.zeroValue219
  t127 := Tryz.underlying246
  a127 := Tryz.isAgg246
  z127 := Tryz.sizeOf246
  v127 := Tryz.zeroValue246
  t164 := Tryz.underlying265
  a164 := Tryz.isAgg265
  z164 := Tryz.sizeOf265
  v164 := Tryz.zeroValue265 }
theorem Tryz.Builder_Extra_156 : Builder.Extra Tryz.prog Tryz.lays156_ren := {
  sizeBuilder := by kernel_rfl
  liesBuilder := by kernel_rfl
  t5 := Tryz.underlying5
  a5 := Tryz.isAgg5
  z5 := Tryz.sizeOf5
  v5 := Tryz.zeroValue5
  infoByte := by kernel_rfl
  cellsByte := by kernel_rfl
  sizeByte := by kernel_rfl
  neB5 := by decide }
open Go.RowKit Go.Lib in
theorem Tryz.strings_Join (bk o c : Nat) (xs : List ByteArray) (sep : ByteArray) (w : World) (hcells : ∀ (j : Nat) x, xs[j]? = some x → w.cell? ⟨bk, o + j, none⟩ = some (.string x)) (hbk : bk < w.heap.size) (hN : xs.length ≤ 140737488355328) (hcap : xs.length ≤ c) (hlen : (Lib.join (xs.map (·.data.toList)) sep.data.toList).length ≤ 140737488355328) :
    Calls Tryz.prog 106 #[.slice (some ⟨bk, o, none⟩) xs.length c, .string sep] w fun e w' => e = .returned (.string ⟨(Lib.join (xs.map (·.data.toList)) sep.data.toList).toArray⟩) ∧ Below w.heap.size w w' := Any.strings_Join Tryz.lays156 Tryz.Builder_Extra_156 bk o c xs sep w hcells hbk hN hcap hlen
def Tryz.lays143_ren : Go.Shelf.Ren := ⟨fun | 143 => 188 | 219 => 212 | 217 => 227 | 225 => 228 | 224 => 229 | 267 => 230 | 266 => 244 | 314 => 245 | n => n, fun | 9 => 9 | 3 => 3 | 4 => 4 | 5 => 5 | 46 => 244 | 146 => 290 | 51 => 282 | n => n, fun | 1 => 4 | n => n⟩
theorem Tryz.lays143 : Go.Proofs.Lays.n143 Tryz.prog Tryz.lays143_ren := {
  mixed := by kernel_rfl
  f143 := Tryz.func188.trans (congrArg some (by kernel_rfl))
  f217 := Tryz.func227.trans (congrArg some (by kernel_rfl))
  f219 := Tryz.func212.trans (congrArg some (by kernel_rfl))
  f224 := Tryz.func229.trans (congrArg some (by kernel_rfl))
  f225 := Tryz.func228.trans (congrArg some (by kernel_rfl))
  f266 := Tryz.func244.trans (congrArg some (by kernel_rfl))
  f267 := Tryz.func230.trans (congrArg some (by kernel_rfl))
  f314 := Tryz.func245.trans (congrArg some (by kernel_rfl))
  t3 := Tryz.underlying3
  a3 := Tryz.isAgg3
  z3 := Tryz.sizeOf3
  v3 := Tryz.zeroValue3
  t4 := Tryz.underlying4
  a4 := Tryz.isAgg4
  z4 := Tryz.sizeOf4
  v4 := Tryz.zeroValue4
  t5 := Tryz.underlying5
  a5 := Tryz.isAgg5
  z5 := Tryz.sizeOf5
  v5 := Tryz.zeroValue5
  t9 := Tryz.underlying9
  a9 := Tryz.isAgg9
  z9 := Tryz.sizeOf9
  v9 := Tryz.zeroValue9
  t46 := Tryz.underlying244
  a46 := Tryz.isAgg244
  z46 := Tryz.sizeOf244
  v46 := Tryz.zeroValue244
  t51 := Tryz.underlying282
  a51 := Tryz.isAgg282
  z51 := Tryz.sizeOf282
  v51 := Tryz.zeroValue282
  t146 := Tryz.underlying290
  a146 := Tryz.isAgg290
  z146 := Tryz.sizeOf290
  v146 := Tryz.zeroValue290
  g1 := by kernel_rfl }
open Go.RowKit Go.Lib in
theorem Tryz.strings_Index (s substr : ByteArray) (m : Int) (w : World) (hs : s.size < 4294967281) (hm : w.cell? ⟨4, 0, none⟩ = some (.int .i64 m)) :
    Calls Tryz.prog 188 #[.string s, .string substr] w fun e w' => e = .returned (.int .i64 (Lib.index s.data.toList substr.data.toList)) ∧ w' = w := Any.strings_Index Tryz.lays143 s substr m w hs hm
def Tryz.lays118_ren : Go.Shelf.Ren := ⟨fun | 118 => 187 | n => n, fun | 21 => 21 | 3 => 3 | 4 => 4 | n => n, fun | n => n⟩
theorem Tryz.lays118 : Go.Proofs.Lays.n118 Tryz.prog Tryz.lays118_ren := {
  mixed := by kernel_rfl
  f118 := Tryz.func187.trans (congrArg some (by kernel_rfl))
  t3 := Tryz.underlying3
  a3 := Tryz.isAgg3
  z3 := Tryz.sizeOf3
  v3 := Tryz.zeroValue3
  t4 := Tryz.underlying4
  a4 := Tryz.isAgg4
  z4 := Tryz.sizeOf4
  v4 := Tryz.zeroValue4
  t21 := Tryz.underlying21
  a21 := Tryz.isAgg21
  z21 := Tryz.sizeOf21
  v21 := Tryz.zeroValue21 }
open Go.RowKit Go.Lib in
theorem Tryz.utf8_RuneLen (r : Int) (w : World) :
    Calls Tryz.prog 187 #[.int .i32 r] w fun e w' => e = .returned (.int .i64 (Lib.runeLen r)) ∧ w' = w := Any.utf8_RuneLen Tryz.lays118 r w
def Tryz.laysC172_ren : Go.Shelf.Ren := ⟨fun | 172 => 189 | 244 => 213 | 245 => 214 | 247 => 231 | 279 => 232 | 280 => 233 | 281 => 234 | 282 => 235 | 287 => 246 | 316 => 247 | 171 => 103 | 205 => 248 | 321 => 251 | 322 => 252 | 243 => 165 | 246 => 199 | 283 => 215 | 284 => 216 | 285 => 217 | 286 => 218 | 129 => 237 | 317 => 236 | 318 => 238 | 319 => 239 | 320 => 240 | 337 => 249 | 338 => 250 | n => n, fun | 9 => 9 | 3 => 3 | 75 => 218 | 76 => 219 | 4 => 4 | 5 => 5 | 167 => 274 | 37 => 22 | 0 => 0 | 85 => 275 | 2 => 2 | 168 => 277 | 53 => 250 | 175 => 292 | 46 => 244 | 210 => 295 | 127 => 246 | 145 => 311 | 143 => 309 | 21 => 21 | 171 => 259 | 173 => 262 | 212 => 281 | 51 => 282 | 20 => 20 | 213 => 283 | 232 => 312 | 233 => 313 | 80 => 159 | n => n, fun | 15 => 6 | 16 => 7 | 17 => 5 | 18 => 8 | 19 => 9 | n => n⟩
theorem Tryz.laysC172 : Go.Proofs.LaysC.n172 Tryz.prog Tryz.laysC172_ren := {
  mixed := by kernel_rfl
  f129 := Tryz.func237.trans (congrArg some (by kernel_rfl))
  f171 := Tryz.func103.trans (congrArg some (by kernel_rfl))
  f172 := Tryz.func189.trans (congrArg some (by kernel_rfl))
  f205 := Tryz.func248.trans (congrArg some (by kernel_rfl))
  f243 := Tryz.func165.trans (congrArg some (by kernel_rfl))
  f244 := Tryz.func213.trans (congrArg some (by kernel_rfl))
  f245 := Tryz.func214.trans (congrArg some (by kernel_rfl))
  f246 := Tryz.func199.trans (congrArg some (by kernel_rfl))
  f247 := Tryz.func231.trans (congrArg some (by kernel_rfl))
  f279 := Tryz.func232.trans (congrArg some (by kernel_rfl))
  f280 := Tryz.func233.trans (congrArg some (by kernel_rfl))
  f281 := Tryz.func234.trans (congrArg some (by kernel_rfl))
  f282 := Tryz.func235.trans (congrArg some (by kernel_rfl))
  f283 := Tryz.func215.trans (congrArg some (by kernel_rfl))
  f284 := Tryz.func216.trans (congrArg some (by kernel_rfl))
  f285 := Tryz.func217.trans (congrArg some (by kernel_rfl))
  f286 := Tryz.func218.trans (congrArg some (by kernel_rfl))
  f287 := Tryz.func246.trans (congrArg some (by kernel_rfl))
  f316 := Tryz.func247.trans (congrArg some (by kernel_rfl))
  f317 := Tryz.func236.trans (congrArg some (by kernel_rfl))
  f318 := Tryz.func238.trans (congrArg some (by kernel_rfl))
  f319 := Tryz.func239.trans (congrArg some (by kernel_rfl))
  f320 := Tryz.func240.trans (congrArg some (by kernel_rfl))
  f321 := Tryz.func251.trans (congrArg some (by kernel_rfl))
  f322 := Tryz.func252.trans (congrArg some (by kernel_rfl))
  f337 := Tryz.func249.trans (congrArg some (by kernel_rfl))
  f338 := Tryz.func250.trans (congrArg some (by kernel_rfl))
  t0 := Tryz.underlying0
  a0 := Tryz.isAgg0
  z0 := Tryz.sizeOf0
  v0 := Tryz.zeroValue0
  t2 := Tryz.underlying2
  a2 := Tryz.isAgg2
  z2 := Tryz.sizeOf2
  v2 := Tryz.zeroValue2
  t3 := Tryz.underlying3
  a3 := Tryz.isAgg3
  z3 := Tryz.sizeOf3
  v3 := Tryz.zeroValue3
  t4 := Tryz.underlying4
  a4 := Tryz.isAgg4
  z4 := Tryz.sizeOf4
  v4 := Tryz.zeroValue4
  t5 := Tryz.underlying5
  a5 := Tryz.isAgg5
  z5 := Tryz.sizeOf5
  v5 := Tryz.zeroValue5
  t9 := Tryz.underlying9
  a9 := Tryz.isAgg9
  z9 := Tryz.sizeOf9
  v9 := Tryz.zeroValue9
  t20 := Tryz.underlying20
  a20 := Tryz.isAgg20
  z20 := Tryz.sizeOf20
  v20 := Tryz.zeroValue20
  t21 := Tryz.underlying21
  a21 := Tryz.isAgg21
  z21 := Tryz.sizeOf21
  v21 := Tryz.zeroValue21
  t37 := Tryz.underlying22
  a37 := Tryz.isAgg22
  z37 := Tryz.sizeOf22
  v37 := Tryz.zeroValue22
  t46 := Tryz.underlying244
  a46 := Tryz.isAgg244
  z46 := Tryz.sizeOf244
  v46 := Tryz.zeroValue244
  t51 := Tryz.underlying282
  a51 := Tryz.isAgg282
  z51 := Tryz.sizeOf282
  v51 := Tryz.zeroValue282
  t53 := Tryz.underlying250
  a53 := Tryz.isAgg250
  z53 := Tryz.sizeOf250
  v53 := Tryz.zeroValue250
  t75 := Tryz.underlying218
  a75 := Tryz.isAgg218
  z75 := Tryz.sizeOf218
  v75 := Tryz.zeroValue218
  t76 := Tryz.underlying219
  a76 := Tryz.isAgg219
  z76 := Tryz.sizeOf219
  v76 := Tryz.zeroValue219
  t85 := Tryz.underlying275
  a85 := Tryz.isAgg275
  z85 := Tryz.sizeOf275
  v85 := Tryz.zeroValue275
  t127 := Tryz.underlying246
  a127 := Tryz.isAgg246
  z127 := Tryz.sizeOf246
  v127 := Tryz.zeroValue246
  t143 := Tryz.underlying309
  a143 := Tryz.isAgg309
  z143 := Tryz.sizeOf309
  v143 := Tryz.zeroValue309
  t145 := Tryz.underlying311
  a145 := Tryz.isAgg311
  z145 := Tryz.sizeOf311
  v145 := Tryz.zeroValue311
  t167 := Tryz.underlying274
  a167 := Tryz.isAgg274
  z167 := Tryz.sizeOf274
  v167 := Tryz.zeroValue274
  t168 := Tryz.underlying277
  a168 := Tryz.isAgg277
  z168 := Tryz.sizeOf277
  v168 := Tryz.zeroValue277
  t171 := Tryz.underlying259
  a171 := Tryz.isAgg259
  z171 := Tryz.sizeOf259
  v171 := Tryz.zeroValue259
  t173 := Tryz.underlying262
  a173 := Tryz.isAgg262
  z173 := Tryz.sizeOf262
  v173 := Tryz.zeroValue262
  t175 := Tryz.underlying292
  a175 := Tryz.isAgg292
  z175 := Tryz.sizeOf292
  v175 := Tryz.zeroValue292
  t210 := Tryz.underlying295
  a210 := Tryz.isAgg295
  z210 := Tryz.sizeOf295
  v210 := Tryz.zeroValue295
  t212 := Tryz.underlying281
  a212 := Tryz.isAgg281
  z212 := Tryz.sizeOf281
  v212 := Tryz.zeroValue281
  t213 := Tryz.underlying283
  a213 := Tryz.isAgg283
  z213 := Tryz.sizeOf283
  t232 := Tryz.underlying312
  a232 := Tryz.isAgg312
  z232 := Tryz.sizeOf312
  v232 := Tryz.zeroValue312
  t233 := Tryz.underlying313
  a233 := Tryz.isAgg313
  z233 := Tryz.sizeOf313
  v233 := Tryz.zeroValue313
  g15 := by kernel_rfl
  g16 := by kernel_rfl
  g17 := by kernel_rfl
  g18 := by kernel_rfl
  g19 := by kernel_rfl
  t80 := Tryz.underlying159
  a80 := Tryz.isAgg159
  z80 := Tryz.sizeOf159
  v80 := Tryz.zeroValue159
  i0 := by kernel_rfl
  i2 := by kernel_rfl
  i3 := by kernel_rfl
  i4 := by kernel_rfl
  i5 := by kernel_rfl
  i9 := by kernel_rfl
  i20 := by kernel_rfl
  i21 := by kernel_rfl
  i37 := by kernel_rfl
  i46 := by kernel_rfl
  i51 := by kernel_rfl
  i53 := by kernel_rfl
  i75 := by kernel_rfl
  i76 := by kernel_rfl
  i80 := by kernel_rfl
  i85 := by kernel_rfl
  i127 := by kernel_rfl
  i143 := by kernel_rfl
  i145 := by kernel_rfl
  i167 := by kernel_rfl
  i168 := by kernel_rfl
  i171 := by kernel_rfl
  i173 := by kernel_rfl
  i175 := by kernel_rfl
  i210 := by kernel_rfl
  i212 := by kernel_rfl
  i232 := by kernel_rfl
  i233 := by kernel_rfl
  m15 := by kernel_rfl
  m16 := by kernel_rfl
  m17 := by kernel_rfl
  m18 := by kernel_rfl
  m19 := by kernel_rfl
  c0 := by kernel_rfl
  c2 := by kernel_rfl
  c3 := by kernel_rfl
  c4 := by kernel_rfl
  c5 := by kernel_rfl
  c9 := by kernel_rfl
  c20 := by kernel_rfl
  c21 := by kernel_rfl
  c37 := by kernel_rfl
  c46 := by kernel_rfl
  c51 := by kernel_rfl
  c53 := by kernel_rfl
  c75 := by kernel_rfl
  c76 := by kernel_rfl
  c80 := by kernel_rfl
  c85 := by kernel_rfl
  c127 := by kernel_rfl
  c143 := by kernel_rfl
  c145 := by kernel_rfl
  c167 := by kernel_rfl
  c168 := by kernel_rfl
  c171 := by kernel_rfl
  c173 := by kernel_rfl
  c175 := by kernel_rfl
  c210 := by kernel_rfl
  c212 := by kernel_rfl
  c213 := by kernel_rfl
  c232 := by kernel_rfl
  c233 := by kernel_rfl }
end Go.Proofs
end

section
/- Calls of the library that are known, as Sh has them. No statement of the program is proved here. -/
namespace Go.Proofs.YtmiokadmddjccaaGreatDoor
open Go Go.RowKit Go.Mor Go.Sh
theorem hmix : Tryz.prog.follows .mixedOrders = true := by kernel_rfl
structure GlobN0 (n : Nat) (w : World) : Prop where
  u : GlobU w
  sz : n ≤ w.heap.size
  hv : 10 ≤ n
theorem tabs_st {w w' : World} {n : Nat} (hn : 10 ≤ n) (h : Lib.Utf8Tabs 0 1 w) (hk : ∀ k, k < n → w'.heap[k]? = w.heap[k]?) : Lib.Utf8Tabs 0 1 w' := by
  have hc : ∀ b o, b < n → w'.cell? ⟨b, o, none⟩ = w.cell? ⟨b, o, none⟩ := fun b o hb => World.cell?_of_block (w := w) (a := ⟨b, o, none⟩) (hk b hb)
  refine ⟨fun c hcc => ?_, fun i hi => ?_⟩
  · rw [hc _ _ (by omega)]; exact h.1 c hcc
  · obtain ⟨h1, h2⟩ := h.2 i hi
    exact ⟨by rw [hc _ _ (by omega)]; exact h1, by rw [hc _ _ (by omega)]; exact h2⟩
theorem globU_st {w w' : World} {n : Nat} (hv : 10 ≤ n) (h : GlobU w) (hk : ∀ k, k < n → w'.heap[k]? = w.heap[k]?) : GlobU w' := by
  exact ⟨tabs_st hv h.tabs hk⟩
theorem size_st {w w' : World} {n : Nat} (hsz : n ≤ w.heap.size) (hk : ∀ k, k < n → w'.heap[k]? = w.heap[k]?) : n ≤ w'.heap.size := by
  rcases Nat.eq_zero_or_pos n with h0 | h0
  · omega
  · have := hk (n - 1) (by omega)
    rw [Array.getElem?_eq_getElem (show n - 1 < w.heap.size by omega)] at this
    have := (Array.getElem?_eq_some_iff.1 this).1
    omega
def gl0 (n : Nat) : Sh.Glob where
  G := GlobN0 n
  n := n
  st := fun w w' h hk => ⟨globU_st h.hv h.u hk, size_st h.sz hk, h.hv⟩
  le := fun w h => h.sz
theorem sc_of {P : Program} {g g' : Sh.Glob} {f : Nat} {xs : List TV} {os : List MO} {y : TV} {os' : List MO} (hn : g'.n = g.n) (hG : ∀ w, g'.G w → g.G w) (h : SCalls P g f xs os y os') : SCalls P g' f xs os y os' :=
  ⟨h.1, fun w E vs h1 h2 h3 h4 h5 => h.2 w E vs (hG w h1) h2 (fun d b hb => hn ▸ h3 d b hb) h4 h5⟩
theorem relT_vals {w : World} {E : Env} {r : Sh.Rows} (vs : List Value) : RelT w E r (.tuple (vs.map fun v => .pv (.v v))) (.tuple vs.toArray) :=
  .tuple _ vs (by simp) (fun j c v hc hv => by simp [hv] at hc; subst hc; exact .pv (.v v))
theorem scalls_of {P : Program} {g : Sh.Glob} {f : Nat} {vs : List Value} {y : TV} {v : Value} (hb : hasBody P f) (hy : ∀ w E r, RelT w E r y v) (h : ∀ w, g.G w → Calls P f vs.toArray w fun e w' => e = .returned v ∧ Below w.heap.size w w') : SCalls P g f (vs.map fun v => .pv (.v v)) [] y [] := by
  refine ⟨hb, fun w E us hG hm hX hl hr => ?_⟩
  have hus : us = vs := by
    apply List.ext_getElem?
    intro j
    rcases Nat.lt_or_ge j us.length with hj | hj
    · have hj' : j < vs.length := by simpa [← hl] using hj
      have := hr j (.pv (.v vs[j])) us[j] (by simp [hj']) (List.getElem?_eq_getElem hj)
      rw [List.getElem?_eq_getElem hj, List.getElem?_eq_getElem hj']
      exact congrArg some (val_rel (y := vs[j]) this rfl)
    · rw [List.getElem?_eq_none hj, List.getElem?_eq_none (by simpa [← hl] using hj)]
  subst hus
  refine (h w hG).mono ?_
  rintro e w' ⟨rfl, hb⟩
  refine ⟨v, E, rfl, ?_, hy _ _ _, ⟨fun _ _ _ => rfl, fun _ _ _ _ => rfl, fun d e W n hd => by obtain ⟨j, _, hj⟩ := objR_inv hd; simp at hj⟩⟩
  exact MSim.ext (s := ⟨fun _ => none, objB [], objR [], fun _ => none⟩) hm hb E (fun _ _ h => h) (fun _ _ h => .inl h) (fun _ _ => ⟨rfl, rfl⟩) (fun _ _ _ => rfl) (fun _ _ => ⟨rfl, rfl⟩)

def in64 (x : Int) : Bool := decide (-9223372036854775808 ≤ x) && decide (x ≤ 9223372036854775807)
def I (x : Int) : TV := .pv (.v (.int .i64 x))
def S (s : ByteArray) : TV := .pv (.v (.string s))
def bl (s : ByteArray) : List UInt8 := s.data.toList
theorem str_bl (s : ByteArray) : str (bl s) = s := by cases s; simp [str, bl]
theorem body_of {f : Nat} (h : (match Tryz.prog.funcs[f]? with | some fn => fn.body.isSome && fn.name != "runtime.NumGoroutine" | none => false) = true) : hasBody Tryz.prog f := by
  split at h
  · rename_i fn hfn
    rw [Bool.and_eq_true] at h
    obtain ⟨b, hb⟩ := Option.isSome_iff_exists.1 h.1
    exact ⟨fn, b, hfn, hb, by simpa using h.2⟩
  · cases h
theorem in64_spec {x : Int} (h : in64 x = true) : -9223372036854775808 ≤ x ∧ x ≤ 9223372036854775807 := by
  unfold in64 at h
  simpa using h
def prim0 : Oracle := fun f xs os =>
  if Nat.beq f 160 then match xs, os with
    | [.pv (.v (.string s))], [] => if decide (s.size ≤ 9223372036854775807) then some (.pv (.v (.bool (Lib.validD s.data.toList))), []) else none
    | _, _ => none
  else if Nat.beq f 182 then match xs, os with
    | [.pv (.v (.string s))], [] => some (.tuple [.pv (.v (.int .i32 (Lib.decodeGo s).1)), I (Lib.decodeGo s).2], [])
    | _, _ => none
  else none
theorem prim0_sound (n : Nat) : SoundC Tryz.prog (gl0 n) prim0 := by
  intro f xs os y os' h
  unfold prim0 at h
  split at h
  · rename_i hf
    obtain rfl := Nat.eq_of_beq_eq_true hf
    split at h <;> try (cases h; done)
    rename_i s
    split at h <;> try (cases h; done)
    rename_i hx
    cases h
    exact scalls_of (vs := [.string s]) (body_of (by kernel_rfl)) (fun w E r => .pv (.v _)) (fun w hG => Tryz.utf8_ValidString s w (by simpa using hx) hG.u.tabs)
  split at h
  · rename_i hf
    obtain rfl := Nat.eq_of_beq_eq_true hf
    split at h <;> try (cases h; done)
    rename_i s
    cases h
    exact scalls_of (vs := [.string s]) (v := .tuple #[.int .i32 (Lib.decodeGo s).1, .int .i64 (Lib.decodeGo s).2]) (body_of (by kernel_rfl)) (fun w E r => relT_vals [_, _]) (fun w hG => Tryz.utf8_DecodeRuneInString s w hG.u.tabs)
  · cases h
end Go.Proofs.YtmiokadmddjccaaGreatDoor
end

section
/- What every card of this seat shares: the witness's world, a call that writes nothing old leaves each argument as it read. No statement of the program is proved here. -/
namespace Go.Proofs.YtmiokadmddjccaaGreatDoor
open Go.ChangeShapes Go.WideShapes Go.ChangeAt Go.RowKit Go.Lib Go.Mor Go.Deep
open Go.ChangeMaps (open_string shut_string)

theorem own : ownKnob Tryz.prog.godebug = none := by kernel_rfl
theorem acc_eq : Rows.laid_unicode_utf8_acceptRanges = Lib.acceptData := by kernel_rfl
theorem hv_of {W : World} (h : W.ShapedOpen Tryz.prog) : 10 ≤ W.heap.size := by
  obtain ⟨o, o0, h1, _⟩ := h.2 10 (of_decide_eq_true (by kernel_rfl)) (of_decide_eq_true (by kernel_rfl))
  exact Nat.le_of_lt (Array.getElem?_eq_some_iff.1 h1).1
theorem globU_of {W : World} {L : List (String × DataW Unit)} (hL : laidMet Tryz.prog L W) (h1 : ("unicode/utf8.first", Rows.laid_unicode_utf8_first) ∈ L) (h2 : ("unicode/utf8.acceptRanges", Rows.laid_unicode_utf8_acceptRanges) ∈ L) : GlobU W :=
  ⟨utf8Tabs_of_readsT (U8Types.of196 Tryz.laysValid) ⟨by kernel_rfl, by kernel_rfl, by kernel_rfl, by kernel_rfl, by kernel_rfl, by kernel_rfl, by kernel_rfl⟩ (by rw [← Pinned.utf8First_eq]; exact Lib.laidMet.reads hL h1) (by rw [← acc_eq]; exact Lib.laidMet.reads hL h2)⟩
def litsOf : DataW Unit → List Value
  | .agg l => l.map fun x => match x with | .lit y => y.value | _ => undef
  | _ => []
def textOf : DataW Unit → List UInt8
  | .iface _ (.ptr (.agg [.lit (.string l)])) => l
  | _ => []
noncomputable def laidWorld (os : Os) : World :=
  let N := (World.settled Tryz.prog os).heap.size
  let w0 := World.holding Tryz.prog os ⟨#[.cells #[.string ⟨(textOf Rows.laid_moraine_wire_errEnd).toArray⟩] 311, .cells #[.string ⟨(textOf Rows.laid_moraine_wire_errForm).toArray⟩] 311, .cells #[.string ⟨(textOf Rows.laid_strconv_ErrRange).toArray⟩] 311, .cells #[.string ⟨(textOf Rows.laid_strconv_ErrSyntax).toArray⟩] 311], #[], []⟩
  let put (h : Array Obj) (g : Nat) (cs : Array Value) : Array Obj := h.modify g fun
    | .cells _ t frozen => .cells cs t frozen
    | o => o
  let h := w0.heap
  let h := put h 8 (litsOf Rows.laid_math_bits_deBruijn32tab).toArray
  let h := put h 9 (litsOf Rows.laid_math_bits_deBruijn64tab).toArray
  let h := put h 5 (litsOf Rows.laid_internal_strconv_uint64pow10).toArray
  let h := put h 1 ((List.range 16).flatMap fun i => [Value.int .u8 (Lib.accLo i), Value.int .u8 (Lib.accHi i)]).toArray
  let h := put h 0 (Lib.firstTab.map fun z => Value.int .u8 z).toArray
  let h := put h 3 #[.iface 309 (.pointer (some ⟨N, 0, none⟩))]
  let h := put h 2 #[.iface 309 (.pointer (some ⟨N + 1, 0, none⟩))]
  let h := put h 7 #[.iface 309 (.pointer (some ⟨N + 2, 0, none⟩))]
  let h := put h 6 #[.iface 309 (.pointer (some ⟨N + 3, 0, none⟩))]
  { w0 with heap := h }
noncomputable abbrev N0 : Nat := (World.settled Tryz.prog default).heap.size
theorem laidOut : laidOutB Tryz.prog = true := by kernel_rfl
section
variable {H : Type} {enc : TypeId × Value → H}
theorem trodAll_stays {W W' : World} (hb : Below W.heap.size W W') {sp : Nat → Bool} : ∀ {ts : List TypeId} {vs : List Value} {ds : List (DataW H)} {ps : List MemPlace},
    (ts.all fun t => Tryz.prog.readableRec t && decide (t < Tryz.prog.types.size)) = true → DataW.TrodAll enc Tryz.prog W 0 (fun _ => true) true ts vs ds ps → (∀ x ∈ ps, x.block < W.heap.size) → (∀ x ∈ ps, sp x.block = true) →
    DataW.TrodAll enc Tryz.prog W' 0 sp true ts vs ds ps := by
  intro ts
  induction ts with
  | nil =>
    intro vs ds ps _ h _ _
    obtain ⟨rfl, rfl, rfl⟩ := trodAll_nil h
    exact trodAll_mk0
  | cons t ts ih =>
    intro vs ds ps hr h hlt hsp
    obtain ⟨v, vs', d, ds', p, q, rfl, rfl, rfl, h1, h2⟩ := trodAll_cons h
    simp only [List.all_cons, Bool.and_eq_true, decide_eq_true_iff] at hr
    refine trodAll_cons_mk (WideElems.Trod_stays laidOut hr.1.1 hr.1.2 h1 (fun x hx => hb.same (hlt x (by simp [hx]))) (fun x hx => hsp x (by simp [hx]))) (ih hr.2 h2 (fun x hx => hlt x (by simp [hx])) (fun x hx => hsp x (by simp [hx])))
theorem post_of_below {P : Program} {f : Func} {s : ChangeSpec} {apart fresh handsOn again : Bool} {W W' : World} {args : Array Value} {v : Value} {ds gs : List (DataW H)} {before pa pv : List MemPlace}
    (hW : DataW.Whole enc P f.params.toList s.vars apart W args.toList ds gs before)
    (hres : ∀ (b : Nat) (sp : Nat → Bool) (hd : Bool), DataW.TrodAll enc P W' b sp hd f.resultTypes.toList (v.resultList f.resultTypes.size) (s.fn H (ds ++ gs)).results [])
    (hargs : ∀ sp : Nat → Bool, (∀ p ∈ before, sp p.block = true) → DataW.TrodAll enc P W' 0 sp true f.params.toList args.toList (s.fn H (ds ++ gs)).args pa)
    (hvars : ∀ sp : Nat → Bool, (∀ p ∈ before, sp p.block = true) → DataW.TrodVars enc P W' sp s.vars (s.fn H (ds ++ gs)).vars pv)
    (hps : before = pa ++ pv) (hb : Below W.heap.size W W')
    (hok : ∀ (j : Nat) (t : TypeId) (r : Value), f.resultTypes[j]? = some t → (v.resultList f.resultTypes.size)[j]? = some r → Value.okWide P W' .any 0 t r) :
    s.post enc P f apart fresh handsOn again W args v W' := by
  have hlt : ∀ p ∈ before, p.block < W.heap.size := fun p hp => hW.lt p hp
  have hold : ∀ p ∈ before, (fun b => decide (b < W.heap.size)) p.block = true := fun p hp => by simpa using hlt p hp
  refine ⟨ds, gs, before, [], pa, pv, hW, hres _ _ _, hargs _ hold, hvars _ hold, World.keptBut_mono (fun p hp => ⟨hp, ?_⟩) (hb.frame (· ∈ before)), fun _ => ?_⟩
  · rw [hps, List.mem_append] at hp
    exact Or.inr hp
  · obtain ⟨_, _, _, _, _, hz, hn⟩ := hW
    refine ⟨hok, _, _, ([] ++ pa) ++ pv, ⟨[] ++ pa, pv, trodAll_append (hargs _ (fun _ _ => rfl)) (hres _ _ _), hvars _ (fun _ _ => rfl), rfl, ?_, ?_⟩, ?_⟩
    · intro b off hp
      have hin : MemPlace.cell b off ∈ before := by rw [hps]; simpa using hp
      rw [hb.frozen (hlt _ hin)]
      exact hz b off hin
    · intro ha
      have := hn ha
      rw [hps] at this
      simpa using this
    · intro p hp _
      rw [hps]
      simpa using hp

set_option maxRecDepth 100000 in
theorem lifts (f : FuncId) (fn : Func) (sp : ChangeSpec) {W W' : World} {args : Array Value} {ds gs : List (DataW H)} {before : List MemPlace} {fresh handsOn again : Bool}
    (hv : sp.vars = []) (hr : (fn.params.toList.all fun t => Tryz.prog.readableRec t && decide (t < Tryz.prog.types.size)) = true) (hres : fn.resultTypes = #[4])
    (hfn : sp.fn H (ds ++ []) = { results := [.lit (.bool true)], args := ds })
    (hW : DataW.Whole enc Tryz.prog fn.params.toList sp.vars false W args.toList ds gs before) (hb : Below W.heap.size W W') :
    sp.post enc Tryz.prog fn false fresh handsOn again W args (.bool true) W' := by
  have hW' := hW
  obtain ⟨p, q, hA, hV, rfl, _, _⟩ := hW
  rw [hv] at hV
  obtain ⟨rfl, rfl⟩ := trodVars_none hV
  have hlt : ∀ x ∈ p, x.block < W.heap.size := fun x hx => hW'.lt x (by simp [hx])
  refine post_of_below (pa := p) (pv := []) hW' (fun b sp' hd => ?_) (fun sp' hsp => ?_) (fun sp' hsp => ?_) rfl hb ?_
  · rw [hfn, hres]; exact trodAll_mk1 (shut_bool Tryz.underlying4 _)
  · rw [hfn]; exact trodAll_stays hb hr hA hlt (fun x hx => hsp x (by simp [hx]))
  · rw [hfn, hv]; rfl
  · exact ok_one hres rfl (okWide_bool_mk Tryz.underlying4 _)
end
end Go.Proofs.YtmiokadmddjccaaGreatDoor
end

section
/- Sh: walking code over data that is not known. No statement of the program is proved here. -/
namespace Go.Sh
open Go Go.RowKit
set_option maxHeartbeats 4000000

def noC : Oracle := fun _ _ _ => none
theorem noC_sound (P : Program) (g : Glob) : SoundC P g noC := fun f xs os y os' h => by cases h
def SOp.isCall : SOp → Bool | .call .. | .callv .. => true | _ => false
theorem eff_noC {P : Program} {C : Oracle} {dst : Option Nat} {o : SOp} (h : o.isCall = false) (s : FS) : eff P C dst o s = eff P noC dst o s := by
  cases o <;> first | rfl | cases h
theorem effG_noC {P : Program} {C : Oracle} {o : SOper} (h : o.op.isCall = false) (s : FS) : effG P C o s = effG P noC o s := by
  unfold effG effF
  rw [eff_noC h]
def stepW (P : Program) (o : SOper) (K : ES → Prop) (s : ES) : Option (TV × Upd) → Prop
  | some e => K (s.after o e)
  | none => False
section
variable {P : Program} {g : Glob} {o : SOper} {l : List SOper} {K : ES → Prop} {s : ES}
theorem opsW_nc (h : o.op.isCall = false) : opsW P g (o :: l) K s ↔ stepW P o (opsW P g l K) s (effG P noC o s.fs) := by
  constructor
  · rintro ⟨C, hC, e, he, hk⟩
    rw [effG_noC h] at he
    rw [he]; exact hk
  · intro hk
    cases he : effG P noC o s.fs with
    | none => rw [he] at hk; exact hk.elim
    | some e => rw [he] at hk; exact ⟨noC, noC_sound P g, e, he, hk⟩
theorem opsW_nil : opsW P g [] K s ↔ K s := Iff.rfl
theorem regW_one {n : List Nat} {kill : List Nat} : regW P g [(n, l)] kill K s ↔ opsW P g l (fun s' => K (s'.kill kill)) (s.fgt n) := by simp [regW]
theorem regW_1 {n : List Nat} {kill : List Nat} {r : List (List Nat × List SOper)} (h : opsW P g l (fun s' => K (s'.kill kill)) (s.fgt n)) : regW P g ((n, l) :: r) kill K s := ⟨(n, l), List.mem_cons_self .., h⟩
theorem regW_2 {n n0 : List Nat} {l0 : List SOper} {kill : List Nat} {r : List (List Nat × List SOper)} (h : opsW P g l (fun s' => K (s'.kill kill)) (s.fgt n)) : regW P g ((n0, l0) :: (n, l) :: r) kill K s := ⟨(n, l), List.mem_cons_of_mem _ (List.mem_cons_self ..), h⟩
def callK (P : Program) (g : Glob) (k f m : Nat) (s : FS) (K : TV → Upd → Prop) : Option (List TV) → Prop
  | none => False
  | some args => ∃ I, I = handI s m args ∧ ∃ xs' os, seqO (TV.ren2 (rhoIn I)) args = some xs' ∧ seqO (fun d => (s.mo d).bind (MO.ren (rhoIn I))) I = some os ∧
      ∃ y os', SCalls P g f xs' os y os' ∧ moOk os os' = true ∧ ∃ y' us, y.ren3 (rhoOut I k) = some y' ∧ outs (rhoOut I k) 0 os' = some us ∧ K y' (.mem us)
open Classical in
noncomputable def theC (f : Nat) (xs : List TV) (os : List MO) (r : TV × List MO) : Oracle := fun f' xs' os' => if f' = f ∧ xs' = xs ∧ os' = os then some r else none
theorem theC_sound {f : Nat} {xs : List TV} {os os' : List MO} {y : TV} (h : SCalls P g f xs os y os') : SoundC P g (theC f xs os (y, os')) := by
  intro f' xs' os2 y' os3 h'
  unfold theC at h'
  split at h'
  · rename_i hc
    obtain ⟨rfl, rfl, rfl⟩ := hc
    cases h'; exact h
  · cases h'
theorem callEff_of {k f m : Nat} {s : FS} {K : TV → Upd → Prop} {args : List TV} (h : callK P g k f m s K (some args)) : ∃ C, SoundC P g C ∧ ∃ y' u, callEff C s k f m args = some (y', u) ∧ K y' u := by
  obtain ⟨I, rfl, xs', os, h1, h2, y, os', hc, hmo, y', us, h3, h4, hk⟩ := h
  refine ⟨theC f xs' os (y, os'), theC_sound hc, y', .mem us, ?_, hk⟩
  unfold callEff
  unfold handI at h1 h2 h3 h4
  simp only []
  rw [h1, h2]
  simp only [theC, and_self, if_true, hmo, h3, h4]
theorem opsW_call {dst : Option Nat} {f m : Nat} {xs : List Arg} (h : callK P g (dstId dst) f m s.fs (fun y u => opsW P g l K (s.after ⟨dst, none, none, .call f m xs⟩ (y, u))) (seqO (fun x : Arg => x.get s.fs) xs)) : opsW P g (⟨dst, none, none, .call f m xs⟩ :: l) K s := by
  cases hx : seqO (fun x : Arg => x.get s.fs) xs with
  | none => rw [hx] at h; exact h.elim
  | some args =>
    rw [hx] at h
    obtain ⟨C, hC, y', u, he, hk⟩ := callEff_of h
    exact ⟨C, hC, (y', u), by simp only [effG, effF, footOk, eff, hx, Option.bind_some, he], hk⟩
theorem opsW_callg {dst : Option Nat} {f m gs : Nat} {b : Bool} {xs : List Arg} (hg : s.fs.t gs = some (.pv (.v (.bool b)))) (h : callK P g (dstId dst) f m s.fs (fun y u => opsW P g l K (s.after ⟨dst, some (gs, b), none, .call f m xs⟩ (y, u))) (seqO (fun x : Arg => x.get s.fs) xs)) : opsW P g (⟨dst, some (gs, b), none, .call f m xs⟩ :: l) K s := by
  cases hx : seqO (fun x : Arg => x.get s.fs) xs with
  | none => rw [hx] at h; exact h.elim
  | some args =>
    rw [hx] at h
    obtain ⟨C, hC, y', u, he, hk⟩ := callEff_of h
    exact ⟨C, hC, (y', u), by simp only [effG, hg, beq_self_eq_true, if_true, effF, footOk, eff, hx, Option.bind_some, he], hk⟩
theorem opsW_skip {dst : Option Nat} {gs : Nat} {b : Bool} {op : SOp} {fp : Option Nat} (hg : s.fs.t gs = some (.pv (.v (.bool (!b))))) (h : opsW P g l K (s.after ⟨dst, some (gs, b), fp, op⟩ (.pv (.v undef), .no))) : opsW P g (⟨dst, some (gs, b), fp, op⟩ :: l) K s :=
  ⟨noC, noC_sound P g, _, by simp only [effG, hg]; cases b <;> simp, h⟩
def callvK (P : Program) (g : Glob) (k m : Nat) (s : FS) (K : TV → Upd → Prop) : Option (Nat × List TV × List TV) → Option (List TV) → Prop
  | some (f, fa, fb), some vs => callK P g k f m s K (some (fa ++ vs ++ fb))
  | _, _ => False
theorem opsW_callv {dst : Option Nat} {m : Nat} {x : Arg} {xs : List Arg} (h : callvK P g (dstId dst) m s.fs (fun y u => opsW P g l K (s.after ⟨dst, none, none, .callv x m xs⟩ (y, u))) ((x.get s.fs).bind TV.callee) (seqO (fun x : Arg => x.get s.fs) xs)) : opsW P g (⟨dst, none, none, .callv x m xs⟩ :: l) K s := by
  cases hc : (x.get s.fs).bind TV.callee with
  | none => rw [hc] at h; exact h.elim
  | some c =>
    obtain ⟨f, fa, fb⟩ := c
    cases hx : seqO (fun x : Arg => x.get s.fs) xs with
    | none => rw [hc, hx] at h; exact h.elim
    | some vs =>
      rw [hc, hx] at h
      have h' : callK P g (dstId dst) f m s.fs (fun y u => opsW P g l K (s.after ⟨dst, none, none, .callv x m xs⟩ (y, u))) (some (fa ++ vs ++ fb)) := h
      obtain ⟨C, hC, y', u, he, hk⟩ := callEff_of h'
      exact ⟨C, hC, (y', u), by simp only [effG, effF, footOk, eff, hc, hx, he], hk⟩
end
def exitR (res : List SRes) (keep : Bool) (n : Nat) (s : ES) : Option (TV × List MO) := exitF ⟨0, .skip, res, keep⟩ n s
theorem exitF_R (F : SFunc) (n : Nat) (s : ES) : exitF F n s = exitR F.res F.keep n s := rfl
def PostR (res : List SRes) (keep : Bool) (n : Nat) (y : TV) (os' : List MO) : SExit → ES → Prop
  | .ret, s | .normal, s => exitR res keep n s = some (y, os')
  | .exit _, _ | .pan _, _ => False
theorem call_of {P : Program} {g : Glob} {f : Nat} {H : Nat → Option Nat → Nat} {Fp : Nat → List (Nat → Option Nat)} {K : Nat → List Nat} {keep : Bool} {F : SFunc} (hmix : P.follows .mixedOrders = true) (hF : transFunc P f H Fp K keep = some F) {xs : List TV} {os os' : List MO} {y : TV} (hn : Nat.ble xs.length F.N = true) (hos : Nat.ble os.length 1000 = true) (hmo : moOk os os' = true)
    (h : swp P g F.code (PostR F.res F.keep os.length y os') (startE xs os)) : SCalls P g f xs os y os' :=
  call_of_swp hmix hF (Nat.le_of_ble_eq_true hn) (Nat.le_of_ble_eq_true hos) hmo (swp_mono h fun e s he => by
    cases e with
    | normal => exact ⟨.inr rfl, by rw [exitF_R]; exact he⟩
    | ret => exact ⟨.inl rfl, by rw [exitF_R]; exact he⟩
    | exit id => exact he.elim
    | pan z => exact he.elim)

def ansW (y : TV) : Option TV → Prop
  | some y0 => y0.ids3 = [] ∧ y0.ren3 (rhoIn []) = some y
  | none => False
def Post0 (res : List SRes) (y : TV) : SExit → ES → Prop
  | .ret, s | .normal, s => ansW y (resT s.fs res)
  | .exit _, _ | .pan _, _ => False
theorem call_of0 {P : Program} {g : Glob} {f : Nat} {H : Nat → Option Nat → Nat} {Fp : Nat → List (Nat → Option Nat)} {K : Nat → List Nat} {keep : Bool} {F : SFunc} (hmix : P.follows .mixedOrders = true) (hF : transFunc P f H Fp K keep = some F) {xs : List TV} {y : TV} (hn : Nat.ble xs.length F.N = true)
    (h : swp P g F.code (Post0 F.res y) (startE xs [])) : SCalls P g f xs [] y [] := by
  have key : ∀ s, ansW y (resT s.fs F.res) → exitR F.res F.keep 0 s = some (y, []) := by
    intro s he
    cases hr : resT s.fs F.res with
    | none => rw [hr] at he; exact he.elim
    | some y0 =>
      rw [hr] at he
      obtain ⟨h1, h2⟩ := he
      simp [exitR, exitF, hr, idsFrom, h1, reach, h2, seqO]
  refine call_of hmix hF hn rfl rfl (swp_mono h fun e s he => ?_)
  cases e with
  | normal => exact key s he
  | ret => exact key s he
  | exit id => exact he.elim
  | pan z => exact he.elim

section
variable (P : Program) (t : TypeId) (k : IntKind) (a b : Int) (x y : ByteArray)
def binS (op : BinOp) (t : TypeId) (vx vy : Value) : Sem Value := do eqGuard op t (.const vx) (.const vy) vx vy; binOp op t vx vy
theorem bin_lss : scal P (do eqGuard .lss t (.const (.int k a)) (.const (.int k b)) (.int k a) (.int k b); binOp .lss t (.int k a) (.int k b)) = some (.pv (.v (.bool (decide (a < b)))), .no) := by simp [scal, eqGuard, binOp, Op.intCmp]; rfl
theorem bin_gtr : scal P (do eqGuard .gtr t (.const (.int k a)) (.const (.int k b)) (.int k a) (.int k b); binOp .gtr t (.int k a) (.int k b)) = some (.pv (.v (.bool (decide (b < a)))), .no) := by simp [scal, eqGuard, binOp, Op.intCmp]; rfl
theorem bin_leq : scal P (do eqGuard .leq t (.const (.int k a)) (.const (.int k b)) (.int k a) (.int k b); binOp .leq t (.int k a) (.int k b)) = some (.pv (.v (.bool (decide (a ≤ b)))), .no) := by simp [scal, eqGuard, binOp, Op.intCmp]; rfl
theorem bin_geq : scal P (do eqGuard .geq t (.const (.int k a)) (.const (.int k b)) (.int k a) (.int k b); binOp .geq t (.int k a) (.int k b)) = some (.pv (.v (.bool (decide (b ≤ a)))), .no) := by simp [scal, eqGuard, binOp, Op.intCmp]; rfl
theorem bin_eql : scal P (do eqGuard .eql t (.const (.int k a)) (.const (.int k b)) (.int k a) (.int k b); binOp .eql t (.int k a) (.int k b)) = some (.pv (.v (.bool (decide (a = b)))), .no) := by
  have : (a == b) = decide (a = b) := by rfl
  simp [scal, eqGuard, binOp, Op.intCmp]; rfl
theorem bin_neq : scal P (do eqGuard .neq t (.const (.int k a)) (.const (.int k b)) (.int k a) (.int k b); binOp .neq t (.int k a) (.int k b)) = some (.pv (.v (.bool (!decide (a = b)))), .no) := by simp [scal, eqGuard, binOp, Op.intCmp]; rfl
theorem bin_add : scal P (do eqGuard .add t (.const (.int k a)) (.const (.int k b)) (.int k a) (.int k b); binOp .add t (.int k a) (.int k b)) = some (.pv (.v (.int k (k.wrap (a + b)))), .no) := by simp [scal, eqGuard, binOp, Op.intArith]; rfl
theorem bin_sub : scal P (do eqGuard .sub t (.const (.int k a)) (.const (.int k b)) (.int k a) (.int k b); binOp .sub t (.int k a) (.int k b)) = some (.pv (.v (.int k (k.wrap (a - b)))), .no) := by simp [scal, eqGuard, binOp, Op.intArith]; rfl
theorem bin_mul : scal P (do eqGuard .mul t (.const (.int k a)) (.const (.int k b)) (.int k a) (.int k b); binOp .mul t (.int k a) (.int k b)) = some (.pv (.v (.int k (k.wrap (a * b)))), .no) := by simp [scal, eqGuard, binOp, Op.intArith]; rfl
theorem bin_quo (hb : b ≠ 0) : scal P (do eqGuard .quo t (.const (.int k a)) (.const (.int k b)) (.int k a) (.int k b); binOp .quo t (.int k a) (.int k b)) = some (.pv (.v (.int k (k.wrap (a.tdiv b)))), .no) := by simp [scal, eqGuard, binOp, Op.intDiv, hb]; rfl
theorem bin_rem (hb : b ≠ 0) : scal P (do eqGuard .rem t (.const (.int k a)) (.const (.int k b)) (.int k a) (.int k b); binOp .rem t (.int k a) (.int k b)) = some (.pv (.v (.int k (a.tmod b))), .no) := by simp [scal, eqGuard, binOp, Op.intDiv, hb]; rfl
theorem sbin_eql : scal P (do eqGuard .eql t (.const (.string x)) (.const (.string y)) (.string x) (.string y); binOp .eql t (.string x) (.string y)) = some (.pv (.v (.bool (x.toList == y.toList))), .no) := by simp [scal, eqGuard, binOp, Op.stringOp]; rfl
theorem sbin_neq : scal P (do eqGuard .neq t (.const (.string x)) (.const (.string y)) (.string x) (.string y); binOp .neq t (.string x) (.string y)) = some (.pv (.v (.bool (!(x.toList == y.toList)))), .no) := by simp [scal, eqGuard, binOp, Op.stringOp]; rfl
theorem sbin_lss : scal P (do eqGuard .lss t (.const (.string x)) (.const (.string y)) (.string x) (.string y); binOp .lss t (.string x) (.string y)) = some (.pv (.v (.bool (Op.bytesLess x.toList y.toList))), .no) := by simp [scal, eqGuard, binOp, Op.stringOp]; rfl
theorem sbin_gtr : scal P (do eqGuard .gtr t (.const (.string x)) (.const (.string y)) (.string x) (.string y); binOp .gtr t (.string x) (.string y)) = some (.pv (.v (.bool (!(Op.bytesLess x.toList y.toList || x.toList == y.toList)))), .no) := by simp [scal, eqGuard, binOp, Op.stringOp]; rfl
theorem sbin_add (h : x.size + y.size ≤ 9223372036854775807) : scal P (do eqGuard .add t (.const (.string x)) (.const (.string y)) (.string x) (.string y); binOp .add t (.string x) (.string y)) = some (.pv (.v (.string (x ++ y))), .no) := by
  have hm : IntKind.i64.max = 9223372036854775807 := by rfl
  have h' : ¬ (((x.size + y.size : Nat) : Int) > IntKind.i64.max) := by rw [hm]; omega
  simp only [scal, eqGuard, binOp, Op.stringOp, h', if_false]; rfl
theorem un_neg : scal P (Op.unary .neg (.int k a)) = some (.pv (.v (.int k (k.wrap (0 - a)))), .no) := rfl
theorem un_not (q : Bool) : scal P (Op.unary .not (.bool q)) = some (.pv (.v (.bool (!q))), .no) := rfl
end
theorem nbeq (a b : Nat) : Nat.beq a b = (a == b) := by
  cases h : Nat.beq a b with
  | true => simp [Nat.eq_of_beq_eq_true h]
  | false => have : a ≠ b := by rintro rfl; rw [Nat.beq_refl] at h; cases h
             simp [this]
theorem nble (a b : Nat) : Nat.ble a b = decide (a ≤ b) := by
  cases h : Nat.ble a b with
  | true => have := Nat.le_of_ble_eq_true h; simp [this]
  | false => have : ¬ a ≤ b := fun hl => by rw [Nat.ble_eq_true_of_le hl] at h; cases h
             simp [this]
theorem nblt (a b : Nat) : Nat.blt a b = decide (a < b) := by unfold Nat.blt; rw [nble]; rfl
theorem bFT : (false == true) = false := rfl
theorem bTF : (true == false) = false := rfl
theorem decide_T {p : Prop} [Decidable p] (h : p) : decide p = true := decide_eq_true h
theorem decide_F {p : Prop} [Decidable p] (h : ¬ p) : decide p = false := decide_eq_false h
theorem condW_iff {c : Arg} {s : ES} {A B : Prop} {t : Bool} (h : c.get s.fs = some (.pv (.v (.bool t)))) : condW c s A B ↔ (if t then A else B) := by
  constructor
  · rintro ⟨t', h1, h2⟩
    rw [h] at h1; cases h1; exact h2
  · exact fun h2 => ⟨t, h, h2⟩
theorem wrapL (n : Nat) (h : n ≤ 9223372036854775807 := by decide) : IntKind.i64.wrap (OfNat.ofNat n) = (OfNat.ofNat n : Int) := by
  have : (OfNat.ofNat n : Int) = (n : Int) := rfl
  rw [this, IntKind.wrap_i64]; omega
theorem wrap64 {x : Int} (h0 : -9223372036854775808 ≤ x) (h1 : x ≤ 9223372036854775807) : IntKind.i64.wrap x = x := by rw [IntKind.wrap_i64]; omega

def regE1 (P : Program) (n : List Nat) (l : List SOper) (kill : List Nat) (s : ES) : Option ES := (runE P noC l (s.fgt n)).map fun s' => s'.kill kill
section
variable {P : Program} {g : Glob} {a b c : SCode} {Q : SExit → ES → Prop} {s s' : ES} {n kill : List Nat} {l : List SOper} {r : List (List Nat × List SOper)}
theorem reg_K {K : ES → Prop} (h : regE1 P n l kill s = some s') (hk : K s') : opsW P g l (fun s' => K (s'.kill kill)) (s.fgt n) := by
  obtain ⟨s1, h1, rfl⟩ := Option.map_eq_some_iff.1 h
  exact opsW_of_runE (noC_sound P g) h1 hk
theorem w_seq (h : swp P g a (thenW (swp P g b Q) Q) s) : swp P g (.seq a b) Q s := h
theorem w_assoc (h : swp P g (.seq a (.seq b c)) Q s) : swp P g (.seq (.seq a b) c) Q s := by
  refine swp_mono (c := a) h (fun e s he => ?_)
  cases e with
  | normal =>
    refine swp_mono (c := b) he (fun e s he => ?_)
    cases e with
    | normal => exact he
    | exit id => exact he
    | ret => exact he
    | pan z => exact he
  | exit id => exact he
  | ret => exact he
  | pan z => exact he
theorem w_reg (h : regE1 P n l kill s = some s') (hk : swp P g b Q s') : swp P g (.seq (.reg ((n, l) :: r) kill) b) Q s := regW_1 (reg_K h hk)
theorem w_reg2 {n0 : List Nat} {l0 : List SOper} (h : regE1 P n l kill s = some s') (hk : swp P g b Q s') : swp P g (.seq (.reg ((n0, l0) :: (n, l) :: r) kill) b) Q s := regW_2 (reg_K h hk)
theorem w_ops (hk : opsW P g l (fun s' => swp P g b Q (s'.kill kill)) (s.fgt n)) : swp P g (.seq (.reg ((n, l) :: r) kill) b) Q s := regW_1 hk
theorem w_regE (h : regE1 P n l kill s = some s') (hk : Q .normal s') : swp P g (.reg ((n, l) :: r) kill) Q s := regW_1 (reg_K h hk)
theorem w_opsE (hk : opsW P g l (fun s' => Q .normal (s'.kill kill)) (s.fgt n)) : swp P g (.reg ((n, l) :: r) kill) Q s := regW_1 hk
theorem w_skip (h : swp P g b Q s) : swp P g (.seq .skip b) Q s := h
theorem w_cond {x : Arg} {t : Bool} (hx : x.get s.fs = some (.pv (.v (.bool t)))) (h1 : t = true → swp P g (.seq a c) Q s) (h2 : t = false → swp P g (.seq b c) Q s) : swp P g (.seq (.cond x a b) c) Q s := by
  refine ⟨t, hx, ?_⟩
  cases t with
  | true => exact h1 rfl
  | false => exact h2 rfl
theorem w_condE {x : Arg} {t : Bool} (hx : x.get s.fs = some (.pv (.v (.bool t)))) (h1 : t = true → swp P g a Q s) (h2 : t = false → swp P g b Q s) : swp P g (.cond x a b) Q s := by
  refine ⟨t, hx, ?_⟩
  cases t with
  | true => exact h1 rfl
  | false => exact h2 rfl
theorem w_condT {x : Arg} (hx : x.get s.fs = some (.pv (.v (.bool true)))) (h1 : swp P g (.seq a c) Q s) : swp P g (.seq (.cond x a b) c) Q s := w_cond hx (fun _ => h1) (fun h => by cases h)
theorem w_condF {x : Arg} (hx : x.get s.fs = some (.pv (.v (.bool false)))) (h1 : swp P g (.seq b c) Q s) : swp P g (.seq (.cond x a b) c) Q s := w_cond hx (fun h => by cases h) (fun _ => h1)
theorem w_condTE {x : Arg} (hx : x.get s.fs = some (.pv (.v (.bool true)))) (h1 : swp P g a Q s) : swp P g (.cond x a b) Q s := w_condE hx (fun _ => h1) (fun h => by cases h)
theorem w_condFE {x : Arg} (hx : x.get s.fs = some (.pv (.v (.bool false)))) (h1 : swp P g b Q s) : swp P g (.cond x a b) Q s := w_condE hx (fun h => by cases h) (fun _ => h1)
theorem w_retE (h : Q .ret s) : swp P g .ret Q s := h
theorem w_skipE (h : Q .normal s) : swp P g .skip Q s := h
theorem w_exitE {id : Nat} (h : Q (.exit id) s) : swp P g (.exit id) Q s := h
theorem q_then {K : ES → Prop} (h : K s) : thenW K Q .normal s := h
theorem q_blockN {id : Nat} (h : Q .normal s) : blockW id Q .normal s := h
theorem q_blockR {id : Nat} (h : Q .ret s) : blockW id Q .ret s := h
theorem q_thenR {K : ES → Prop} (h : Q .ret s) : thenW K Q .ret s := h
theorem q_thenX {K : ES → Prop} {id : Nat} (h : Q (.exit id) s) : thenW K Q (.exit id) s := h
theorem q_blockX {id : Nat} (h : Q .normal s) : blockW id Q (.exit id) s := by simp only [blockW, if_true]; exact h
theorem q_blockY {id j : Nat} (hj : Nat.beq j id = false) (h : Q (.exit j) s) : blockW id Q (.exit j) s := by
  simp only [blockW]; rw [if_neg (fun e => by rw [e, Nat.beq_refl] at hj; cases hj)]; exact h
theorem w_ret (h : Q .ret s) : swp P g (.seq .ret c) Q s := h
theorem w_exit {id : Nat} (h : Q (.exit id) s) : swp P g (.seq (.exit id) c) Q s := h
theorem w_block {id : Nat} (h : swp P g a (blockW id (thenW (swp P g c Q) Q)) s) : swp P g (.seq (.block id a) c) Q s := h
theorem w_blockE {id : Nat} (h : swp P g a (blockW id Q) s) : swp P g (.block id a) Q s := h
theorem w_loop {σ : Type} (st : σ → ES) (μ : σ → Nat) (x0 : σ) (h0 : (st x0).Le s) (hr : ∀ x, swp P g a (thenW (fun s' => ∃ y, μ y < μ x ∧ (st y).Le s') (thenW (swp P g c Q) Q)) (st x)) : swp P g (.seq (.loop a) c) Q s := by
  refine ⟨fun n s => ∃ x, μ x = n ∧ s = st x, μ x0, ⟨st x0, h0.lw, x0, rfl, rfl⟩, ?_⟩
  rintro n s ⟨x, rfl, rfl⟩
  refine swp_mono (hr x) (fun e s he => ?_)
  cases e with
  | normal => obtain ⟨y, h1, h2⟩ := he; exact ⟨μ y, h1, st y, h2.lw, y, rfl, rfl⟩
  | exit id => exact he
  | ret => exact he
  | pan z => exact he
theorem w_loopE {σ : Type} (st : σ → ES) (μ : σ → Nat) (x0 : σ) (h0 : (st x0).Le s) (hr : ∀ x, swp P g a (thenW (fun s' => ∃ y, μ y < μ x ∧ (st y).Le s') Q) (st x)) : swp P g (.loop a) Q s := by
  refine ⟨fun n s => ∃ x, μ x = n ∧ s = st x, μ x0, ⟨st x0, h0.lw, x0, rfl, rfl⟩, ?_⟩
  rintro n s ⟨x, rfl, rfl⟩
  refine swp_mono (hr x) (fun e s he => ?_)
  cases e with
  | normal => obtain ⟨y, h1, h2⟩ := he; exact ⟨μ y, h1, st y, h2.lw, y, rfl, rfl⟩
  | exit id => exact he
  | ret => exact he
  | pan z => exact he
def unrollW (P : Program) (g : Glob) (a : SCode) (Q : SExit → ES → Prop) : Nat → ES → Prop
  | 0, _ => False
  | k + 1, s => swp P g a (thenW (unrollW P g a Q k) Q) s
theorem w_unr {k : Nat} (h : swp P g a (thenW (unrollW P g a Q k) Q) s) : unrollW P g a Q (k + 1) s := h
theorem w_unrollE (k : Nat) (h : unrollW P g a Q k s) : swp P g (.loop a) Q s := by
  refine ⟨fun n s => unrollW P g a Q n s, k, ⟨s, .refl s, h⟩, fun n s h => ?_⟩
  cases n with
  | zero => exact h.elim
  | succ n =>
    refine swp_mono (c := a) h (fun e s he => ?_)
    cases e with
    | normal => exact ⟨n, Nat.lt_succ_self n, s, .refl s, he⟩
    | exit id => exact he
    | ret => exact he
    | pan z => exact he
theorem w_unroll (k : Nat) (h : unrollW P g a (thenW (swp P g c Q) Q) k s) : swp P g (.seq (.loop a) c) Q s := w_unrollE k h
theorem w_call {K : ES → Prop} {dst : Option Nat} {f m : Nat} {xs : List Arg} {args xs' : List TV} {I : List Nat} {os os' : List MO} {y y' : TV} {us : List (Nat × MO)} (hx : seqO (fun x : Arg => x.get s.fs) xs = some args) (hI : handI s.fs m args = I) (h1 : seqO (TV.ren2 (rhoIn I)) args = some xs')
    (h2 : seqO (fun d => (s.fs.mo d).bind (MO.ren (rhoIn I))) I = some os) (hc : SCalls P g f xs' os y os') (hmo : moOk os os' = true) (h3 : y.ren3 (rhoOut I (dstId dst)) = some y') (h4 : outs (rhoOut I (dstId dst)) 0 os' = some us) (hs : s.after ⟨dst, none, none, .call f m xs⟩ (y', .mem us) = s') (hk : opsW P g l K s') :
    opsW P g (⟨dst, none, none, .call f m xs⟩ :: l) K s := by
  refine opsW_call ?_
  rw [hx]
  exact ⟨I, hI.symm, xs', os, h1, h2, y, os', hc, hmo, y', us, h3, h4, by rw [← hs] at hk; exact hk⟩
theorem w_op {o : SOper} {K : ES → Prop} {e : TV × Upd} (hc : o.op.isCall = false) (he : effG P noC o s.fs = some e) (hs : s.after o e = s') (hk : opsW P g l K s') : opsW P g (o :: l) K s := by
  rw [opsW_nc hc, he]; rw [← hs] at hk; exact hk
theorem w_done {K : ES → Prop} (h : K s) : opsW P g [] K s := h
end
end Go.Sh
end

section
/- Sh: guarded calls in a walk; what is known may be made less. No statement of the program is proved here. -/
namespace Go.Sh
open Go Go.RowKit
section
variable {P : Program} {g : Glob} {b : SCode} {Q : SExit → ES → Prop} {s s' : ES} {n kill : List Nat} {l : List SOper} {r : List (List Nat × List SOper)}
theorem w_callg {K : ES → Prop} {dst : Option Nat} {f m gs : Nat} {t : Bool} {xs : List Arg} {args xs' : List TV} {I : List Nat} {os os' : List MO} {y y' : TV} {us : List (Nat × MO)} (hg : s.fs.t gs = some (.pv (.v (.bool t)))) (hx : seqO (fun x : Arg => x.get s.fs) xs = some args) (hI : handI s.fs m args = I) (h1 : seqO (TV.ren2 (rhoIn I)) args = some xs')
    (h2 : seqO (fun d => (s.fs.mo d).bind (MO.ren (rhoIn I))) I = some os) (hc : SCalls P g f xs' os y os') (hmo : moOk os os' = true) (h3 : y.ren3 (rhoOut I (dstId dst)) = some y') (h4 : outs (rhoOut I (dstId dst)) 0 os' = some us) (hs : s.after ⟨dst, some (gs, t), none, .call f m xs⟩ (y', .mem us) = s') (hk : opsW P g l K s') :
    opsW P g (⟨dst, some (gs, t), none, .call f m xs⟩ :: l) K s := by
  refine opsW_callg hg ?_
  rw [hx]
  exact ⟨I, hI.symm, xs', os, h1, h2, y, os', hc, hmo, y', us, h3, h4, by rw [← hs] at hk; exact hk⟩
theorem w_skipc {K : ES → Prop} {dst : Option Nat} {gs f m : Nat} {t : Bool} {xs : List Arg} (hg : s.fs.t gs = some (.pv (.v (.bool (!t))))) (hs : s.after ⟨dst, some (gs, t), none, .call f m xs⟩ (.pv (.v undef), .no) = s') (hk : opsW P g l K s') : opsW P g (⟨dst, some (gs, t), none, .call f m xs⟩ :: l) K s :=
  opsW_skip hg (by rw [hs]; exact hk)
theorem w_ops2 {n0 : List Nat} {l0 : List SOper} (hk : opsW P g l (fun s' => swp P g b Q (s'.kill kill)) (s.fgt n)) : swp P g (.seq (.reg ((n0, l0) :: (n, l) :: r) kill) b) Q s := regW_2 hk
theorem w_ops2E {n0 : List Nat} {l0 : List SOper} (hk : opsW P g l (fun s' => Q .normal (s'.kill kill)) (s.fgt n)) : swp P g (.reg ((n0, l0) :: (n, l) :: r) kill) Q s := regW_2 hk
end
def Wk (x y : TV) : Prop := ∀ w E r v, RelT w E r x v → RelT w E r y v
theorem Wk.refl (x : TV) : Wk x x := fun _ _ _ _ h => h
theorem Wk.trans {x y z : TV} (h : Wk x y) (h' : Wk y z) : Wk x z := fun w E r v hr => h' w E r v (h w E r v hr)
theorem wk_nil (W : Nat) : Wk (.pv (.v (.slice none 0 0))) (.pv (.sl W [])) := by
  intro w E r v h
  cases h with
  | pv h =>
    cases h with
    | v x => exact .pv (.sl W [] 0 0 0 none (fun _ _ => undef) (by simp) (by simp) (by simp) (by simp) (by simp) (by simp))
theorem wk_agg {cs ds : List TV} (hl : cs.length = ds.length) (h : ∀ (j : Nat) c d, cs[j]? = some c → ds[j]? = some d → Wk c d) : Wk (.agg cs) (.agg ds) := by
  intro w E r v hr
  cases hr with
  | agg cs vs hl' hv ho =>
    refine .agg ds vs (hl ▸ hl') (fun j d v hd hv' => ?_) ho
    have hj : j < cs.length := by
      rcases Nat.lt_or_ge j ds.length with h | h
      · omega
      · rw [List.getElem?_eq_none h] at hd; cases hd
    exact h j _ d (List.getElem?_eq_getElem hj) hd w E r v (hv j _ v (List.getElem?_eq_getElem hj) hv')
theorem SCalls.out {P : Program} {g : Glob} {f : Nat} {xs : List TV} {os os' : List MO} {y y' : TV} (h : SCalls P g f xs os y os') (hw : Wk y y') : SCalls P g f xs os y' os' :=
  ⟨h.1, fun w E vs hG hm hX hl hr => (h.2 w E vs hG hm hX hl hr).mono (by
    rintro e w' ⟨v, E', h1, h2, h3, h4⟩
    exact ⟨v, E', h1, h2, hw _ _ _ _ h3, h4⟩)⟩
theorem SCalls.inp {P : Program} {g : Glob} {f : Nat} {xs xs' : List TV} {os os' : List MO} {y : TV} (h : SCalls P g f xs' os y os') (hl : xs.length = xs'.length) (hw : ∀ (j : Nat) c d, xs[j]? = some c → xs'[j]? = some d → Wk c d) : SCalls P g f xs os y os' :=
  ⟨h.1, fun w E vs hG hm hX hl' hr => h.2 w E vs hG hm hX (hl ▸ hl') (fun j d v hd hv => by
    have hj : j < xs.length := by
      rcases Nat.lt_or_ge j xs'.length with h | h
      · omega
      · rw [List.getElem?_eq_none h] at hd; cases hd
    exact hw j _ d (List.getElem?_eq_getElem hj) hd w E _ v (hr j _ v (List.getElem?_eq_getElem hj) hv))⟩
end Go.Sh
namespace Go.Sh
open Go Go.RowKit
theorem reach_none {s : FS} : ∀ (f : Nat) (l : List Nat), (∀ d ∈ l, s.b d = none) → reach s false f l [] = []
  | 0, _, _ => by simp [reach]
  | _ + 1, [], _ => by simp [reach]
  | f + 1, d :: l, h => by
    have h1 := h d (by simp)
    simp only [reach, pos, h1]
    have ih := reach_none f l (fun e he => h e (by simp [he]))
    cases s.r d <;> exact ih
def ansW1 (s : ES) (y : TV) : Option TV → Prop
  | some y0 => (y0.ids3.all fun d => (s.fs.b d).isNone) = true ∧ y0.ren3 (rhoIn []) = some y
  | none => False
def Post1 (res : List SRes) (y : TV) : SExit → ES → Prop
  | .ret, s | .normal, s => ansW1 s y (resT s.fs res)
  | .exit _, _ | .pan _, _ => False
theorem call_of1 {P : Program} {g : Glob} {f : Nat} {H : Nat → Option Nat → Nat} {Fp : Nat → List (Nat → Option Nat)} {K : Nat → List Nat} {F : SFunc} (hmix : P.follows .mixedOrders = true) (hF : transFunc P f H Fp K false = some F) (hk : F.keep = false) {xs : List TV} {y : TV} (hn : Nat.ble xs.length F.N = true)
    (h : swp P g F.code (Post1 F.res y) (startE xs [])) : SCalls P g f xs [] y [] := by
  have key : ∀ s, ansW1 s y (resT s.fs F.res) → exitR F.res F.keep 0 s = some (y, []) := by
    intro s he
    cases hr : resT s.fs F.res with
    | none => rw [hr] at he; exact he.elim
    | some y0 =>
      rw [hr] at he
      obtain ⟨h1, h2⟩ := he
      have h3 : reach s.fs false 64 y0.ids3 [] = [] := reach_none 64 _ (fun d hd => by simpa using List.all_eq_true.1 h1 d hd)
      simp [exitR, exitF, hr, idsFrom, hk, h3, h2, seqO]
  refine call_of hmix hF hn rfl rfl (swp_mono h fun e s he => ?_)
  cases e with
  | normal => exact key s he
  | ret => exact key s he
  | exit id => exact he.elim
  | pan z => exact he.elim
end Go.Sh
namespace Go.Sh
open Go Go.RowKit
theorem pr_ite {α : Type} (P : Program) (c : Prop) [Decidable c] (a b : Sem α) : pureRun P (if c then a else b) = if c then pureRun P a else pureRun P b := by split <;> rfl
theorem pr_pure {α : Type} (P : Program) (a : α) : pureRun P (pure a) = some a := rfl
theorem pr_program (P : Program) : pureRun P program = some P := rfl
theorem pr_equal_struct {P : Program} (d : Nat) (t : TypeId) (xs ys : Array Value) (ht : pureRun P (underlying t) = some (.struct (P.fieldsOf t))) (hp : P.stoodInHeld t = false) :
    pureRun P (Op.equalIn (d + 1) t (.agg xs) (.agg ys)) = pureRun P (Op.eqFields d xs ys (P.fieldsOf t).toList) := by
  simp only [Op.equalIn, pureRun_bind, ht, Option.bind_some, pr_program, hp, Bool.false_eq_true, if_false]
  rw [← Array.forIn_toList]
  generalize (P.fieldsOf t).toList = fs
  clear ht
  induction fs with
  | nil => simp [Op.eqFields, pr_pure]
  | cons f fs ih =>
    simp only [List.forIn_cons, Op.eqFields, pureRun_bind, pr_ite]
    split
    · generalize pureRun P (part f.type xs f.offset) = r1
      cases r1 with
      | none => rfl
      | some a =>
        simp only [Option.bind_some]
        generalize pureRun P (part f.type ys f.offset) = r2
        cases r2 with
        | none => rfl
        | some b =>
          simp only [Option.bind_some]
          generalize pureRun P (Op.equalIn d f.type a b) = r3
          cases r3 with
          | none => rfl
          | some r =>
            cases r
            · simp only [Option.bind_some, Bool.not_false, if_true, pr_pure]
            · simp only [Option.bind_some, Bool.not_true, Bool.false_eq_true, if_false, pr_pure]
              exact ih
    · simp only [pr_pure, Option.bind_some]
      exact ih
end Go.Sh
end

section
/- The plain functions of the given program's layers 1, 3 and 4: what its calls answer, on lists and numbers. -/
namespace Go.Mor

def plainR (r : Nat) : Bool := decide (32 ≤ r) && r != 127
def plainGo : Nat → List UInt8 → Bool
  | 0, _ => true
  | n + 1, l => if l = [] then true else plainR (Lib.decodeL l).1 && plainGo n (l.drop (Lib.decodeL l).2)
def plainD (l : List UInt8) : Bool := plainGo l.length l
theorem plainGo_more : ∀ (n : Nat) (l : List UInt8), l.length ≤ n → plainGo n l = plainD l := by
  intro n
  induction n using Nat.strongRecOn with
  | _ n ih =>
    intro l hl
    unfold plainD
    cases l with
    | nil => cases n <;> simp [plainGo]
    | cons b t =>
      obtain ⟨m, rfl⟩ : ∃ m, n = m + 1 := ⟨n - 1, by simp at hl; omega⟩
      have hw := Lib.decodeL_width (b :: t)
      simp only [plainGo, List.length_cons, reduceCtorEq, if_false]
      have h1 : (List.drop (Lib.decodeL (b :: t)).2 (b :: t)).length ≤ t.length := by simp; omega
      simp at hl
      rw [ih m (by omega) _ (by omega)]
      by_cases he : t.length = m
      · rw [he, ih m (by omega) _ (by omega)]
      · rw [ih t.length (by omega) _ h1]
theorem plainD_step (l : List UInt8) (hne : l ≠ []) : plainD l = (plainR (Lib.decodeL l).1 && plainD (l.drop (Lib.decodeL l).2)) := by
  cases l with
  | nil => exact absurd rfl hne
  | cons b t =>
    have hw := Lib.decodeL_width (b :: t)
    conv => lhs; unfold plainD
    simp only [plainGo, List.length_cons, reduceCtorEq, if_false]
    rw [plainGo_more t.length _ (by simp; omega)]
def rightText (s : List UInt8) : Bool := decide (s.length ≤ 60) && (Lib.validD s && plainD s)

def rightID (n : Int) : Bool := decide (1 ≤ n ∧ n ≤ 100000 ∨ -20 ≤ n ∧ n ≤ -1)
def bare (x : V) : Bool := x.s == [] && x.l.length == 0

def right1 (x : V) : Bool :=
  if x.k = 0 then bare x && x.n == 0
  else if x.k = 1 then bare x && decide (-1000000000000000 ≤ x.n) && decide (x.n ≤ 1000000000000000)
  else if x.k = 2 then x.n == 0 && x.l.length == 0 && rightText x.s
  else if x.k = 3 ∨ x.k = 4 then bare x && rightID x.n
  else false
def noItem (x : V) : Bool := x.k == 5 || !right1 x
def rightV (x : V) : Bool :=
  if x.k = 5 then x.n == 0 && x.s == [] && decide (x.l.length ≤ 12) && !x.l.any noItem else right1 x

structure Ty where
  k : Int
  o : Int
def rightType (t : Ty) : Bool := if t.k = 5 then decide (1 ≤ t.o ∧ t.o ≤ 4) else decide (1 ≤ t.k ∧ t.k ≤ 4 ∧ t.o = 0)
def ofKind (x : V) (k : Int) : Bool := x.k == k || (x.k == 0 && (k == 3 || k == 4))
def fitsV (x : V) (t : Ty) : Bool := rightV x && rightType t && ofKind x t.k && !x.l.any (fun y => !ofKind y t.o)
def zeroV (t : Ty) : V := if !rightType t || t.k == 3 || t.k == 4 then V.nil else .mk t.k 0 [] []

end Go.Mor
end

section
/- Values compared, in plain words. No statement of the program is proved here. -/
namespace Go.Proofs.YtmiokadmddjccaaGreatDoor
open Go Go.Mor
def I64 (c : Int) : Prop := -9223372036854775808 ≤ c ∧ c ≤ 9223372036854775807
def ordI (a b : Int) : Int := if a < b then -1 else if b < a then 1 else 0
def pickI (c n : Int) : Int := (if c < 0 then -(c + 1) else c).tmod n
def thenI (c d : Int) : Int := if c = 0 then d else c
def ordS (a b : List UInt8) : Int := if Op.bytesLess a b then -1 else if a = b then 0 else 1
mutual
def cmpV : V → V → Int
  | .mk k n s l, y => thenI (ordI k y.k) (thenI (ordI n y.n) (thenI (ordS s y.s) (cmpL l y.l)))
def cmpL : List V → List V → Int
  | [], [] => 0
  | [], _ :: _ => -1
  | _ :: _, [] => 1
  | x :: l, y :: l' => thenI (cmpV x y) (cmpL l l')
end
theorem cmpV_eq (x y : V) : cmpV x y = thenI (ordI x.k y.k) (thenI (ordI x.n y.n) (thenI (ordS x.s y.s) (cmpL x.l y.l))) := by
  cases x; simp only [cmpV, V.k, V.n, V.s, V.l]
theorem cmpL_drop {l l' : List V} {i : Nat} {x y : V} (hx : l[i]? = some x) (hy : l'[i]? = some y) : cmpL (l.drop i) (l'.drop i) = thenI (cmpV x y) (cmpL (l.drop (i + 1)) (l'.drop (i + 1))) := by
  obtain ⟨h1, rfl⟩ := List.getElem?_eq_some_iff.1 hx
  obtain ⟨h2, rfl⟩ := List.getElem?_eq_some_iff.1 hy
  rw [List.drop_eq_getElem_cons h1, List.drop_eq_getElem_cons h2, cmpL]
theorem cmpL_end {l l' : List V} {i : Nat} (h : i = min l.length l'.length) : cmpL (l.drop i) (l'.drop i) = ordI l.length l'.length := by
  unfold ordI
  rcases Nat.lt_trichotomy l.length l'.length with h1 | h1 | h1
  · rw [List.drop_eq_nil_of_le (by omega : l.length ≤ i)]
    obtain ⟨y, r, hy⟩ : ∃ y r, l'.drop i = y :: r := ⟨_, _, List.drop_eq_getElem_cons (by omega)⟩
    rw [hy, cmpL, if_pos (by omega)]
  · rw [List.drop_eq_nil_of_le (by omega : l.length ≤ i), List.drop_eq_nil_of_le (by omega : l'.length ≤ i), cmpL, if_neg (by omega), if_neg (by omega)]
  · rw [List.drop_eq_nil_of_le (by omega : l'.length ≤ i)]
    obtain ⟨y, r, hy⟩ : ∃ y r, l.drop i = y :: r := ⟨_, _, List.drop_eq_getElem_cons (by omega)⟩
    rw [hy, cmpL, if_neg (by omega), if_pos (by omega)]
end Go.Proofs.YtmiokadmddjccaaGreatDoor
end

section
/- Plain data and how they lie: values, types; what a walk's values say of them. No statement of the program is proved here. -/
namespace Go.Proofs.YtmiokadmddjccaaGreatDoor
open Go Go.RowKit Go.Mor Go.Sh
set_option maxRecDepth 100000
set_option maxHeartbeats 8000000
theorem str0 : str [] = (⟨#[]⟩ : ByteArray) := rfl
def tyT (t : Ty) : TV := .agg [I t.k, I t.o]
def nv (x : V) : TV := .agg [I x.k, I x.n, S (str x.s), .pv (.v (.slice none 0 0))]
def V.row : V → List PV
  | .mk k n s l => [.v (.int .i64 k), .v (.int .i64 n), .v (.string (str s)), .sl 4 (l.attach.map fun x => V.row x.1)]
termination_by x => SizeOf.sizeOf x
decreasing_by exact V.size_lt x.2 k n s
def V.rows (l : List V) : List (List PV) := l.map V.row
theorem V.row_mk (k n : Int) (s : List UInt8) (l : List V) : V.row (.mk k n s l) = [.v (.int .i64 k), .v (.int .i64 n), .v (.string (str s)), .sl 4 (V.rows l)] := by
  rw [V.row]; simp [V.rows]
theorem V.rows_nil : V.rows [] = [] := rfl
theorem rows_eq (l : List V) : V.rows l = l.map V.row := rfl
def tv (x : V) : TV := .agg [I x.k, I x.n, S (str x.s), .pv (.sl 4 (V.rows x.l))]
theorem wk4 {a b c x y : TV} (h : Wk x y) : Wk (.agg [a, b, c, x]) (.agg [a, b, c, y]) :=
  wk_agg rfl (fun j p q hp hq => by
    match j with
    | 0 => simp at hp hq; subst hp; subst hq; exact .refl _
    | 1 => simp at hp hq; subst hp; subst hq; exact .refl _
    | 2 => simp at hp hq; subst hp; subst hq; exact .refl _
    | 3 => simp at hp hq; subst hp; subst hq; exact h
    | j + 4 => simp at hp)
theorem nv_tv {x : V} (h : x.l = []) : Wk (nv x) (tv x) := by
  unfold nv tv; rw [h]; exact wk4 (wk_nil 4)
structure R1 where
  k : Int
  n : Int
  s : List UInt8
structure RawV where
  k : Int
  n : Int
  s : List UInt8
  l : List R1
def R1.ok (x : R1) : Prop := I64 x.k ∧ I64 x.n ∧ x.s.length ≤ 9223372036854775807
def RawV.ok (x : RawV) : Prop := I64 x.k ∧ I64 x.n ∧ x.s.length ≤ 9223372036854775807 ∧ (∀ y ∈ x.l, y.ok) ∧ x.l.length ≤ 9223372036854775807
def R1.row (x : R1) : List PV := [.v (.int .i64 x.k), .v (.int .i64 x.n), .v (.string (str x.s))]
def RawV.tv (x : RawV) : TV := .agg [I x.k, I x.n, S (str x.s), .pv (.sl 3 (x.l.map R1.row))]
theorem row_of_nil {x : V} (h : x.l = []) : V.row x = [.v (.int .i64 x.k), .v (.int .i64 x.n), .v (.string (str x.s)), .sl 4 []] := by
  cases x with
  | mk k n s l => simp only [V.l] at h; subst h; simp [V.row_mk, V.rows, V.k, V.n, V.s]
theorem Vk (k n : Int) (s : List UInt8) (l : List V) : (V.mk k n s l).k = k := rfl
theorem Vn (k n : Int) (s : List UInt8) (l : List V) : (V.mk k n s l).n = n := rfl
theorem Vs (k n : Int) (s : List UInt8) (l : List V) : (V.mk k n s l).s = s := rfl
theorem Vl (k n : Int) (s : List UInt8) (l : List V) : (V.mk k n s l).l = l := rfl
theorem rowsGet (l : List V) (k : Nat) : (V.rows l)[k]? = (l[k]?).map V.row := by rw [rows_eq, List.getElem?_map]
theorem rowsLen (l : List V) : (V.rows l).length = l.length := by rw [rows_eq, List.length_map]
theorem row4 (y : V) : V.row y = [.v (.int .i64 y.k), .v (.int .i64 y.n), .v (.string (str y.s)), .sl 4 (V.rows y.l)] := by cases y; exact V.row_mk _ _ _ _
inductive VSmall : V → Prop where
  | mk {k n : Int} {s : List UInt8} {l : List V} (h : l.length ≤ maxLen) (hs : ∀ y ∈ l, VSmall y) : VSmall (.mk k n s l)
theorem VSmall.len {x : V} (h : VSmall x) : x.l.length ≤ maxLen := by cases h; assumption
theorem VSmall.sub {x y : V} (h : VSmall x) (hy : y ∈ x.l) : VSmall y := by cases h with | mk h hs => exact hs y hy
def TextsOk (x : V) : Prop := x.s.length ≤ 9223372036854775807
theorem relV_val {w : World} {K : Nat → Nat → Prop} {x v : Value} (h : RelV w K (.v x) v) : v = x := by cases h; rfl
theorem rows_get {l : List V} {i : Nat} {x : V} (h : l[i]? = some x) : (V.rows l)[i]? = some (V.row x) := by rw [rows_eq, List.getElem?_map, h]; rfl
theorem isL_of (n : Nat) : ∀ (l : List V), SizeOf.sizeOf l ≤ n → ∀ {w : World} {K : Nat → Nat → Prop} {v : Value}, RelV w K (.sl 4 (V.rows l)) v → IsL (fun _ => True) w l v := by
  induction n with
  | zero => intro l hn; cases l <;> simp at hn
  | succ n ih =>
    intro l hn w K v h
    generalize hes : V.rows l = es at h
    cases h with
    | sl W es b off cap p f hp hcap hmax hW hc hs =>
      have hlen : es.length = l.length := by rw [← hes, rows_eq]; simp
      rw [hlen]
      have key : ∀ (i : Nat) (x : V), l[i]? = some x → es[i]? = some (V.row x) := fun i x hx => by rw [← hes]; exact rows_get hx
      refine .mk l b off cap p (fun i => f i 3) (by omega) hmax (fun hl => ⟨hp ?_, trivial⟩) (fun i x hx => ?_) (fun i x hx => ?_)
      · rintro rfl; exact hl (List.eq_nil_of_length_eq_zero (by simpa using hlen.symm))
      · have h1 := key i x hx
        obtain ⟨k, m, s, l'⟩ := x
        have q0 : (V.row (.mk k m s l'))[0]? = some (.v (.int .i64 k)) := by simp only [V.row_mk, List.getElem?_cons_zero]
        have q1 : (V.row (.mk k m s l'))[1]? = some (.v (.int .i64 m)) := by simp only [V.row_mk, List.getElem?_cons_succ, List.getElem?_cons_zero]
        have q2 : (V.row (.mk k m s l'))[2]? = some (.v (.string (str s))) := by simp only [V.row_mk, List.getElem?_cons_succ, List.getElem?_cons_zero]
        have q3 : (V.row (.mk k m s l'))[3]? = some (.sl 4 (V.rows l')) := by simp only [V.row_mk, List.getElem?_cons_succ, List.getElem?_cons_zero]
        have a0 := hc i 0 _ _ h1 q0
        have a1 := hc i 1 _ _ h1 q1
        have a2 := hc i 2 _ _ h1 q2
        have a3 := hc i 3 _ _ h1 q3
        have b0 := relV_val (hs i 0 _ _ h1 q0)
        have b1 := relV_val (hs i 1 _ _ h1 q1)
        have b2 := relV_val (hs i 2 _ _ h1 q2)
        exact ⟨by rw [show V.k (.mk k m s l') = k from rfl, ← b0]; exact a0.2.1, by rw [show V.n (.mk k m s l') = m from rfl, ← b1]; exact a1.2.1, by rw [show V.s (.mk k m s l') = s from rfl, ← b2]; exact a2.2.1, a3.2.1⟩
      · have h1 := key i x hx
        obtain ⟨k, m, s, l'⟩ := x
        have b3 := hs i 3 _ (.sl 4 (V.rows l')) h1 (by simp only [V.row_mk, List.getElem?_cons_succ, List.getElem?_cons_zero])
        refine ih l' ?_ b3
        have := List.sizeOf_lt_of_mem (List.mem_of_getElem? hx)
        simp at this
        omega
theorem relV_isL {w : World} {K : Nat → Nat → Prop} {l : List V} {v : Value} (h : RelV w K (.sl 4 (V.rows l)) v) : IsL (fun _ => True) w l v := isL_of _ l (Nat.le_refl _) h
theorem rel_I {w : World} {E : Env} {r : Sh.Rows} {x : Int} {v : Value} (h : RelT w E r (I x) v) : v = .int .i64 x := val_rel h rfl
theorem rel_S {w : World} {E : Env} {r : Sh.Rows} {x : ByteArray} {v : Value} (h : RelT w E r (S x) v) : v = .string x := val_rel h rfl
theorem rel_tv {w : World} {E : Env} {r : Sh.Rows} {x : V} {v : Value} (h : RelT w E r (tv x) v) : ∃ c, v = .agg #[.int .i64 x.k, .int .i64 x.n, .string (str x.s), c] ∧ IsL (fun _ => True) w x.l c := by
  unfold tv at h
  cases h with
  | agg cs vs hl hr ho =>
    match vs, hl with
    | [v0, v1, v2, v3], _ =>
      obtain rfl := rel_I (hr 0 _ v0 rfl rfl)
      obtain rfl := rel_I (hr 1 _ v1 rfl rfl)
      obtain rfl := rel_S (hr 2 _ v2 rfl rfl)
      have h3 := hr 3 _ v3 rfl rfl
      cases h3 with
      | pv h => exact ⟨v3, rfl, relV_isL h⟩
theorem rel_ty {w : World} {E : Env} {r : Sh.Rows} {x : Ty} {v : Value} (h : RelT w E r (tyT x) v) : v = .agg #[.int .i64 x.k, .int .i64 x.o] := by
  unfold tyT at h
  cases h with
  | agg cs vs hl hr ho =>
    match vs, hl with
    | [v0, v1], _ =>
      obtain rfl := rel_I (hr 0 _ v0 rfl rfl)
      obtain rfl := rel_I (hr 1 _ v1 rfl rfl)
      rfl
theorem scalls_by {P : Program} {g : Sh.Glob} {f : Nat} {xs : List TV} {y : TV} {v : Value} (hb : hasBody P f) (hy : ∀ w E r, RelT w E r y v)
    (h : ∀ (w : World) (E : Env) (us : List Value), g.G w → xs.length = us.length → (∀ (j : Nat) x v, xs[j]? = some x → us[j]? = some v → RelT w E (objR []) x v) → Calls P f us.toArray w fun e w' => e = .returned v ∧ Below w.heap.size w w') : SCalls P g f xs [] y [] := by
  refine ⟨hb, fun w E us hG hm hX hl hr => ?_⟩
  refine (h w E us hG hl hr).mono ?_
  rintro e w' ⟨rfl, hb⟩
  refine ⟨v, E, rfl, ?_, hy _ _ _, ⟨fun _ _ _ => rfl, fun _ _ _ _ => rfl, fun d e W n hd => by obtain ⟨j, _, hj⟩ := objR_inv hd; simp at hj⟩⟩
  exact MSim.ext (s := ⟨fun _ => none, objB [], objR [], fun _ => none⟩) hm hb E (fun _ _ h => h) (fun _ _ h => .inl h) (fun _ _ => ⟨rfl, rfl⟩) (fun _ _ _ => rfl) (fun _ _ => ⟨rfl, rfl⟩)
def VOk (x : V) : Prop := TextsOk x ∧ ∀ y ∈ x.l, TextsOk y
def pvC (xs : List PV) : List TV := xs.map TV.pv
theorem pvC_fgt (ids : List Nat) (xs : List PV) : List.map (fgt3 ids) (pvC xs) = pvC xs := by
  unfold pvC; rw [List.map_map]; exact List.map_congr_left fun x _ => by cases ids <;> rfl
theorem pvC_ids (xs : List PV) : List.flatMap TV.ids1 (pvC xs) = [] := by
  unfold pvC; induction xs with
  | nil => rfl
  | cons x xs ih => rw [List.map_cons, List.flatMap_cons, ih]; rfl
theorem pvC_ren (ρ : Nat → Option Nat) (xs : List PV) : seqO (TV.ren1 ρ) (pvC xs) = some (pvC xs) := by
  unfold pvC; induction xs with
  | nil => rfl
  | cons x xs ih => simp only [List.map_cons, seqO, ih]; rfl
theorem pvC_len (xs : List PV) : (pvC xs).length = xs.length := by simp [pvC]
theorem pvC_get (xs : List PV) (i : Nat) : (pvC xs)[i]? = (xs[i]?).map TV.pv := by simp [pvC]
theorem pvC_set {xs : List PV} {i : Nat} (h : i < xs.length) (y : PV) : List.take i (pvC xs) ++ [TV.pv y] ++ List.drop (i + 1) (pvC xs) = pvC (xs.set i y) := by
  unfold pvC
  rw [List.set_eq_take_append_cons_drop, if_pos h, List.map_append, List.map_cons, List.map_take, List.map_drop, List.append_assoc]; rfl
theorem vV : (type_of% @pvC_fgt) ∧ (type_of% @pvC_ids) ∧ (type_of% @pvC_ren) ∧ (type_of% @pvC_len) ∧ (type_of% @I.eq_1) ∧ (type_of% @S.eq_1) ∧ (type_of% @tv.eq_1) ∧ (type_of% @nv.eq_1) ∧ (type_of% @tyT.eq_1) ∧ (type_of% @RawV.tv.eq_1) ∧ (type_of% @R1.row.eq_1) ∧ (type_of% @rowsGet) ∧ (type_of% @rowsLen) ∧ (type_of% @row4) ∧ (type_of% @Vk) ∧ (type_of% @Vn) ∧ (type_of% @Vs) ∧ (type_of% @Vl) := ⟨@pvC_fgt, @pvC_ids, @pvC_ren, @pvC_len, @I.eq_1, @S.eq_1, @tv.eq_1, @nv.eq_1, @tyT.eq_1, @RawV.tv.eq_1, @R1.row.eq_1, @rowsGet, @rowsLen, @row4, @Vk, @Vn, @Vs, @Vl⟩
end Go.Proofs.YtmiokadmddjccaaGreatDoor
end

section
/- Bytes as slices' elements. No statement of the program is proved here. -/
namespace Go.Proofs.YtmiokadmddjccaaGreatDoor
open Go Go.RowKit Go.Mor Go.Sh
def byR (l : List UInt8) : List (List PV) := l.map fun u => [.v (.int .u8 u.toNat)]
theorem byP (l : List UInt8) : bytesP (str l) = byR l := by simp [bytesP, byR, str]
theorem byApp (a b : List UInt8) : byR a ++ byR b = byR (a ++ b) := by simp [byR]
theorem byLen (a : List UInt8) : (byR a).length = a.length := by simp [byR]
theorem bySeq : ∀ (a : List UInt8), seqO Sh.byteOf (byR a) = some a
  | [] => rfl
  | u :: a => by
    have ih := bySeq a
    unfold byR at ih ⊢
    simp only [List.map_cons, seqO, ih, Sh.byteOf]
    simp
theorem strMk (l : List UInt8) : (⟨l.toArray⟩ : ByteArray) = str l := rfl
end Go.Proofs.YtmiokadmddjccaaGreatDoor
end

section
/- A law's contract at the real world. No statement of the program is proved here. -/
namespace Go.Proofs.YtmiokadmddjccaaGreatDoor
open Go.ChangeShapes Go.WideShapes Go.ChangeAt Go.RowKit Go.Lib Go.Mor Go.Deep Go.Joins
open Go.Sh (RelT RelV TV PV SCalls Env MSim objB objR objX Low)
open Go.ChangeMaps (open_string shut_string)

def envAll (w : World) : Env := ⟨fun k _ => k < w.heap.size, fun _ => 0, fun _ => none, fun _ => 0⟩
theorem objB_nil (d : Nat) : objB [] d = none := by simp [objB]
theorem objR_nil (d : Nat) : objR [] d = none := by simp [objR]
theorem calls_of_sc {P : Program} {f : Nat} {xs : List TV} {vs : List Value} {w : World} {g : Go.Sh.Glob} {b : Value} (h : SCalls P g f xs [] (.pv (.v b)) []) (hG : g.G w) (hl : xs.length = vs.length)
    (hr : ∀ (j : Nat) x v, xs[j]? = some x → vs[j]? = some v → RelT w (envAll w) (objR []) x v) : Calls P f vs.toArray w fun e w' => e = .returned b ∧ Below w.heap.size w w' := by
  have hX : ∀ d k, ¬ objX (envAll w) [] d k := by
    rintro d k (⟨cs, h1, _⟩ | ⟨q, cap, h1, _⟩)
    · rw [objB_nil] at h1; cases h1
    · rw [objR_nil] at h1; cases h1
  refine (h.2 w (envAll w) vs hG ?_ (fun d k hd => absurd hd (hX d k)) hl hr).mono ?_
  · refine ⟨fun d cs hd => ?_, fun d e W n hd => ?_, fun d d' cs cs' hd => ?_, fun d d' cs q k cap hd => ?_, fun d d' q q' k cap cap' hd => ?_, fun k o hk => hk, ⟨rfl, rfl, rfl, Nat.le_refl _, fun _ _ _ => rfl⟩, fun k o u hk hu => ⟨hk, hu⟩, fun k o hk => .inl hk, ?_⟩
    · rw [objB_nil] at hd; cases hd
    · rw [objR_nil] at hd; cases hd
    · rw [objB_nil] at hd; cases hd
    · rw [objB_nil] at hd; cases hd
    · rw [objR_nil] at hd; cases hd
    · have hold : ∀ d, ¬ (Go.Sh.start w (envAll w) [] 0).old d := fun d h => by have h1 : 1000 ≤ d ∧ d < 1000 + 0 := h; omega
      constructor <;> (intros; first | (exfalso; apply hold; assumption) | rfl)
  · rintro e w' ⟨v, E', rfl, hm, hv, _⟩
    obtain rfl := Go.Sh.val_rel (y := b) hv rfl
    exact ⟨rfl, hm.low.os, hm.low.tape, hm.low.output, hm.low.size, fun k hk => hm.low.block k hk (fun d => hX d k)⟩
end Go.Proofs.YtmiokadmddjccaaGreatDoor
end
