/- Sh: finite states, and what code does. No statement of the program is proved here. -/
import Derived.Test.YtdlolkogifigpaaDoorS13
set_option linter.unusedSimpArgs false
set_option linter.unusedVariables false
namespace Go.Sh
open Go Go.RowKit
set_option maxHeartbeats 4000000

def lk {α : Type} : List (Nat × α) → Nat → Option α
  | [], _ => none
  | (k, x) :: l, d => match Nat.beq k d with | true => some x | false => lk l d
def sv {α : Type} : List (Nat × α) → Nat → α → List (Nat × α)
  | [], k, x => [(k, x)]
  | (j, y) :: l, k, x => match Nat.beq j k with | true => (k, x) :: l | false => (j, y) :: sv l k x
def has : List Nat → Nat → Bool
  | [], _ => false
  | k :: l, d => match Nat.beq k d with | true => true | false => has l d
def drp {α : Type} (ids : List Nat) : List (Nat × α) → List (Nat × α)
  | [] => []
  | (k, x) :: l => match has ids k with | true => drp ids l | false => (k, x) :: drp ids l
theorem lk_sv {α : Type} (k : Nat) (x : α) : ∀ l : List (Nat × α), lk (sv l k x) = setF (lk l) k x
  | [] => by
    funext d
    simp only [sv, lk, setF]
    by_cases h : d = k
    · subst h; simp [Nat.beq_refl]
    · have : Nat.beq k d = false := by cases hb : Nat.beq k d with | false => rfl | true => exact absurd (Nat.eq_of_beq_eq_true hb).symm h
      simp [this, h]
  | (j, y) :: l => by
    have ih := lk_sv k x l
    funext d
    simp only [sv]
    cases hj : Nat.beq j k with
    | true =>
      obtain rfl := Nat.eq_of_beq_eq_true hj
      simp only [lk, setF]
      by_cases h : d = j
      · subst h; simp [Nat.beq_refl]
      · have : Nat.beq j d = false := by cases hb : Nat.beq j d with | false => rfl | true => exact absurd (Nat.eq_of_beq_eq_true hb).symm h
        simp [this, h]
    | false =>
      have hne : j ≠ k := by rintro rfl; simp [Nat.beq_refl] at hj
      simp only [lk, ih, setF]
      by_cases h : d = k
      · subst h; simp [hj]
      · simp [h]
theorem has_mem : ∀ {l : List Nat} {d : Nat}, has l d = true ↔ d ∈ l
  | [], d => by simp [has]
  | k :: l, d => by
    simp only [has]
    cases hb : Nat.beq k d with
    | true => simp [Nat.eq_of_beq_eq_true hb]
    | false =>
      have : d ≠ k := by rintro rfl; simp [Nat.beq_refl] at hb
      simp [this, has_mem]
theorem lk_drp {α : Type} {ids : List Nat} : ∀ (l : List (Nat × α)) (d : Nat), lk (drp ids l) d = if has ids d then none else lk l d
  | [], d => by simp [drp, lk]
  | (k, x) :: l, d => by
    have ih := lk_drp (ids := ids) l d
    simp only [drp]
    cases hk : has ids k with
    | true =>
      simp only [ih, lk]
      cases hb : Nat.beq k d with
      | true => obtain rfl := Nat.eq_of_beq_eq_true hb; simp [hk]
      | false => rfl
    | false =>
      simp only [lk, ih]
      cases hb : Nat.beq k d with
      | true => obtain rfl := Nat.eq_of_beq_eq_true hb; simp [hk]
      | false => rfl
theorem lk_map {α : Type} (f : α → α) : ∀ (l : List (Nat × α)) (d : Nat), lk (l.map fun e => (e.1, f e.2)) d = (lk l d).map f
  | [], d => rfl
  | (k, x) :: l, d => by
    simp only [List.map_cons, lk]
    cases Nat.beq k d with
    | true => rfl
    | false => exact lk_map f l d

structure ES where
  t : List (Nat × TV)
  b : List (Nat × List TV)
  r : List (Nat × (Nat × Nat × Nat))
  i : List (Nat × (ByteArray × Nat))
def ES.fs (s : ES) : FS := ⟨lk s.t, lk s.b, lk s.r, lk s.i⟩
def putMem (us : List (Nat × MO)) (s : ES) : List Nat → ES
  | [] => s
  | i :: l => match us.lookup i with
    | some (.box cs) => let s' := putMem us s l; { s' with b := sv s'.b i cs }
    | some (.row e W n) => let s' := putMem us s l; { s' with r := sv s'.r i (e, W, n) }
    | none => putMem us s l
def ES.upd (s : ES) (dst : Option Nat) : Upd → ES
  | .no => s
  | .box cs => match dst with | some d => { s with b := sv s.b d cs } | none => s
  | .wr d cs => { s with b := sv s.b d cs }
  | .row d q => { s with r := sv s.r d q }
  | .mem us => putMem us s (us.map (·.1))
  | .it d q => { s with i := sv s.i d q }
def ES.put (s : ES) (dst : Option Nat) (x : TV) : ES := match dst with | some k => { s with t := sv s.t k x } | none => s
def ES.after (s : ES) (o : SOper) (e : TV × Upd) : ES := (s.upd o.dst e.2).put o.dst e.1

theorem putMem_spec (us : List (Nat × MO)) (s : ES) : ∀ l : List Nat, (putMem us s l).t = s.t ∧ (putMem us s l).i = s.i ∧ (∀ d, lk (putMem us s l).b d = if d ∈ l then memB us (lk s.b) d else lk s.b d) ∧ (∀ d, lk (putMem us s l).r d = if d ∈ l then memR us (lk s.r) d else lk s.r d)
  | [] => by simp [putMem]
  | i :: l => by
    obtain ⟨h1, h2, h3, h4⟩ := putMem_spec us s l
    simp only [putMem]
    cases hm : us.lookup i with
    | none =>
      refine ⟨h1, h2, fun d => ?_, fun d => ?_⟩
      · rw [h3]
        by_cases hd : d = i
        · subst hd; simp [memB, hm]
        · simp [hd]
      · rw [h4]
        by_cases hd : d = i
        · subst hd; simp [memR, hm]
        · simp [hd]
    | some m =>
      cases m with
      | box cs =>
        refine ⟨h1, h2, fun d => ?_, fun d => ?_⟩
        · simp only [lk_sv, setF, h3]
          by_cases hd : d = i
          · subst hd; simp [memB, hm]
          · simp [hd]
        · simp only [h4]
          by_cases hd : d = i
          · subst hd; simp [memR, hm]
          · simp [hd]
      | row e W n =>
        refine ⟨h1, h2, fun d => ?_, fun d => ?_⟩
        · simp only [h3]
          by_cases hd : d = i
          · subst hd; simp [memB, hm]
          · simp [hd]
        · simp only [lk_sv, setF, h4]
          by_cases hd : d = i
          · subst hd; simp [memR, hm]
          · simp [hd]
theorem lookup_none {us : List (Nat × MO)} {d : Nat} (h : d ∉ us.map (·.1)) : us.lookup d = none := by
  cases hl : us.lookup d with
  | none => rfl
  | some m =>
    exfalso
    apply h
    induction us with
    | nil => simp at hl
    | cons p l ih =>
      obtain ⟨x, y⟩ := p
      simp only [List.lookup] at hl
      cases he : (d == x) with
      | true => have : d = x := by simpa using he
                simp [this]
      | false =>
        rw [he] at hl
        have := ih (by intro hh; exact h (by simp at hh ⊢; exact .inr hh)) hl
        simp at this ⊢; exact .inr this
theorem ES.upd_fs (s : ES) (dst : Option Nat) (u : Upd) : (s.upd dst u).fs = s.fs.upd dst u := by
  cases u with
  | no => rfl
  | box cs =>
    cases dst with
    | none => rfl
    | some d => simp only [ES.upd, ES.fs, FS.upd, FS.setB, lk_sv]
  | wr d cs => simp only [ES.upd, ES.fs, FS.upd, FS.setB, lk_sv]
  | row d q => simp only [ES.upd, ES.fs, FS.upd, FS.setR, lk_sv]
  | it d q => simp only [ES.upd, ES.fs, FS.upd, FS.setI, lk_sv]
  | mem us =>
    obtain ⟨h1, h2, h3, h4⟩ := putMem_spec us s (us.map (·.1))
    simp only [ES.upd, ES.fs, FS.upd]
    refine FS.ext' (fun k => ?_) (fun k => ?_) (fun k => ?_) (fun k => ?_)
    · simp [h1]
    · simp only [h3]
      split
      · rfl
      · rename_i hk; simp [memB, lookup_none hk]
    · simp only [h4]
      split
      · rfl
      · rename_i hk; simp [memR, lookup_none hk]
    · simp [h2]
theorem ES.put_fs (s : ES) (dst : Option Nat) (x : TV) : (s.put dst x).fs = s.fs.put dst x := by
  cases dst with
  | none => rfl
  | some k => simp only [ES.put, ES.fs, FS.put, FS.setT, lk_sv]
theorem ES.after_fs (s : ES) (o : SOper) (e : TV × Upd) : (s.after o e).fs = s.fs.after o e := by
  unfold ES.after FS.after
  rw [ES.put_fs, ES.upd_fs]

/-- A value speaks of one of the names (or may do so). -/
def TV.m0 (ids : List Nat) : TV → Bool
  | .pv _ | .unk => false
  | .ptr d _ | .own d _ _ | .bs d _ _ _ | .it d => has ids d
  | _ => true
def TV.m1 (ids : List Nat) : TV → Bool
  | .fn _ a b => a.any (TV.m0 ids) || b.any (TV.m0 ids)
  | t => t.m0 ids
def TV.m2 (ids : List Nat) : TV → Bool
  | .agg cs => cs.any (TV.m1 ids)
  | t => t.m1 ids
def TV.m3 (ids : List Nat) : TV → Bool
  | .tuple cs => cs.any (TV.m2 ids)
  | t => t.m2 ids
theorem m0_ment {ids : List Nat} {t : TV} {d : Nat} (h : t.m0 ids = false) (hd : d ∈ ids) : ¬ Ment d t := by
  intro hm
  cases hm <;> simp only [TV.m0] at h
  all_goals first | (rw [has_mem.2 hd] at h; cases h) | cases h
theorem m1_ment {ids : List Nat} {t : TV} {d : Nat} (h : t.m1 ids = false) (hd : d ∈ ids) : ¬ Ment d t := by
  cases t with
  | fn f a b =>
    intro hm
    simp only [TV.m1, Bool.or_eq_false_iff, List.any_eq_false] at h
    cases hm with
    | fn1 hc hm => exact m0_ment (by simpa using h.1 _ hc) hd hm
    | fn2 hc hm => exact m0_ment (by simpa using h.2 _ hc) hd hm
  | _ => exact m0_ment h hd
theorem m2_ment {ids : List Nat} {t : TV} {d : Nat} (h : t.m2 ids = false) (hd : d ∈ ids) : ¬ Ment d t := by
  cases t with
  | agg cs =>
    intro hm
    simp only [TV.m2, List.any_eq_false] at h
    cases hm with
    | agg hc hm => exact m1_ment (by simpa using h _ hc) hd hm
  | _ => exact m1_ment h hd
theorem m3_ment {ids : List Nat} {t : TV} {d : Nat} (h : t.m3 ids = false) (hd : d ∈ ids) : ¬ Ment d t := by
  cases t with
  | tuple cs =>
    intro hm
    simp only [TV.m3, List.any_eq_false] at h
    cases hm with
    | tuple hc hm => exact m2_ment (by simpa using h _ hc) hd hm
  | _ => exact m2_ment h hd
/-- Names are forgotten. -/
def fgt3 (ids : List Nat) (x : TV) : TV := match x.m3 ids with | true => .unk | false => x
def ES.fgt (s : ES) (ids : List Nat) : ES :=
  ⟨s.t.map fun e => (e.1, fgt3 ids e.2), (drp ids s.b).map fun e => (e.1, e.2.map (fgt3 ids)), drp ids s.r, drp ids s.i⟩
theorem fgt3_cases (ids : List Nat) (x : TV) : fgt3 ids x = x ∨ fgt3 ids x = .unk := by
  unfold fgt3; cases x.m3 ids <;> simp
theorem fgt3_ment {ids : List Nat} {x : TV} {d : Nat} (hd : d ∈ ids) : ¬ Ment d (fgt3 ids x) := by
  unfold fgt3
  cases h : x.m3 ids with
  | true => intro hm; cases hm
  | false => exact m3_ment h hd
theorem fgt_b (s : ES) (ids : List Nat) (d : Nat) : (s.fgt ids).fs.b d = if has ids d then none else (lk s.b d).map fun cs => cs.map (fgt3 ids) := by
  show lk ((drp ids s.b).map fun e => (e.1, e.2.map (fgt3 ids))) d = _
  rw [lk_map (fun cs : List TV => cs.map (fgt3 ids)) (drp ids s.b) d, lk_drp]
  split <;> rfl
theorem fgt_sound {B : Base} {s : ES} {a : Act} {w : World} {E : Env} (h : Sim B s.fs a w E) (ids : List Nat) : Sim B (s.fgt ids).fs a w E := by
  refine h.less (fun k x hx => ?_) (fun d cs' hd => ?_) (fun d q hd => ?_) (fun d q hd => ?_)
  · have hx : lk (s.t.map fun e => (e.1, fgt3 ids e.2)) k = some x := hx
    rw [lk_map (fgt3 ids)] at hx
    obtain ⟨y, h1, rfl⟩ := Option.map_eq_some_iff.1 hx
    rcases fgt3_cases ids y with e | e
    · rw [e]; exact .inl h1
    · exact .inr ⟨e, y, h1⟩
  · rw [fgt_b] at hd
    split at hd
    · cases hd
    · obtain ⟨cs, h1, rfl⟩ := Option.map_eq_some_iff.1 hd
      refine ⟨cs, h1, fun j c hc => ?_⟩
      rw [List.getElem?_map] at hc
      obtain ⟨y, h2, rfl⟩ := Option.map_eq_some_iff.1 hc
      rcases fgt3_cases ids y with e | e
      · rw [e]; exact .inl h2
      · exact .inr ⟨e, y, h2⟩
  · have hd : lk (drp ids s.r) d = some q := hd
    rw [lk_drp] at hd
    split at hd
    · cases hd
    · exact hd
  · have hd : lk (drp ids s.i) d = some q := hd
    rw [lk_drp] at hd
    split at hd
    · cases hd
    · exact hd
theorem fgt_fresh (s : ES) {ids : List Nat} {d : Nat} (hd : d ∈ ids) : Fresh (s.fgt ids).fs d := by
  have hh := has_mem.2 hd
  refine ⟨?_, by rw [fgt_b, hh]; rfl, by show lk (drp ids s.r) d = none; rw [lk_drp, hh]; rfl, by show lk (drp ids s.i) d = none; rw [lk_drp, hh]; rfl⟩
  rintro (⟨k, x, hx, hm⟩ | ⟨e, cs, c, he, hc, hm⟩)
  · have hx : lk (s.t.map fun e => (e.1, fgt3 ids e.2)) k = some x := hx
    rw [lk_map (fgt3 ids)] at hx
    obtain ⟨y, h1, rfl⟩ := Option.map_eq_some_iff.1 hx
    exact fgt3_ment hd hm
  · rw [fgt_b] at he
    split at he
    · cases he
    · obtain ⟨cs0, h1, rfl⟩ := Option.map_eq_some_iff.1 he
      obtain ⟨y, _, rfl⟩ := List.mem_map.1 hc
      exact fgt3_ment hd hm
/-- Slots are forgotten. -/
def ES.kill (s : ES) (ks : List Nat) : ES := match ks with | [] => s | _ => { s with t := drp ks s.t }
theorem kill_sound {B : Base} {s : ES} {a : Act} {w : World} {E : Env} (h : Sim B s.fs a w E) (ks : List Nat) : Sim B (s.kill ks).fs a w E := by
  unfold ES.kill
  split
  · exact h
  · refine h.less (fun k x hx => .inl ?_) (fun d cs hd => ⟨cs, hd, fun j c hc => .inl hc⟩) (fun d q hd => hd) (fun d q hd => hd)
    have hx : lk (drp ks s.t) k = some x := hx
    rw [lk_drp] at hx
    split at hx
    · cases hx
    · exact hx

/-- Operations, one by one. -/
def runE (P : Program) (C : Oracle) : List SOper → ES → Option ES
  | [], s => some s
  | o :: l, s => match effG P C o s.fs with
    | some e => runE P C l (s.after o e)
    | none => none
/-- By calls that are known, one by one. -/
def opsW (P : Program) (g : Glob) : List SOper → (ES → Prop) → ES → Prop
  | [], K, s => K s
  | o :: l, K, s => ∃ C, SoundC P g C ∧ ∃ e, effG P C o s.fs = some e ∧ opsW P g l K (s.after o e)
theorem opsW_of_runE {P : Program} {g : Glob} {C : Oracle} (hC : SoundC P g C) {K : ES → Prop} : ∀ {l : List SOper} {s s' : ES}, runE P C l s = some s' → K s' → opsW P g l K s
  | [], s, s', h, hK => by simp [runE] at h; subst h; exact hK
  | o :: l, s, s', h, hK => by
    simp only [runE] at h
    split at h
    · rename_i e he
      exact ⟨C, hC, e, he, opsW_of_runE hC h hK⟩
    · cases h
theorem runI_of_opsW {P : Program} {g : Glob} {sops : List SOper} {K : ES → Prop} : ∀ {l : List SOper} {j : Nat} {s : ES}, sops.drop j = l → opsW P g l K s → ∃ s', RunI P g sops (List.range' j l.length) s.fs s'.fs ∧ K s'
  | [], j, s, _, h => ⟨s, rfl, h⟩
  | o :: l, j, s, hd, h => by
    obtain ⟨C, hC, e, he, h⟩ := h
    have hj : sops[j]? = some o := by
      have := congrArg (·[0]?) hd
      simpa using this
    have hd' : sops.drop (j + 1) = l := by
      have := congrArg (List.drop 1) hd
      simpa [List.drop_drop, Nat.add_comm] using this
    obtain ⟨s', h1, h2⟩ := runI_of_opsW hd' h
    refine ⟨s', ⟨o, s.fs.after o e, hj, ⟨C, hC, by unfold step; rw [he]; rfl⟩, ?_⟩, h2⟩
    rw [← ES.after_fs]; exact h1

section
variable {P : Program} {H : Option Nat → Nat} {ops : Array Oper} {B : Base} {sops : List SOper} {g : Glob} {draw : Bool} {id : Nat}
theorem region_sound (hmix : P.follows .mixedOrders = true) (hm0 : B.m ≤ 1000) (hN : B.N ≤ 1000) (hG : g.G B.w0) (hX : ∀ d b, B.X d b → g.n ≤ b) {fps : Nat → Option Nat} (htr : transRegion P B.N H fps ops draw = some sops) {s : ES} {K : ES → Prop}
    (hf : ∀ d ∈ sops.flatMap SOper.news, Fresh s.fs d) (h : opsW P g sops K s) {a : Act} {w : World} {E : Env} (hS : Sim B s.fs a w E) {Q : Exit → Act → World → Prop} (hQ : ∀ s' a' w' E', K s' → Sim B s'.fs a' w' E' → Q .normal a' w') :
    (Code.region id ops draw).wp P Q a w := by
  unfold transRegion at htr
  split at htr <;> try (cases htr; done)
  rename_i sops' hseq
  split at htr <;> try (cases htr; done)
  rename_i hok
  cases htr
  obtain ⟨s', hrun, hK⟩ := runI_of_opsW (sops := sops) (l := sops) (j := 0) rfl h
  obtain ⟨hlen, hspec⟩ := transOps_spec hseq
  have hlen' : ops.size = sops.length := by simpa using hlen
  have hfi : ∀ l, FreshI sops l s.fs := fun l i _ o ho d hd => hf d (List.mem_flatMap.2 ⟨o, List.mem_of_getElem? ho, hd⟩)
  have hmk := mkAll_of hok
  rw [← List.range_eq_range', ← hlen'] at hrun
  cases draw with
  | false =>
    refine wp_region ?_
    have key : ∀ (l : List Nat) (s : FS) (a : Act) (w : World) (E : Env), l.Nodup → Sim B s a w E → FreshI sops l s → RunI P g sops l s s'.fs → wpOps P ops Q l a w := by
      intro l
      induction l with
      | nil => intro s a w E _ hS _ hr; have hr : s = s'.fs := hr; subst hr; exact hQ s' a w E hK hS
      | cons i l ih =>
        intro s a w E hnd hS hf hr
        obtain ⟨o, s1, ho, ⟨C, hC, hst⟩, hr⟩ := hr
        have hil : i < ops.size := by rw [hlen']; exact (List.getElem?_eq_some_iff.1 ho).1
        have hoi : ops[i]? = some ops[i] := Array.getElem?_eq_getElem hil
        obtain ⟨so, hso, hto⟩ := hspec i ops[i] (by simp [hil])
        rw [ho] at hso; cases hso
        rw [wpOps_cons]
        refine sim_step hm0 hN hG hX hC hS hoi hto (hf i (List.mem_cons_self ..) o ho) hst (fun a' w' E' hS' => ?_)
        exact ih s1 a' w' E' (List.nodup_cons.1 hnd).2 hS' (freshI_step hmk ho (List.nodup_cons.1 hnd).1 (fun j hj => hf j (List.mem_cons_of_mem _ hj)) ⟨C, hC, hst⟩) hr
    exact key _ s.fs a w E List.nodup_range hS (hfi _) hrun
  | true =>
    refine wp_region_any hmix ?_
    have hrest : rest ops.size (Array.replicate ops.size false) = List.range ops.size := by
      unfold rest
      rw [List.filter_eq_self]
      intro i hi
      have : i < ops.size := by simpa using hi
      simp [Array.getD, this]
    refine any_sound hm0 hN hG hX hseq hok (sf := s'.fs) (fun a w E hS => hQ s' a w E hK hS) ops.size _ s.fs a _ E (by simp) (fun i o ho hl => ?_) (hS.same (Below.refl _ _).drew) (hfi _) (by rw [hrest]; exact hrun) (by rw [hrest]; simp)
    have hil := (Array.getElem?_eq_some_iff.1 ho).1
    simp [Array.getD, hil] at hl
end

inductive SCode where
  | skip
  | reg (alts : List (List Nat × List SOper)) (kill : List Nat)
  | seq (a b : SCode)
  | cond (c : Arg) (a b : SCode)
  | block (id : Nat) (a : SCode)
  | loop (a : SCode)
  | exit (id : Nat)
  | ret
inductive SExit where
  | normal
  | exit (id : Nat)
  | ret
def SExit.to : SExit → Exit
  | .normal => .normal
  | .exit id => .exit id
  | .ret => .ret
def hasApp (ops : Array Oper) : Bool := ops.any fun o => match o.op with | .call { callee := .builtin .append, .. } => true | _ => false
def transAlts (P : Program) (N : Nat) (ops : Array Oper) (draw : Bool) : List ((Option Nat → Nat) × (Nat → Option Nat)) → List (List Nat × List SOper)
  | [] => []
  | H :: r => match transRegion P N H.1 H.2 ops draw with
    | some l => (l.flatMap SOper.news, l) :: transAlts P N ops draw r
    | none => transAlts P N ops draw r
/-- Code, by its operations; H: how calls and appends are taken; K: the slots that are done with. -/
def altsOf (H : Nat → Option Nat → Nat) (Fs : List (Nat → Option Nat)) (app : Bool) : List ((Option Nat → Nat) × (Nat → Option Nat)) :=
  Fs.flatMap fun F => if app then [(H 0, F), (H 1, F)] else [(H 0, F)]
def transCode (P : Program) (N : Nat) (H : Nat → Option Nat → Nat) (Fp : Nat → List (Nat → Option Nat)) (K : Nat → List Nat) : Code → Option SCode
  | .skip => some .skip
  | .region id ops draw => some (.reg (transAlts P N ops draw (altsOf H (Fp id) (hasApp ops))) (K id))
  | .seq a b => match transCode P N H Fp K a, transCode P N H Fp K b with
    | some a', some b' => some (.seq a' b')
    | _, _ => none
  | .cond c a b => match transCode P N H Fp K a, transCode P N H Fp K b with
    | some a', some b' => some (.cond (Arg.of c) a' b')
    | _, _ => none
  | .block id a => (transCode P N H Fp K a).map (.block id)
  | .loop a => (transCode P N H Fp K a).map .loop
  | .exit id => some (.exit id)
  | .ret => some .ret
  | _ => none

/-- All that the one knows the other one knows. -/
def leL {α : Type} : List (Nat × α) → List (Nat × α) → Prop
  | [], _ => True
  | (k, x) :: r, l => lk l k = some x ∧ leL r l
structure ES.Le (s0 s : ES) : Prop where
  t : ∀ k x, lk s0.t k = some x → lk s.t k = some x
  b : ∀ k x, lk s0.b k = some x → lk s.b k = some x
  r : ∀ k x, lk s0.r k = some x → lk s.r k = some x
  i : ∀ k x, lk s0.i k = some x → lk s.i k = some x
theorem ES.Le.refl (s : ES) : s.Le s := ⟨fun _ _ h => h, fun _ _ h => h, fun _ _ h => h, fun _ _ h => h⟩
theorem leL_lk {α : Type} {l : List (Nat × α)} : ∀ {l0 : List (Nat × α)}, leL l0 l → ∀ {k : Nat} {x : α}, lk l0 k = some x → lk l k = some x
  | [], _, k, x, h => by simp [lk] at h
  | (j, y) :: r, ⟨h1, h2⟩, k, x, h => by
    simp only [lk] at h
    split at h
    · rename_i hb
      obtain rfl := Nat.eq_of_beq_eq_true hb
      cases h; exact h1
    · exact leL_lk h2 h
theorem le_of {s0 s : ES} (h1 : leL s0.t s.t) (h2 : leL s0.b s.b) (h3 : leL s0.r s.r) (h4 : leL s0.i s.i) : s0.Le s := ⟨fun _ _ h => leL_lk h1 h, fun _ _ h => leL_lk h2 h, fun _ _ h => leL_lk h3 h, fun _ _ h => leL_lk h4 h⟩
theorem le_sound {B : Base} {s0 s : ES} {a : Act} {w : World} {E : Env} (hle : s0.Le s) (h : Sim B s.fs a w E) : Sim B s0.fs a w E :=
  h.less (fun k x hx => .inl (hle.t k x hx)) (fun d cs hd => ⟨cs, hle.b d cs hd, fun j c hc => .inl hc⟩) (fun d q hd => hle.r d q hd) (fun d q hd => hle.i d q hd)
/-- What is known may be told in other words. -/
def ES.Lw (s0 s : ES) : Prop := ∀ (B : Base) (a : Act) (w : World) (E : Env), B.m ≤ 1000 → B.N ≤ 1000 → Sim B s.fs a w E → ∃ E', Sim B s0.fs a w E'
theorem ES.Lw.refl (s : ES) : s.Lw s := fun _ _ _ E _ _ h => ⟨E, h⟩
theorem ES.Lw.trans {a b c : ES} (h1 : a.Lw b) (h2 : b.Lw c) : a.Lw c := fun B x w E hm hn h => by
  obtain ⟨E1, h3⟩ := h2 B x w E hm hn h
  exact h1 B x w E1 hm hn h3
theorem ES.Le.lw {s0 s : ES} (h : s0.Le s) : s0.Lw s := fun _ _ _ E _ _ hS => ⟨E, le_sound h hS⟩
/-- What is needed of code, that what is asked holds behind it. -/
def regW (P : Program) (g : Glob) (alts : List (List Nat × List SOper)) (kill : List Nat) (K : ES → Prop) (s : ES) : Prop :=
  ∃ a ∈ alts, opsW P g a.2 (fun s' => K (s'.kill kill)) (s.fgt a.1)
def condW (c : Arg) (s : ES) (A B : Prop) : Prop := ∃ t, c.get s.fs = some (.pv (.v (.bool t))) ∧ (if t then A else B)
def thenW (K : ES → Prop) (Q : SExit → ES → Prop) : SExit → ES → Prop
  | .normal, s => K s
  | e, s => Q e s
def blockW (id : Nat) (Q : SExit → ES → Prop) : SExit → ES → Prop
  | .exit j, s => if j = id then Q .normal s else Q (.exit j) s
  | e, s => Q e s
def swp (P : Program) (g : Glob) : SCode → (SExit → ES → Prop) → ES → Prop
  | .skip, Q, s => Q .normal s
  | .reg alts kill, Q, s => regW P g alts kill (Q .normal) s
  | .seq a b, Q, s => swp P g a (thenW (swp P g b Q) Q) s
  | .cond c a b, Q, s => condW c s (swp P g a Q s) (swp P g b Q s)
  | .block id a, Q, s => swp P g a (blockW id Q) s
  | .loop a, Q, s => ∃ (I : Nat → ES → Prop) (n : Nat), (∃ s0, s0.Lw s ∧ I n s0) ∧ ∀ n s, I n s → swp P g a (thenW (fun s' => ∃ m, m < n ∧ ∃ s0, s0.Lw s' ∧ I m s0) Q) s
  | .exit id, Q, s => Q (.exit id) s
  | .ret, Q, s => Q .ret s

theorem swp_mono {P : Program} {g : Glob} : ∀ {c : SCode} {Q Q' : SExit → ES → Prop} {s : ES}, swp P g c Q s → (∀ e s, Q e s → Q' e s) → swp P g c Q' s
  | .skip, Q, Q', s, h, hq => hq _ _ h
  | .reg alts kill, Q, Q', s, h, hq => by
    obtain ⟨a, ha, h⟩ := h
    refine ⟨a, ha, ?_⟩
    have key : ∀ (l : List SOper) (s : ES), opsW P g l (fun s' => Q .normal (s'.kill kill)) s → opsW P g l (fun s' => Q' .normal (s'.kill kill)) s := by
      intro l
      induction l with
      | nil => exact fun s h => hq _ _ h
      | cons o l ih => rintro s ⟨C, hC, e, he, h⟩; exact ⟨C, hC, e, he, ih _ h⟩
    exact key _ _ h
  | .seq a b, Q, Q', s, h, hq => swp_mono (c := a) h fun e s he => by
    cases e with
    | normal => exact swp_mono (c := b) he hq
    | exit id => exact hq _ _ he
    | ret => exact hq _ _ he
  | .cond c a b, Q, Q', s, h, hq => by
    obtain ⟨t, h1, h2⟩ := h
    refine ⟨t, h1, ?_⟩
    cases t with
    | true => exact swp_mono (c := a) h2 hq
    | false => exact swp_mono (c := b) h2 hq
  | .block id a, Q, Q', s, h, hq => swp_mono (c := a) h fun e s he => by
    cases e with
    | exit j => simp only [blockW] at he ⊢; split at he <;> rename_i hj <;> simp [hj, hq _ _ he]
    | normal => exact hq _ _ he
    | ret => exact hq _ _ he
  | .loop a, Q, Q', s, h, hq => by
    obtain ⟨I, n, h0, h1⟩ := h
    refine ⟨I, n, h0, fun n s hI => swp_mono (c := a) (h1 n s hI) fun e s he => ?_⟩
    cases e with
    | normal => exact he
    | exit id => exact hq _ _ he
    | ret => exact hq _ _ he
  | .exit id, Q, Q', s, h, hq => hq _ _ h
  | .ret, Q, Q', s, h, hq => hq _ _ h

theorem least {p : Nat → Prop} (h : ∃ n, p n) : ∃ n, p n ∧ ∀ m, p m → n ≤ m := by
  obtain ⟨n, hn⟩ := h
  induction n using Nat.strongRecOn with
  | _ n ih =>
    by_cases hl : ∃ m, m < n ∧ p m
    · obtain ⟨m, hm, hp⟩ := hl; exact ih m hm hp
    · exact ⟨n, hn, fun m hp => Nat.le_of_not_lt fun hlt => hl ⟨m, hlt, hp⟩⟩
open Classical in
noncomputable def leastOf (p : Act → World → Nat → Prop) (a : Act) (w : World) : Nat := if h : ∃ n, p a w n then Classical.choose (least h) else 0
theorem leastOf_spec {p : Act → World → Nat → Prop} {a : Act} {w : World} (h : ∃ n, p a w n) : p a w (leastOf p a w) ∧ ∀ m, p a w m → leastOf p a w ≤ m := by
  unfold leastOf
  rw [dif_pos h]
  exact Classical.choose_spec (least h)
section
variable {P : Program} {H : Nat → Option Nat → Nat} {Fp : Nat → List (Nat → Option Nat)} {K : Nat → List Nat} {B : Base} {g : Glob}
theorem swp_sound (hmix : P.follows .mixedOrders = true) (hm0 : B.m ≤ 1000) (hN : B.N ≤ 1000) (hG : g.G B.w0) (hX : ∀ d b, B.X d b → g.n ≤ b) : ∀ {c : Code} {sc : SCode}, transCode P B.N H Fp K c = some sc → ∀ {Q : SExit → ES → Prop} {s : ES}, swp P g sc Q s → ∀ {a : Act} {w : World} {E : Env}, Sim B s.fs a w E →
    c.wp P (fun x a' w' => ∃ e s' E', x = SExit.to e ∧ Q e s' ∧ Sim B s'.fs a' w' E') a w := by
  intro c
  induction c with
  | skip =>
    intro sc h Q s hs a w E hS
    simp only [transCode] at h; cases h
    exact wp_skip ⟨.normal, s, E, rfl, hs, hS⟩
  | exit id =>
    intro sc h Q s hs a w E hS
    simp only [transCode] at h; cases h
    exact wp_exit ⟨.exit id, s, E, rfl, hs, hS⟩
  | ret =>
    intro sc h Q s hs a w E hS
    simp only [transCode] at h; cases h
    exact wp_ret ⟨.ret, s, E, rfl, hs, hS⟩
  | region id ops draw =>
    intro sc h Q s hs a w E hS
    simp only [transCode] at h; cases h
    obtain ⟨al, hal, hs⟩ := hs
    have key : ∀ (Hs : List ((Option Nat → Nat) × (Nat → Option Nat))), al ∈ transAlts P B.N ops draw Hs → ∃ H, ∃ F : Nat → Option Nat, transRegion P B.N H F ops draw = some al.2 ∧ al.1 = al.2.flatMap SOper.news := by
      intro Hs
      induction Hs with
      | nil => simp [transAlts]
      | cons H r ih =>
        intro hm
        simp only [transAlts] at hm
        split at hm
        · rename_i l hl
          rcases List.mem_cons.1 hm with rfl | hm
          · exact ⟨H.1, H.2, hl, rfl⟩
          · exact ih hm
        · exact ih hm
    obtain ⟨H', F', htr, hn⟩ := key _ hal
    refine region_sound hmix hm0 hN hG hX htr (s := s.fgt al.1) (fun d hd => fgt_fresh s (by rw [hn]; exact hd)) hs (fgt_sound hS al.1) (fun s' a' w' E' hK hS' => ⟨.normal, s'.kill _, E', rfl, hK, kill_sound hS' _⟩)
  | seq a b iha ihb =>
    intro sc h Q s hs ac w E hS
    simp only [transCode] at h
    split at h <;> try (cases h; done)
    rename_i a' b' ha hb
    cases h
    refine wp_seq (wp_mono (iha ha hs hS) ?_)
    rintro x a2 w2 ⟨e, s2, E2, rfl, hq, hS2⟩
    cases e with
    | normal => exact ihb hb hq hS2
    | exit id => exact ⟨.exit id, s2, E2, rfl, hq, hS2⟩
    | ret => exact ⟨.ret, s2, E2, rfl, hq, hS2⟩
  | cond cnd a b iha ihb =>
    intro sc h Q s hs ac w E hS
    simp only [transCode] at h
    split at h <;> try (cases h; done)
    rename_i a' b' ha hb
    cases h
    obtain ⟨t, h1, h2⟩ := hs
    have hv := val_rel (y := .bool t) (arg_rel hS h1) rfl
    refine wp_cond hv ?_
    cases t with
    | true => exact iha ha h2 hS
    | false => exact ihb hb h2 hS
  | block id a ih =>
    intro sc h Q s hs ac w E hS
    simp only [transCode] at h
    obtain ⟨a', ha, rfl⟩ := Option.map_eq_some_iff.1 h
    refine wp_block (wp_mono (ih ha hs hS) ?_)
    rintro x a2 w2 ⟨e, s2, E2, rfl, hq, hS2⟩
    cases e with
    | normal => exact ⟨.normal, s2, E2, rfl, hq, hS2⟩
    | ret => exact ⟨.ret, s2, E2, rfl, hq, hS2⟩
    | exit j =>
      simp only [SExit.to, Exit.inBlock]
      simp only [blockW] at hq
      split
      · rename_i hj; simp only [hj, if_true] at hq; exact ⟨.normal, s2, E2, rfl, hq, hS2⟩
      · rename_i hj; simp only [hj, if_false] at hq; exact ⟨.exit j, s2, E2, rfl, hq, hS2⟩
  | loop a ih =>
    intro sc h Q s hs ac w E hS
    simp only [transCode] at h
    obtain ⟨a', ha, rfl⟩ := Option.map_eq_some_iff.1 h
    obtain ⟨I, n, ⟨s0, hle, h0⟩, hround⟩ := hs
    obtain ⟨E0, hS0⟩ := hle B ac w E hm0 hN hS
    have hex : ∃ n, ∃ s E, I n s ∧ Sim B s.fs ac w E := ⟨n, s0, E0, h0, hS0⟩
    let J : Act → World → Prop := fun a w => ∃ n s E, I n s ∧ Sim B s.fs a w E
    refine wp_loop J (leastOf fun a w n => ∃ s E, I n s ∧ Sim B s.fs a w E) hex (fun a1 w1 hJ => ?_)
    obtain ⟨⟨s1, E1, hI1, hS1⟩, _⟩ := leastOf_spec (p := fun a w n => ∃ s E, I n s ∧ Sim B s.fs a w E) hJ
    refine wp_mono (ih ha (hround _ s1 hI1) hS1) ?_
    rintro x a2 w2 ⟨e, s2, E2, rfl, hq, hS2⟩
    cases e with
    | normal =>
      obtain ⟨m, hm, s3, hle, hI2⟩ := hq
      obtain ⟨E3, hS3⟩ := hle B a2 w2 E2 hm0 hN hS2
      have hJ2 : ∃ n, ∃ s E, I n s ∧ Sim B s.fs a2 w2 E := ⟨m, s3, E3, hI2, hS3⟩
      exact ⟨hJ2, Nat.lt_of_le_of_lt ((leastOf_spec (p := fun a w n => ∃ s E, I n s ∧ Sim B s.fs a w E) hJ2).2 m ⟨s3, E3, hI2, hS3⟩) hm⟩
    | exit id => exact ⟨.exit id, s2, E2, rfl, hq, hS2⟩
    | ret => exact ⟨.ret, s2, E2, rfl, hq, hS2⟩
  | _ => intro sc h; simp [transCode] at h
end
end Go.Sh
