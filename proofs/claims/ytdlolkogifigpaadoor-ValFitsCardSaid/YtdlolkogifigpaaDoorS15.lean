/- Sh: functions: what a call begins with, and answers; running code on known data. No statement of the program is proved here. -/
import Derived.Test.YtdlolkogifigpaaDoorS14
set_option linter.unusedSimpArgs false
set_option linter.unusedVariables false
namespace Go.Sh
open Go Go.RowKit
set_option maxHeartbeats 4000000

inductive SRes where
  | tmp (t : Nat)
  | cell (agg : Bool) (size : Nat) (t : Nat)
structure SFunc where
  N : Nat
  code : SCode
  res : List SRes
  keep : Bool
def SRes.get (s : FS) : SRes → Option TV
  | .tmp t => s.t t
  | .cell agg size t => match s.t t with
    | some (.ptr d o) => (s.b d).bind fun cs => if agg then (if o + size ≤ cs.length then some (.agg ((cs.drop o).take size)) else none) else cs[o]?
    | _ => none
def resT (s : FS) : List SRes → Option TV
  | [r] => r.get s
  | rs => (seqO (SRes.get s) rs).map .tuple
def transRes (P : Program) : ResultVar → Option SRes
  | .tmp t => some (.tmp t)
  | .cell a t => match P.underlying t, P.info? t with
    | some d, some i => some (if d.isRow then .cell true i.size a else .cell false 1 a)
    | _, _ => none
def transFunc (P : Program) (f : Nat) (H : Nat → Option Nat → Nat) (Fp : Nat → List (Nat → Option Nat)) (K : Nat → List Nat) (keep : Bool) : Option SFunc :=
  match P.funcs[f]? with
  | some fn => match fn.body with
    | some c => if fn.name != "runtime.NumGoroutine" && Nat.ble fn.ntmps 1000 then match transCode P fn.ntmps H Fp K c, seqO (transRes P) fn.results.toList with
        | some sc, some rs => some ⟨fn.ntmps, sc, rs, keep⟩
        | _, _ => none
      else none
    | none => none
  | none => none
def TV.ids3 : TV → List Nat
  | .tuple cs => cs.flatMap TV.ids2
  | t => t.ids2
def idsFrom : Nat → Nat → List Nat
  | _, 0 => []
  | k, n + 1 => k :: idsFrom (k + 1) n
/-- What a call answers. -/
def exitF (F : SFunc) (n : Nat) (s : ES) : Option (TV × List MO) :=
  match resT s.fs F.res with
  | some y0 =>
    let I0 := idsFrom 1000 n
    let al := reach s.fs F.keep 64 (y0.ids3 ++ I0.flatMap fun d => match s.fs.b d with | some cs => cs.flatMap TV.ids1 | none => []) I0
    match y0.ren3 (rhoIn al), seqO (fun d => (s.fs.mo d).bind (MO.ren (rhoIn al))) al with
    | some y, some os' => some (y, os')
    | _, _ => none
  | none => none
def numT : Nat → List TV → List (Nat × TV)
  | _, [] => []
  | k, x :: l => (k, x) :: numT (k + 1) l
def numB : Nat → List MO → List (Nat × List TV)
  | _, [] => []
  | k, .box cs :: l => (k, cs) :: numB (k + 1) l
  | k, .row _ _ _ :: l => numB (k + 1) l
def numR : Nat → List MO → List (Nat × (Nat × Nat × Nat))
  | _, [] => []
  | k, .box _ :: l => numR (k + 1) l
  | k, .row e W n :: l => (k, (e, W, n)) :: numR (k + 1) l
def startE (xs : List TV) (os : List MO) : ES := ⟨numT 0 xs, numB 1000 os, numR 1000 os, []⟩

theorem beq_false {a b : Nat} (h : a ≠ b) : Nat.beq a b = false := by cases hb : Nat.beq a b with | false => rfl | true => exact absurd (Nat.eq_of_beq_eq_true hb) h
theorem lk_numT : ∀ (xs : List TV) (k d : Nat), lk (numT k xs) d = if k ≤ d then xs[d - k]? else none
  | [], k, d => by simp [numT, lk]
  | x :: l, k, d => by
    simp only [numT, lk]
    by_cases h : k = d
    · subst h; simp [Nat.beq_refl]
    · rw [beq_false h]
      simp only [lk_numT l]
      by_cases h1 : k ≤ d
      · have h2 : k + 1 ≤ d := by omega
        rw [if_pos h1, if_pos h2, show d - k = (d - (k + 1)) + 1 by omega]
        simp
      · rw [if_neg h1, if_neg (by omega)]
theorem lk_numB : ∀ (os : List MO) (k d : Nat), lk (numB k os) d = if k ≤ d then (match os[d - k]? with | some (.box cs) => some cs | _ => none) else none
  | [], k, d => by simp [numB, lk]
  | m :: l, k, d => by
    have ih := lk_numB l (k + 1) d
    by_cases h : k = d
    · subst h
      cases m with
      | box cs => simp [numB, lk, Nat.beq_refl]
      | row e W n => simp only [numB]; rw [ih, if_neg (by omega)]; simp
    · have : lk (numB k (m :: l)) d = lk (numB (k + 1) l) d := by cases m with | box cs => simp only [numB, lk, beq_false h] | row e W n => simp only [numB]
      rw [this, ih]
      by_cases h1 : k ≤ d
      · rw [if_pos h1, if_pos (by omega), show d - k = (d - (k + 1)) + 1 by omega]; simp
      · rw [if_neg h1, if_neg (by omega)]
theorem lk_numR : ∀ (os : List MO) (k d : Nat), lk (numR k os) d = if k ≤ d then (match os[d - k]? with | some (.row e W n) => some (e, W, n) | _ => none) else none
  | [], k, d => by simp [numR, lk]
  | m :: l, k, d => by
    have ih := lk_numR l (k + 1) d
    by_cases h : k = d
    · subst h
      cases m with
      | box cs => simp only [numR]; rw [ih, if_neg (by omega)]; simp
      | row e W n => simp [numR, lk, Nat.beq_refl]
    · have : lk (numR k (m :: l)) d = lk (numR (k + 1) l) d := by cases m with | box cs => simp only [numR] | row e W n => simp only [numR, lk, beq_false h]
      rw [this, ih]
      by_cases h1 : k ≤ d
      · rw [if_pos h1, if_pos (by omega), show d - k = (d - (k + 1)) + 1 by omega]; simp
      · rw [if_neg h1, if_neg (by omega)]
theorem idsFrom_get : ∀ (n k j : Nat), (idsFrom k n)[j]? = if j < n then some (k + j) else none
  | 0, k, j => by simp [idsFrom]
  | n + 1, k, j => by
    simp only [idsFrom]
    cases j with
    | zero => simp
    | succ j =>
      simp only [List.getElem?_cons_succ, idsFrom_get n (k + 1) j]
      by_cases h : j < n
      · rw [if_pos h, if_pos (by omega)]; congr 1; omega
      · rw [if_neg h, if_neg (by omega)]
theorem idsFrom_nodup (n k : Nat) : (idsFrom k n).Nodup ∧ (idsFrom k n).length = n ∧ ∀ d ∈ idsFrom k n, k ≤ d := by
  induction n generalizing k with
  | zero => simp [idsFrom]
  | succ n ih =>
    obtain ⟨h1, h2, h3⟩ := ih (k + 1)
    simp only [idsFrom]
    refine ⟨List.nodup_cons.2 ⟨fun h => by have := h3 k h; omega, h1⟩, by simp [h2], fun d hd => ?_⟩
    rcases List.mem_cons.1 hd with rfl | hd
    · exact Nat.le_refl _
    · have := h3 d hd; omega
theorem reach_prefix {s : FS} {rows : Bool} : ∀ (n : Nat) (l seen : List Nat), seen.Nodup → (reach s rows n l seen).Nodup ∧ ∃ t, reach s rows n l seen = seen ++ t
  | 0, l, seen, h => by simp only [reach]; exact ⟨h, [], by simp⟩
  | n + 1, [], seen, h => by simp only [reach]; exact ⟨h, [], by simp⟩
  | n + 1, d :: l, seen, h => by
    simp only [reach]
    cases hp : pos seen d with
    | some j => exact reach_prefix n l seen h
    | none =>
      have hnd : (seen ++ [d]).Nodup := List.nodup_append.2 ⟨h, by simp, by
        intro x hx y hy; simp at hy; subst hy; rintro rfl; exact pos_none hp hx⟩
      have key : ∀ l', (reach s rows n l' (seen ++ [d])).Nodup ∧ ∃ t, reach s rows n l' (seen ++ [d]) = seen ++ t := fun l' => by
        obtain ⟨h1, t, h2⟩ := reach_prefix (s := s) (rows := rows) n l' (seen ++ [d]) hnd
        exact ⟨h1, [d] ++ t, by rw [h2]; simp⟩
      cases s.b d with
      | some cs => exact key _
      | none =>
        cases s.r d with
        | none => exact reach_prefix n l seen h
        | some q =>
          cases rows with
          | true => exact key _
          | false => exact reach_prefix n l seen h

section
variable {P : Program} {g : Glob} {s : FS} {a : Act} {w : World} {E : Env} {B : Base}
theorem res_run {rv : ResultVar} {sr : SRes} (htr : transRes P rv = some sr) (h : Sim B s a w E) {y : TV} (hy : sr.get s = some y) :
    ∃ v, (match rv with | .tmp t => (pure (a.tmps.getD t undef) : Sem Value) | .cell q t => do loadVar t (← asAddr (a.tmps.getD q undef))).run P w = .ok v w ∧ RelT w E s.r y v := by
  cases rv with
  | tmp t =>
    simp only [transRes] at htr; cases htr
    exact ⟨_, rfl, (h.tmp t y hy).2⟩
  | cell q t =>
    simp only [transRes] at htr
    split at htr <;> try (cases htr; done)
    rename_i d i hu hi
    cases htr
    have fin : ∀ (dd off : Nat) (cs : List TV), s.t q = some (.ptr dd off) → s.b dd = some cs → (if d.isRow then (off + i.size ≤ cs.length ∧ y = .agg ((cs.drop off).take i.size)) else cs[off]? = some y) →
        ∃ v, (do loadVar t (← asAddr (a.tmps.getD q undef)) : Sem Value).run P w = .ok v w ∧ RelT w E s.r y v := by
      intro dd off cs hq hb hy
      have hx := (h.tmp q _ hq).2
      generalize hv : a.tmps.getD q undef = v at hx
      cases hx
      obtain ⟨hbox, _⟩ := h.mem.box dd cs hb
      cases hd : d.isRow with
      | true =>
        simp only [hd, if_true] at hy
        obtain ⟨vs, hrel, hcell⟩ := box_rel hbox
        have hl : ((vs.drop off).take i.size).length = i.size := by have := hrel.len; simp; omega
        have hrun := run_loadVar_any (P := P) (w := w) (E.β dd) off t d i ((vs.drop off).take i.size) hu hi (fun j v hv' => by
          have hj : j < i.size := by have := (List.getElem?_eq_some_iff.1 hv').1; omega
          simp [hj] at hv'
          exact hcell _ _ hv') (by simp only [hd, if_true]; exact hl)
        simp only [hd, if_true] at hrun
        exact ⟨.agg ((vs.drop off).take i.size).toArray, by simp [asAddr, hrun, Result.andThen], by rw [hy.2]; exact ((hrel.drop off).take _).agg⟩
      | false =>
        simp only [hd, Bool.false_eq_true, if_false] at hy
        obtain ⟨v, c1, c2, c3⟩ := hbox.cell off y hy
        have hrun := run_loadVar_any (P := P) (w := w) (E.β dd) off t d i [v] hu hi (fun j u hu' => by
          cases j with
          | zero => simp at hu'; subst hu'; exact c1
          | succ j => simp at hu') (by simp [hd])
        simp only [hd, Bool.false_eq_true, if_false] at hrun
        exact ⟨v, by simp [asAddr, hrun, Result.andThen], c3⟩
    cases hd : d.isRow with
    | true =>
      simp only [hd, if_true, SRes.get] at hy
      split at hy
      · rename_i dd off hq
        obtain ⟨cs, hb, hy⟩ := Option.bind_eq_some_iff.1 hy
        split at hy
        · rename_i hle; cases hy
          exact fin dd off cs hq hb (by rw [if_pos hd]; exact ⟨hle, rfl⟩)
        · cases hy
      · cases hy
    | false =>
      simp only [hd, Bool.false_eq_true, if_false, SRes.get] at hy
      split at hy
      · rename_i dd off hq
        obtain ⟨cs, hb, hy⟩ := Option.bind_eq_some_iff.1 hy
        exact fin dd off cs hq hb (by simp only [hd, Bool.false_eq_true, if_false]; exact hy)
      · cases hy
def resSem (a : Act) : ResultVar → Sem Value
  | .tmp t => pure (a.tmps.getD t undef)
  | .cell q t => do loadVar t (← asAddr (a.tmps.getD q undef))
theorem mapM_run {α : Type} (F : α → Sem Value) : ∀ (l : List α) (vs : List Value), l.length = vs.length → (∀ (j : Nat) x v, l[j]? = some x → vs[j]? = some v → (F x).run P w = .ok v w) → (l.mapM F).run P w = .ok vs w
  | [], [], _, _ => rfl
  | x :: l, v :: vs, hl, h => by
    have h1 := h 0 x v rfl rfl
    have h2 := mapM_run F l vs (by simpa using hl) (fun j x v hx hv => h (j + 1) x v (by simpa using hx) (by simpa using hv))
    simp [List.mapM_cons, h1, h2, Result.andThen]
  | [], _ :: _, hl, _ => by simp at hl
  | _ :: _, [], hl, _ => by simp at hl
theorem results_run {fn : Func} {rs : List SRes} (htr : seqO (transRes P) fn.results.toList = some rs) (h : Sim B s a w E) {y : TV} (hy : resT s rs = some y) : ∃ v, (results fn a.tmps).run P w = .ok v w ∧ RelT w E s.r y v := by
  have key : ∀ (l : List ResultVar) (rs : List SRes), seqO (transRes P) l = some rs → ∀ (ys : List TV), seqO (SRes.get s) rs = some ys → ∃ vs : List Value, l.length = vs.length ∧ (∀ (j : Nat) x v, l[j]? = some x → vs[j]? = some v → (resSem a x).run P w = .ok v w) ∧ ys.length = vs.length ∧ ∀ (j : Nat) c v, ys[j]? = some c → vs[j]? = some v → RelT w E s.r c v := by
    intro l
    induction l with
    | nil => intro rs h1 ys h2; simp [seqO] at h1; subst h1; simp [seqO] at h2; subst h2; exact ⟨[], rfl, by simp, rfl, by simp⟩
    | cons rv l ih =>
      intro rs h1 ys h2
      obtain ⟨sr, rs', h3, h4, rfl⟩ := seqO_cons h1
      obtain ⟨y, ys', h5, h6, rfl⟩ := seqO_cons h2
      obtain ⟨vs, a0, a1, a2, a3⟩ := ih rs' h4 ys' h6
      obtain ⟨v, b1, b2⟩ := res_run h3 h h5
      have b1' : (resSem a rv).run P w = .ok v w := by cases rv <;> exact b1
      refine ⟨v :: vs, by simp [a0], fun j x u hx hu => ?_, by simp [a2], fun j c u hc hu => ?_⟩
      · cases j with
        | zero => simp at hx hu; subst hx; subst hu; exact b1'
        | succ j => exact a1 j x u (by simpa using hx) (by simpa using hu)
      · cases j with
        | zero => simp at hc hu; subst hc; subst hu; exact b2
        | succ j => exact a3 j c u (by simpa using hc) (by simpa using hu)
  have hres : ∀ vs : List Value, (fn.results.toList.mapM (resSem a)).run P w = .ok vs w → (results fn a.tmps).run P w = .ok (if h : vs.length = 1 then vs[0] else .tuple vs.toArray) w := by
    intro vs hvs
    have harr : (fn.results.mapM (resSem a)).run P w = .ok vs.toArray w := by
      rw [← Array.toArray_toList (xs := fn.results), List.mapM_toArray]
      simp [hvs, Result.andThen]
    have e : results fn a.tmps = (fn.results.mapM (resSem a)) >>= fun vs => pure (if h : vs.size = 1 then vs[0] else .tuple vs) := by
      unfold results
      congr 1
    rw [e, Sem.run_bind, harr]
    rfl
  have hmany : ∀ ys, seqO (SRes.get s) rs = some ys → (rs.length = 1 → ys = [y]) → (rs.length ≠ 1 → y = .tuple ys) → ∃ v, (results fn a.tmps).run P w = .ok v w ∧ RelT w E s.r y v := by
    intro ys hys h1 h2
    obtain ⟨vs, a0, a1, a2, a3⟩ := key _ rs htr ys hys
    have hl1 := (seqO_spec htr).1
    refine ⟨_, hres vs (mapM_run _ _ _ a0 a1), ?_⟩
    by_cases hone : vs.length = 1
    · rw [dif_pos hone]
      have hr1 : rs.length = 1 := by omega
      rw [h1 hr1] at a3
      exact a3 0 y _ rfl (List.getElem?_eq_getElem (by omega))
    · rw [dif_neg hone]
      have hr1 : rs.length ≠ 1 := by omega
      rw [h2 hr1]
      exact .tuple ys vs a2 a3
  match rs, hy, hmany with
  | [], hy, hmany => simp [resT, seqO] at hy; exact hmany [] rfl (by simp) (fun _ => hy.symm)
  | [r], hy, hmany => exact hmany [y] (by simp only [resT] at hy; simp [seqO, hy]) (fun _ => rfl) (by simp)
  | r :: r2 :: rr, hy, hmany =>
    simp only [resT] at hy
    obtain ⟨ys, h1, h2⟩ := Option.map_eq_some_iff.1 hy
    exact hmany ys h1 (by simp) (fun _ => h2.symm)

/-- A function, by what its code needs. -/
theorem call_of_swp {f : Nat} {H : Nat → Option Nat → Nat} {Fp : Nat → List (Nat → Option Nat)} {K : Nat → List Nat} {keep : Bool} {F : SFunc} (hmix : P.follows .mixedOrders = true) (hF : transFunc P f H Fp K keep = some F) {xs : List TV} {os os' : List MO} {y : TV} (hn : xs.length ≤ F.N) (hos : os.length ≤ 1000) (hmo : moOk os os' = true)
    (h : swp P g F.code (fun e s => (e = .ret ∨ e = .normal) ∧ exitF F os.length s = some (y, os')) (startE xs os)) : SCalls P g f xs os y os' := by
  unfold transFunc at hF
  split at hF <;> try (cases hF; done)
  rename_i fn hfn
  split at hF <;> try (cases hF; done)
  rename_i c hc
  split at hF <;> try (cases hF; done)
  rename_i hname
  split at hF <;> try (cases hF; done)
  rename_i sc rs hsc hrs
  cases hF
  rw [Bool.and_eq_true] at hname
  have hnm : ¬ fn.name = "runtime.NumGoroutine" := by simpa using hname.1
  have hN : fn.ntmps ≤ 1000 := Nat.le_of_ble_eq_true hname.2
  refine ⟨⟨fn, c, hfn, hc, hnm⟩, fun w E vs hG hm hX hl hxs => ?_⟩
  let B : Base := start w E os fn.ntmps
  have hmB : MSim B (objB os) (objR os) w E := ⟨hm.box, hm.row, hm.bb, hm.br, hm.rr, hm.lt, hm.low, hm.keep, hm.knew, ⟨hm.pas.β, hm.pas.γ, hm.pas.row⟩⟩
  have hfs : (startE xs os).fs = ⟨fun k => xs[k]?, objB os, objR os, fun _ => none⟩ := by
    refine FS.ext' (fun k => ?_) (fun k => ?_) (fun k => ?_) (fun k => rfl)
    · show lk (numT 0 xs) k = _; rw [lk_numT]; simp
    · show lk (numB 1000 os) k = _; rw [lk_numB]; rfl
    · show lk (numR 1000 os) k = _; rw [lk_numR]; rfl
  have hsize : (vs.toArray ++ Array.replicate (fn.ntmps - vs.toArray.size) undef).size = fn.ntmps := by
    have : xs.length ≤ fn.ntmps := hn
    simp; omega
  have hS : Sim B (startE xs os).fs { tmps := vs.toArray ++ Array.replicate (fn.ntmps - vs.toArray.size) undef, defers := [] } w E := by
    rw [hfs]
    refine ⟨rfl, hsize, fun k x hx => ?_, hmB, fun d z p hd => (by cases hd), fun d d' q q' hd => (by cases hd)⟩
    have hk : k < xs.length := (List.getElem?_eq_some_iff.1 hx).1
    refine ⟨Nat.lt_of_lt_of_le hk hn, ?_⟩
    have hkv : k < vs.length := by omega
    have hv : (vs.toArray ++ Array.replicate (fn.ntmps - vs.toArray.size) undef).getD k undef = vs[k] := by
      rw [Array.getD_eq_getD_getElem?, Array.getElem?_append_left (by simpa using hkv)]
      simp [hkv]
    show RelT w E (objR os) x ((vs.toArray ++ Array.replicate (fn.ntmps - vs.toArray.size) undef).getD k undef)
    rw [hv]
    exact hxs k x _ hx (List.getElem?_eq_getElem hkv)
  refine calls_of_wp hfn hc (wp_mono (swp_sound (B := B) hmix hos hN hG hX hsc h hS) ?_)
  rintro x a' w' ⟨e, s', E', rfl, ⟨he, hex⟩, hS'⟩
  have fin : a'.defers = [] ∧ ∃ v, (results fn a'.tmps).run P w' = .ok v w' ∧ (∃ v_1 E'_1, Ending.returned v = Ending.returned v_1 ∧ MSim (start w E os 0) (objB os') (objR os') w' E'_1 ∧ RelT w' E'_1 (objR os') y v_1 ∧ Left E os E'_1 os') := by
    refine ⟨hS'.defers, ?_⟩
    unfold exitF at hex
    split at hex <;> try (cases hex; done)
    rename_i y0 hy0
    obtain ⟨v, hrun, hrel⟩ := results_run (fn := fn) hrs hS' hy0
    refine ⟨v, hrun, v, ?_⟩
    simp only [] at hex
    obtain ⟨i1, i2, i3⟩ := idsFrom_nodup os.length 1000
    generalize hal : reach s'.fs keep 64 (y0.ids3 ++ (idsFrom 1000 os.length).flatMap fun d => match s'.fs.b d with | some cs => cs.flatMap TV.ids1 | none => []) (idsFrom 1000 os.length) = al at hex
    obtain ⟨hnd, t, hpre⟩ := reach_prefix (s := s'.fs) (rows := keep) 64 (y0.ids3 ++ (idsFrom 1000 os.length).flatMap fun d => match s'.fs.b d with | some cs => cs.flatMap TV.ids1 | none => []) _ i1
    rw [hal] at hnd hpre
    split at hex <;> try (cases hex; done)
    rename_i y1 os1 hren hmos
    cases hex
    have hpas : ∀ j, j < os.length → al[j]? = some (1000 + j) := fun j hj => by
      rw [hpre, List.getElem?_append_left (by omega), idsFrom_get, if_pos hj]
    have hM := call_pre hS' hnd hmos
    obtain ⟨hlen, hBx, hRx⟩ := handed hmos
    have hβ : ∀ {i j}, al[j]? = some i → (envIn E' al).β (1000 + j) = E'.β i := fun hj => by simp only [envIn]; rw [getD_of hj]
    have hγ : ∀ {i j}, al[j]? = some i → (envIn E' al).γ (1000 + j) = E'.γ i := fun hj => by simp only [envIn]; rw [getD_of hj]
    have hXs : ∀ {i j b}, al[j]? = some i → objX E os i b → objX E os (1000 + j) b := by
      intro i j b hj hx
      have hi : ∃ q, i = 1000 + q ∧ q < os.length := by
        rcases hx with ⟨cs, h1, _⟩ | ⟨⟨e, W, n⟩, cap, h1, _⟩
        · obtain ⟨q, rfl, hq⟩ := objB_inv h1; exact ⟨q, rfl, (List.getElem?_eq_some_iff.1 hq).1⟩
        · obtain ⟨q, rfl, hq⟩ := objR_inv h1; exact ⟨q, rfl, (List.getElem?_eq_some_iff.1 hq).1⟩
      obtain ⟨q, rfl, hq⟩ := hi
      have a1 := pos_get hnd hj
      have a2 := pos_get hnd (hpas q hq)
      rw [a1] at a2
      obtain rfl : j = q := Option.some.inj a2
      exact hx
    have hM' : MSim (start w E os 0) (objB os') (objR os') w' (envIn E' al) := by
      refine ⟨fun d cs' hd => ?_, fun d e W n hd => ?_, hM.bb, hM.br, hM.rr, hM.lt, hS'.mem.low, hS'.mem.keep, hS'.mem.knew, ⟨fun d ho => ?_, fun d ho h0 => ?_, fun d e W n ho hd => ?_⟩⟩
      · refine ⟨(hM.box d cs' hd).1, ?_⟩
        obtain ⟨j, rfl, hj⟩ := objB_inv hd
        obtain ⟨i, cs, q1, q2, _⟩ := hBx j cs' hj
        rw [hβ q1]
        rcases (hS'.mem.box i cs q2).2 with h1 | h1
        · exact .inl h1
        · exact .inr (hXs q1 h1)
      · obtain ⟨j, rfl, hj⟩ := objR_inv hd
        obtain ⟨i, q1, q2, q3⟩ := hRx j e W n hj
        rw [hγ q1]
        rcases hS'.mem.row i e W n q3 with h1 | ⟨k, cap, h1, h2, h3⟩
        · exact .inl h1
        · exact .inr ⟨k, cap, h1, h2.imp id (hXs q1), h3.cells, h3.le, h3.max, h3.out⟩
      · obtain ⟨q, rfl⟩ : ∃ q, d = 1000 + q := ⟨d - 1000, by have := ho.1; omega⟩
        have hq : q < os.length := by have := ho.2; have h2 : 1000 + q < 1000 + os.length := this; omega
        rw [hβ (hpas q hq)]; exact hS'.mem.pas.β _ ho
      · obtain ⟨q, rfl⟩ : ∃ q, d = 1000 + q := ⟨d - 1000, by have := ho.1; omega⟩
        have hq : q < os.length := by have := ho.2; have h2 : 1000 + q < 1000 + os.length := this; omega
        rw [hγ (hpas q hq)]; exact hS'.mem.pas.γ _ ho h0
      · obtain ⟨q, rfl⟩ : ∃ q, d = 1000 + q := ⟨d - 1000, by have := ho.1; omega⟩
        have hq : q < os.length := by have := ho.2; have h2 : 1000 + q < 1000 + os.length := this; omega
        obtain ⟨j, hj0, hj⟩ := objR_inv hd
        obtain rfl : q = j := by omega
        obtain ⟨i, q1, q2, q3⟩ := hRx q e W n hj
        rw [hpas q hq] at q1; cases q1
        rw [hγ (hpas q hq)]
        exact hS'.mem.pas.row _ e W n ho q3
    refine ⟨envIn E' al, rfl, hM', ren3_rel (renIn hmos) (fun _ _ _ h _ => h) hrel hren, ⟨fun d h1 h2 => hM'.pas.β d ⟨h1, h2⟩, fun d h1 h2 h0 => hM'.pas.γ d ⟨h1, h2⟩ h0, fun d e W n hd => ?_⟩⟩
    obtain ⟨q, rfl, hq⟩ := objR_inv hd
    have hql : q < os.length := (List.getElem?_eq_some_iff.1 hq).1
    obtain ⟨n', h1, h2⟩ := (moOk_spec hmo).2.2.2 q e W n hq
    obtain ⟨n0, h3, h4, h5⟩ := hM'.pas.row (1000 + q) e W n' ⟨by omega, by show 1000 + q < 1000 + os.length; omega⟩ (objR_eq h1)
    have h3 : objR os (1000 + q) = some (e, W, n0) := h3
    rw [hd] at h3; cases h3
    exact ⟨n', objR_eq h1, h4, h5⟩
  rcases he with rfl | rfl
  · exact fin
  · exact fin
end
end Go.Sh
